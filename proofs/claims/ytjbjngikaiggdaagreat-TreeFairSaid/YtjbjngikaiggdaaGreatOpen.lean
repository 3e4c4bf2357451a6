/- Arguments that read as data, opened by their types. Conditions: none. -/
import Derived.Test.YtjbjngikaiggdaaGreatBase
import Derived.ChangeArms
import Derived.ChangeSlices
import Derived.WideShapes
import Derived.SizedLaws
namespace Go.Proofs.YtjbjngikaiggdaaGreat
open Go.RowKit Go.ChangeShapes Go.WideShapes

def kE (k : IntKind) : Enc Int := ⟨1, by decide, fun n => [.int k n], fun _ => rfl, by intro a u hu; simp at hu; subst hu; rfl⟩
def boE : Enc Bool := ⟨1, by decide, fun n => [.bool n], fun _ => rfl, by intro a u hu; simp at hu; subst hu; rfl⟩
/-- A slice's value, and what it shows. -/
structure SV (α : Type) where
  a : Option Addr
  c : Nat
  l : List α
def SV.v {α : Type} (s : SV α) : Value := .slice s.a s.l.length s.c
def svE (α : Type) : Enc (SV α) := ⟨1, by decide, fun s => [s.v], fun _ => rfl, by intro a u hu; simp at hu; subst hu; rfl⟩
def prE {α β : Type} (E : Enc α) (F : Enc β) : Enc (α × β) :=
  ⟨E.k + F.k, by have := E.kpos; omega, fun p => E.enc p.1 ++ F.enc p.2, by intro p; simp [E.len, F.len], by intro p u hu; rcases List.mem_append.1 hu with h | h; exact E.one _ u h; exact F.one _ u h⟩

/-- Whatever cells read as a type's data are some value's. -/
def Opens {α : Type} (P : Program) (w : World) (e : TypeId) (E : Enc α) (D : α → Prop) : Prop :=
  P.cellsOf e = E.k ∧ ∀ (H : Type) (enc : TypeId × Value → H) (base : Nat) (spare : Nat → Bool) (held : Bool) (fuel : Nat) (cs : List Value) (x : DataW H × List MemPlace), DataW.trod enc P w base spare held fuel e cs = some x → ∃ a, cs = E.enc a ∧ D a

variable {α β : Type} {P : Program} {w : World}
theorem Opens.int {e : TypeId} {k : IntKind} (he : P.underlying e = some (.int k)) (hc : P.cellsOf e = 1) : Opens P w e (kE k) (fun n => (Lit.int k n).wf = true) :=
  ⟨hc, fun H enc base spare held fuel cs x h => by obtain ⟨n, rfl, _, hw⟩ := DataW.trod_int he h; exact ⟨n, rfl, hw⟩⟩
theorem Opens.bool {e : TypeId} (he : P.underlying e = some .bool) (hc : P.cellsOf e = 1) : Opens P w e boE (fun _ => True) :=
  ⟨hc, fun H enc base spare held fuel cs x h => by obtain ⟨n, rfl, _⟩ := DataW.trod_bool he h; exact ⟨n, rfl, trivial⟩⟩
theorem Opens.mono {e : TypeId} {E : Enc α} {D D' : α → Prop} (h : Opens P w e E D) (hd : ∀ a, D a → D' a) : Opens P w e E D' :=
  ⟨h.1, fun H enc base spare held fuel cs x hx => by obtain ⟨a, e, ha⟩ := h.2 H enc base spare held fuel cs x hx; exact ⟨a, e, hd a ha⟩⟩
theorem Opens.map {e : TypeId} {E : Enc α} {F : Enc β} {D : α → Prop} (h : Opens P w e E D) (f : α → β) (hf : ∀ a, E.enc a = F.enc (f a)) (hk : E.k = F.k) : Opens P w e F (fun b => ∃ a, b = f a ∧ D a) :=
  ⟨h.1.trans hk, fun H enc base spare held fuel cs x hx => by obtain ⟨a, e, ha⟩ := h.2 H enc base spare held fuel cs x hx; exact ⟨f a, by rw [e, hf], a, rfl, ha⟩⟩

theorem cells?_get {base : Nat} {a : Addr} {n : Nat} {cs : List Value} (h : w.cells? base a n = some cs) : ∀ j u, cs[j]? = some u → w.cell? (a.add j) = some u := by
  obtain ⟨_, hl, hc⟩ := World.cells?_some h
  intro j u hu
  have hj : j < n := by rw [← hl]; exact (List.getElem?_eq_some_iff.1 hu).1
  rw [hc j hj, hu]

theorem add_add (a : Addr) (i j : Nat) : (a.add i).add j = a.add (i + j) := by
  obtain ⟨b, o, s⟩ := a
  by_cases hi : i = 0
  · subst hi; simp [Addr.add]
  · by_cases hj : j = 0
    · subst hj; simp [Addr.add]
    · simp [Addr.add, hi, hj, Nat.add_assoc]

theorem choose_list {n : Nat} {Q : Nat → α → Prop} : (∀ i, i < n → ∃ a, Q i a) → ∃ l : List α, l.length = n ∧ ∀ i a, l[i]? = some a → Q i a := by
  induction n with
  | zero => intro _; exact ⟨[], rfl, by simp⟩
  | succ n ih =>
    intro h
    obtain ⟨l, hl, hq⟩ := ih (fun i hi => h i (by omega))
    obtain ⟨a, ha⟩ := h n (by omega)
    refine ⟨l ++ [a], by simp [hl], fun i b hb => ?_⟩
    by_cases hi : i < n
    · rw [List.getElem?_append_left (by omega)] at hb; exact hq i b hb
    · rw [List.getElem?_append_right (by omega)] at hb
      have : i - l.length = 0 := by
        have := (List.getElem?_eq_some_iff.1 hb).1; simp at this; omega
      rw [this] at hb; simp at hb; subst hb
      have : i = n := by omega
      subst this; exact ha

theorem Enc.flat_at (E : Enc α) : ∀ (xs : List α) (j : Nat) (u : Value), (E.flat xs)[j]? = some u → ∃ i r x, j = i * E.k + r ∧ xs[i]? = some x ∧ (E.enc x)[r]? = some u
  | [], j, u, h => by simp [Enc.flat] at h
  | y :: xs, j, u, h => by
    rw [Enc.flat_cons] at h
    by_cases hj : j < E.k
    · rw [List.getElem?_append_left (by rw [E.len]; exact hj)] at h
      exact ⟨0, j, y, by omega, rfl, h⟩
    · rw [List.getElem?_append_right (by rw [E.len]; omega), E.len] at h
      obtain ⟨i, r, x, e, hx, hr⟩ := Enc.flat_at E xs _ u h
      exact ⟨i + 1, r, x, by rw [Nat.add_mul]; omega, by simpa using hx, hr⟩

/-- A slice, opened. -/
theorem Opens.slice {t e : TypeId} {E : Enc α} {D : α → Prop} (ht : P.underlying t = some (.slice e)) (hc : P.cellsOf t = 1) (h : Opens P w e E D) :
    Opens P w t (svE α) (fun s => Rd E w s.v s.l ∧ ∀ x ∈ s.l, D x) := by
  refine ⟨hc, fun H enc base spare held fuel cs x hx => ?_⟩
  rcases DataW.trod_slice ht hx with ⟨rfl, _⟩ | ⟨a, len, cap, elems, rest, n, _, rfl, _, _, h1, h2, hl, hel, _, _⟩
  · exact ⟨⟨none, 0, []⟩, rfl, ⟨none, 0, rfl, Nat.le_refl _, by simp [maxLen], fun _ => ⟨rfl, rfl⟩, fun a ha => by cases ha⟩, by simp⟩
  · have each : ∀ i, i < len → ∃ x, (∃ cs', w.cells? base (a.add (i * E.k)) E.k = some cs' ∧ cs' = E.enc x) ∧ D x := by
      intro i hi
      have hi' := hel i hi
      rw [List.getElem?_eq_getElem (by omega), Option.bind_eq_some_iff, h.1] at hi'
      obtain ⟨cs', hcs, hy⟩ := hi'
      obtain ⟨y, e, hd⟩ := h.2 _ _ _ _ _ _ _ _ hy
      exact ⟨y, ⟨cs', hcs, e⟩, hd⟩
    obtain ⟨l, rfl, hq⟩ := choose_list each
    refine ⟨⟨some a, cap, l⟩, rfl, ⟨some a, cap, rfl, h1, h2, fun h => (by cases h), fun a' ha' j u hu => ?_⟩, ?_⟩
    · cases ha'
      obtain ⟨i, r, x, rfl, hx, hr⟩ := E.flat_at l j u hu
      obtain ⟨⟨cs', hcs, rfl⟩, _⟩ := hq i x hx
      have := cells?_get hcs r u hr
      rwa [add_add] at this
    · intro x hx
      obtain ⟨i, hi⟩ := List.getElem?_of_mem hx
      exact (hq i x hi).2

/-- The fields of a struct, from a place on. -/
def OpensFs (P : Program) (w : World) (fs : List Field) (o : Nat) (E : Enc α) (D : α → Prop) : Prop :=
  ∀ (H : Type) (enc : TypeId × Value → H) (base : Nat) (spare : Nat → Bool) (held : Bool) (fuel : Nat) (cs : List Value), cs.length = o + E.k →
    (∀ f ∈ fs, ∃ x, DataW.trod enc P w base spare held fuel f.type ((cs.drop f.offset).take (P.cellsOf f.type)) = some x) → ∃ a, cs.drop o = E.enc a ∧ D a
theorem OpensFs.one {f : Field} {o : Nat} {E : Enc α} {D : α → Prop} (ho : f.offset = o) (h : Opens P w f.type E D) : OpensFs P w [f] o E D := by
  intro H enc base spare held fuel cs hl hf
  obtain ⟨x, hx⟩ := hf f (by simp)
  rw [ho, h.1, List.take_of_length_le (by simp [hl])] at hx
  exact h.2 _ _ _ _ _ _ _ _ hx
theorem OpensFs.cons {f : Field} {fs : List Field} {o : Nat} {E : Enc α} {F : Enc β} {D : α → Prop} {G : β → Prop} (ho : f.offset = o) (h : Opens P w f.type E D) (hs : OpensFs P w fs (o + E.k) F G) :
    OpensFs P w (f :: fs) o (prE E F) (fun p => D p.1 ∧ G p.2) := by
  intro H enc base spare held fuel cs hl hf
  obtain ⟨x, hx⟩ := hf f (by simp)
  rw [ho, h.1] at hx
  obtain ⟨a, ha, hd⟩ := h.2 _ _ _ _ _ _ _ _ hx
  obtain ⟨b, hb, hg⟩ := hs H enc base spare held fuel cs (by rw [hl]; simp [prE]; omega) (fun g hg => hf g (by simp [hg]))
  refine ⟨(a, b), ?_, hd, hg⟩
  show cs.drop o = E.enc a ++ F.enc b
  rw [← ha, ← hb, ← List.drop_drop, List.take_append_drop]
/-- A struct, opened. -/
theorem Opens.struct {t : TypeId} {fs : Array Field} {E : Enc α} {D : α → Prop} (ht : P.underlying t = some (.struct fs)) (hc : P.cellsOf t = E.k) (h : OpensFs P w fs.toList 0 E D) : Opens P w t E D := by
  refine ⟨hc, fun H enc base spare held fuel cs x hx => ?_⟩
  obtain ⟨xs, n, _, _, hl, hxs, hf⟩ := DataW.trod_struct ht hx
  have := h H enc base spare held n cs (by rw [hl, hc]; omega) (fun f hf' => by
    obtain ⟨i, hi⟩ := List.getElem?_of_mem hf'
    have hi2 : fs[i]? = some f := by simpa using hi
    have hlt : i < fs.size := (Array.getElem?_eq_some_iff.1 hi2).1
    have := hf i f hi2
    rw [List.getElem?_eq_getElem (by omega)] at this
    exact ⟨_, this⟩)
  simpa using this

/-- An argument that is a slice. -/
theorem Opens.arg {H : Type} {enc : TypeId × Value → H} {base : Nat} {spare : Nat → Bool} {held : Bool} {t e : TypeId} {E : Enc α} {D : α → Prop} {v : Value} {d : DataW H} {ps : List MemPlace} {b0 : Nat} {r : Reach}
    (ht : P.underlying t = some (.slice e)) (hc : P.cellsOf t = 1) (h : Opens P w e E D) (hv : Value.okWide P w r b0 t v) (hd : DataW.Trod enc P w base spare held t v d ps) :
    ∃ ao c l, v = .slice ao (List.length l) c ∧ Rd E w (.slice ao (List.length l) c) l ∧ ∀ x ∈ l, D x := by
  obtain ⟨a, len, cap, rfl⟩ := okWide_slice ht hv
  obtain ⟨fuel, hf⟩ := hd
  obtain ⟨s, hs, h1, h2⟩ := (Opens.slice ht hc h).2 _ _ _ _ _ _ _ _ hf
  obtain ⟨a', c', l⟩ := s
  simp [Value.cells, svE, SV.v] at hs
  obtain ⟨rfl, rfl, rfl⟩ := hs
  exact ⟨_, _, l, rfl, h1, h2⟩
end Go.Proofs.YtjbjngikaiggdaaGreat
