/- Slices that are read; labels, domains, configurations as values. Conditions: none. -/
import Derived.Test.YtjbjngikaiggdaaGreatKn
import Derived.Test.YtjbjngikaiggdaaGreatOpen
set_option linter.unusedVariables false
set_option linter.unusedSimpArgs false
namespace Go.Proofs.YtjbjngikaiggdaaGreat
open Go.RowKit G
/-- What a slice shows, in every world of H. -/
def KR {α : Type} (H : List SP) (E : Enc α) (s : SV α) : Prop := ∀ w, Sat w H → Rd E w s.v s.l
section
variable {α : Type} {H : List SP} {E : Enc α} {s : SV α}
theorem KR.up {P : SP} (h : KR H E s) : KR (P :: H) E s := G.up h
theorem KR.tails {H' : List SP} (h : KR H E s) (hs : ∀ w, Sat w H' → Sat w H) : KR H' E s := fun w h' => h w (hs w h')
theorem KR.isSome (h : KR H E s) (hl : s.l ≠ []) : ∀ w, Sat w H → ∃ b o, s.a = some ⟨b, o, none⟩ := by
  intro w hs
  obtain ⟨b, o, c, hv, _⟩ := (h w hs).at (i := 0) (List.length_pos_iff.2 hl)
  unfold SV.v at hv
  injection hv with h1
  exact ⟨b, o, h1⟩
theorem KR.le (h : KR H E s) : ∀ w, Sat w H → s.l.length ≤ s.c ∧ s.c ≤ maxLen := by
  intro w hs
  obtain ⟨ao, c, hv, h1, h2, _⟩ := h w hs
  unfold SV.v at hv
  injection hv with _ _ h3
  omega
theorem KR.cell (h : KR H E s) {b o i j : Nat} {x : α} {u : Value} (ha : s.a = some ⟨b, o, none⟩) (hx : s.l[i]? = some x) (hu : (E.enc x)[j]? = some u) : ∀ w, Sat w H → w.cell? ⟨b, o + i * E.k + j, none⟩ = some u := by
  intro w hs
  obtain ⟨b', o', c', hv, _, _, hc⟩ := (h w hs).at (List.getElem?_eq_some_iff.1 hx).1
  unfold SV.v at hv
  injection hv with h1
  rw [ha] at h1
  cases h1
  exact hc i j x u hx hu
/-- What was there at the start. -/
theorem KR.old {W : World} (h : Rd E W s.v s.l) (i : Nat) (hi : H[i]? = some (old W)) : KR H E s := by
  intro w hs
  have hb := Sat.below hs hi
  exact h.upd (G := fun b => W.heap.size ≤ b) ⟨hb.os, hb.tape, hb.output, hb.size, fun b hlt _ => hb.block b hlt⟩ (fun a c _ _ hlt hge => by omega)
/-- The tail of a slice. -/
theorem KR.tail {x : α} {r : List α} {b o c : Nat} (h : KR H E ⟨some ⟨b, o, none⟩, c, x :: r⟩) : KR H E ⟨cutA (some ⟨b, o, none⟩) c 1 E.k, c - 1, r⟩ := by
  unfold cutA
  intro w hs
  obtain ⟨ao, c', hv, h1, h2, h3, h4⟩ := h w hs
  unfold SV.v at hv
  injection hv with e1 e2 e3
  simp only at e1 e3
  subst e3
  simp only [List.length_cons] at h1
  have e2' : (r.length + 1 ≤ c) ∧ c ≤ maxLen := by simp only [List.length_cons] at *; omega
  refine ⟨_, c - 1, rfl, by show r.length ≤ c - 1; omega, by omega, ?_, ?_⟩
  · intro hn
    by_cases hc : c = 1
    · rw [if_pos hc] at hn; cases hn
    · rw [if_neg hc] at hn; cases hn
  · intro a ha j u hu
    by_cases hc : c = 1
    · have : r = [] := List.eq_nil_of_length_eq_zero (by omega)
      subst this
      simp [Enc.flat] at hu
    · rw [if_neg hc] at ha
      simp only [Option.map_some, Option.some.injEq] at ha
      subst ha
      have := h4 ⟨b, o, none⟩ e1.symm (E.k + j) u (by
        rw [Enc.flat_cons, List.getElem?_append_right (by rw [E.len]; omega), E.len, Nat.add_sub_cancel_left]; exact hu)
      rw [Addr.add_lit] at this
      simp only [Nat.one_mul, Addr.add_lit]
      rw [Nat.add_assoc]; exact this
end

theorem KR.cell_sl {α : Type} {H : List SP} {s : SV (SV α)} (h : KR H (svE α) s) {b o i : Nat} {x : SV α} {A : Option Addr} (ha : s.a = some ⟨b, o, none⟩) (hx : s.l[i]? = some x) (hA : x.a = A) : ∀ w, Sat w H → w.cell? ⟨b, o + i * 1, none⟩ = some (.slice A x.l.length x.c) := by
  subst hA
  exact h.cell ha hx (j := 0) rfl
structure LabV where
  level : Int
  cats : Int
def LabV.cs (l : LabV) : List Value := [.int .i64 l.level, .int .u64 l.cats]
def LabV.v (l : LabV) : Value := .agg #[.int .i64 l.level, .int .u64 l.cats]
def labE : Enc LabV := ⟨2, by decide, LabV.cs, fun _ => rfl, by intro a u hu; simp [LabV.cs] at hu; rcases hu with rfl | rfl <;> rfl⟩
structure DomV where
  lab : LabV
  routes : SV (SV Int)
  release : SV Int
  to : Int
  threads : Int
  groups : Int
  ring : Int
  sends : Int
  box : Int
def DomV.cs (d : DomV) : List Value := [.int .i64 d.lab.level, .int .u64 d.lab.cats, .slice d.routes.a d.routes.l.length d.routes.c, .slice d.release.a d.release.l.length d.release.c, .int .i64 d.to, .int .i64 d.threads, .int .i64 d.groups, .int .i64 d.ring, .int .i64 d.sends, .int .i64 d.box]
def domE : Enc DomV := ⟨10, by decide, DomV.cs, fun _ => rfl, by intro a u hu; simp [DomV.cs] at hu; rcases hu with rfl | rfl | rfl | rfl | rfl | rfl | rfl | rfl | rfl | rfl <;> rfl⟩
structure ConfV where
  frame : Int
  epoch : Int
  plans : SV (SV Int)
  domains : SV DomV
/-- What a configuration shows, all of it, in every world of H. -/
structure KC (H : List SP) (c : ConfV) : Prop where
  plans : KR H (svE Int) c.plans
  plan : ∀ p ∈ c.plans.l, KR H (kE .i64) p
  domains : KR H domE c.domains
  routes : ∀ d ∈ c.domains.l, KR H (svE Int) d.routes
  route : ∀ d ∈ c.domains.l, ∀ r ∈ d.routes.l, KR H (kE .i64) r
  release : ∀ d ∈ c.domains.l, KR H (kE .i64) d.release
theorem KC.tails {H H' : List SP} {c : ConfV} (h : KC H c) (hs : ∀ w, Sat w H' → Sat w H) : KC H' c :=
  ⟨h.plans.tails hs, fun p hp => (h.plan p hp).tails hs, h.domains.tails hs, fun d hd => (h.routes d hd).tails hs, fun d hd r hr => (h.route d hd r hr).tails hs, fun d hd => (h.release d hd).tails hs⟩
theorem KC.up {H : List SP} {c : ConfV} {P : SP} (h : KC H c) : KC (P :: H) c := h.tails fun w hs => hs.tail
end Go.Proofs.YtjbjngikaiggdaaGreat
