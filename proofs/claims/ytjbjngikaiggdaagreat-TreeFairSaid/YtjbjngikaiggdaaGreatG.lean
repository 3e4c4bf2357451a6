/- Walking by reckoning: frames by what is known of them, code by its place, memory by owned parts. Conditions: none. -/
import Derived.Test.YtjbjngikaiggdaaGreatBase
import Derived.ScopeJumps
import Derived.Test.YtjbjngikaiggdaaGreatReg
import Derived.Deep.LoopGhost
set_option linter.unusedVariables false
set_option linter.unusedSimpArgs false
namespace Go.Proofs.YtjbjngikaiggdaaGreat.G
open Go.RowKit Go.Proofs.YtjbjngikaiggdaaGreat

/-! ## memory: parts that are owned -/
/-- What two worlds have alike: the blocks of F, and all but the heap. -/
structure Alike (F : Nat → Prop) (w w' : World) : Prop where
  os : w'.os = w.os
  tape : w'.tape = w.tape
  output : w'.output = w.output
  size : w.heap.size ≤ w'.heap.size
  keep : ∀ b, F b → w'.heap[b]? = w.heap[b]?
/-- A part of memory. -/
structure SP where
  holds : World → (Nat → Prop) → Prop
  lt : ∀ {w F}, holds w F → ∀ b, F b → b < w.heap.size
  stay : ∀ {w w' F}, holds w F → Alike F w w' → holds w' F
def SatF : List SP → World → (Nat → Prop) → Prop
  | [], _, _ => True
  | P :: l, w, F => ∃ G, P.holds w G ∧ (∀ b, G b → F b) ∧ SatF l w (fun b => F b ∧ ¬ G b)
def Sat (w : World) (l : List SP) : Prop := SatF l w (fun _ => True)
theorem SatF.mono : ∀ {l : List SP} {w : World} {F F' : Nat → Prop}, SatF l w F → (∀ b, F b → F' b) → SatF l w F'
  | [], _, _, _, _, _ => trivial
  | _ :: _, _, _, _, ⟨G, h1, h2, h3⟩, hs => ⟨G, h1, fun b hb => hs b (h2 b hb), SatF.mono h3 (fun b hb => ⟨hs b hb.1, hb.2⟩)⟩
theorem SatF.stay : ∀ {l : List SP} {w w' : World} {F : Nat → Prop}, SatF l w F → Alike (fun b => F b ∧ b < w.heap.size) w w' → SatF l w' F
  | [], _, _, _, _, _ => trivial
  | P :: _, w, w', F, ⟨G, h1, h2, h3⟩, ha => ⟨G, P.stay h1 ⟨ha.os, ha.tape, ha.output, ha.size, fun b hb => ha.keep b ⟨h2 b hb, P.lt h1 b hb⟩⟩, h2,
    SatF.stay h3 ⟨ha.os, ha.tape, ha.output, ha.size, fun b hb => ha.keep b ⟨hb.1.1, hb.2⟩⟩⟩
/-- Two parts change places. -/
theorem SatF.swap {P Q : SP} {l : List SP} {w : World} {F : Nat → Prop} (h : SatF (P :: Q :: l) w F) : SatF (Q :: P :: l) w F := by
  obtain ⟨G, h1, h2, K, k1, k2, k3⟩ := h
  exact ⟨K, k1, fun b hb => (k2 b hb).1, G, h1, fun b hb => ⟨h2 b hb, fun hk => (k2 b hk).2 hb⟩, k3.mono (fun b hb => ⟨⟨hb.1.1, hb.2⟩, hb.1.2⟩)⟩
/-- A part of the list comes to its head. -/
theorem SatF.pick : ∀ {l : List SP} (i : Nat) {P : SP} {w : World} {F : Nat → Prop}, l[i]? = some P → SatF l w F → SatF (P :: l.eraseIdx i) w F
  | [], i, P, w, F, h, _ => by simp at h
  | Q :: l, 0, P, w, F, h, hs => by simp at h; subst h; exact hs
  | Q :: l, i + 1, P, w, F, h, ⟨G, h1, h2, h3⟩ => by
    have := SatF.pick i (by simpa using h) h3
    exact SatF.swap ⟨G, h1, h2, this⟩
theorem Sat.pick {l : List SP} {w : World} (i : Nat) {P : SP} (h : l[i]? = some P) (hs : Sat w l) : Sat w (P :: l.eraseIdx i) := SatF.pick i h hs
theorem Sat.tail {P : SP} {l : List SP} {w : World} (h : Sat w (P :: l)) : Sat w l := by
  obtain ⟨G, _, _, h3⟩ := h
  exact SatF.mono h3 (fun _ _ => trivial)
/-- Nothing that is owned has changed. -/
theorem Sat.stay {l : List SP} {w w' : World} (h : Sat w l) (u : Upd NoB w w') : Sat w' l :=
  SatF.stay h ⟨u.os, u.tape, u.output, u.size, fun b hb => u.keep b hb.2 (fun x => x)⟩
/-- One part has changed. -/
theorem Sat.change {P P' : SP} {l : List SP} {w w' : World} (h : Sat w (P :: l)) (u : ∀ G, P.holds w G → Upd G w w' ∧ ∃ G', P'.holds w' G' ∧ ∀ b, G' b → G b ∨ w.heap.size ≤ b) : Sat w' (P' :: l) := by
  obtain ⟨G, h1, h2, h3⟩ := h
  obtain ⟨hu, G', g1, g2⟩ := u G h1
  refine ⟨G', g1, fun _ _ => trivial, ?_⟩
  -- what the others own lies in what was
  have key : ∀ (l : List SP) (F : Nat → Prop), SatF l w F → (∀ b, F b → ¬ G b) → SatF l w' (fun b => F b ∧ b < w.heap.size) := by
    intro l
    induction l with
    | nil => intro F _ _; exact trivial
    | cons Q l ih =>
      intro F hs hn
      obtain ⟨K, k1, k2, k3⟩ := hs
      refine ⟨K, Q.stay k1 ⟨hu.os, hu.tape, hu.output, hu.size, fun b hb => hu.keep b (Q.lt k1 b hb) (hn b (k2 b hb))⟩, fun b hb => ⟨k2 b hb, Q.lt k1 b hb⟩, ?_⟩
      exact (ih _ k3 (fun b hb => hn b hb.1)).mono (fun b hb => ⟨⟨hb.1.1, hb.2⟩, hb.1.2⟩)
  refine (key l _ h3 (fun b hb => hb.2)).mono (fun b hb => ⟨trivial, fun hg => ?_⟩)
  rcases g2 b hg with h | h
  · exact hb.1.2 h
  · omega
/-- A new part. -/
theorem Sat.fresh {P' : SP} {l : List SP} {w w' : World} (h : Sat w l) (u : Upd NoB w w') {G' : Nat → Prop} (g1 : P'.holds w' G') (g2 : ∀ b, G' b → w.heap.size ≤ b) : Sat w' (P' :: l) := by
  refine ⟨G', g1, fun _ _ => trivial, ?_⟩
  have key : ∀ (l : List SP) (F : Nat → Prop), SatF l w F → SatF l w' (fun b => F b ∧ b < w.heap.size) := by
    intro l
    induction l with
    | nil => intro F _; exact trivial
    | cons Q l ih =>
      intro F hs
      obtain ⟨K, k1, k2, k3⟩ := hs
      refine ⟨K, Q.stay k1 ⟨u.os, u.tape, u.output, u.size, fun b hb => u.keep b (Q.lt k1 b hb) (fun x => x)⟩, fun b hb => ⟨k2 b hb, Q.lt k1 b hb⟩, ?_⟩
      exact (ih _ k3).mono (fun b hb => ⟨⟨hb.1.1, hb.2⟩, hb.1.2⟩)
  exact (key l _ h).mono (fun b hb => ⟨trivial, fun hg => by have := g2 b hg; omega⟩)
theorem Sat.head {P : SP} {l : List SP} {w : World} (h : Sat w (P :: l)) : ∃ G, P.holds w G := ⟨_, h.choose_spec.1⟩
/-- Some part or other. -/
def exS {ι : Type} (f : ι → SP) : SP := ⟨fun w F => ∃ x, (f x).holds w F, fun ⟨x, h⟩ => (f x).lt h, fun ⟨x, h⟩ a => ⟨x, (f x).stay h a⟩⟩
theorem Sat.openEx {ι : Type} {f : ι → SP} {l : List SP} {w : World} (h : Sat w (exS f :: l)) : ∃ x, Sat w (f x :: l) := by
  obtain ⟨G, ⟨x, hx⟩, h2, h3⟩ := h
  exact ⟨x, G, hx, h2, h3⟩
theorem Sat.closeEx {ι : Type} {f : ι → SP} {l : List SP} {w : World} (x : ι) (h : Sat w (f x :: l)) : Sat w (exS f :: l) := by
  obtain ⟨G, hx, h2, h3⟩ := h
  exact ⟨G, ⟨x, hx⟩, h2, h3⟩
/-- Two parts as one. -/
def two (P Q : SP) : SP := ⟨fun w F => ∃ G K, P.holds w G ∧ Q.holds w K ∧ (∀ b, G b → ¬ K b) ∧ ∀ b, F b ↔ G b ∨ K b,
  fun ⟨G, K, h1, h2, _, h4⟩ b hb => by rcases (h4 b).1 hb with h | h; exact P.lt h1 b h; exact Q.lt h2 b h,
  fun ⟨G, K, h1, h2, h3, h4⟩ a => ⟨G, K, P.stay h1 ⟨a.os, a.tape, a.output, a.size, fun b hb => a.keep b ((h4 b).2 (.inl hb))⟩, Q.stay h2 ⟨a.os, a.tape, a.output, a.size, fun b hb => a.keep b ((h4 b).2 (.inr hb))⟩, h3, h4⟩⟩
theorem Sat.openTwo {P Q : SP} {l : List SP} {w : World} (h : Sat w (two P Q :: l)) : Sat w (P :: Q :: l) := by
  obtain ⟨F, ⟨G, K, h1, h2, h3, h4⟩, _, h6⟩ := h
  exact ⟨G, h1, fun _ _ => trivial, K, h2, fun b hb => ⟨trivial, fun hg => h3 b hg hb⟩, h6.mono (fun b hb => ⟨⟨trivial, fun hg => hb.2 ((h4 b).2 (.inl hg))⟩, fun hk => hb.2 ((h4 b).2 (.inr hk))⟩)⟩
theorem Sat.closeTwo {P Q : SP} {l : List SP} {w : World} (h : Sat w (P :: Q :: l)) : Sat w (two P Q :: l) := by
  obtain ⟨G, h1, _, K, k1, k2, k3⟩ := h
  exact ⟨fun b => G b ∨ K b, ⟨G, K, h1, k1, fun b hg hk => (k2 b hk).2 hg, fun b => Iff.rfl⟩, fun _ _ => trivial, k3.mono (fun b hb => ⟨trivial, fun h => by rcases h with h | h; exact hb.1.2 h; exact hb.2 h⟩)⟩
/-- A fact that bears no memory. -/
def pureS (p : Prop) : SP := ⟨fun _ F => p ∧ ∀ b, ¬ F b, fun h b hb => absurd hb (h.2 b), fun h _ => h⟩
theorem Sat.openPure {p : Prop} {l : List SP} {w : World} (h : Sat w (pureS p :: l)) : p ∧ Sat w l := ⟨h.choose_spec.1.1, h.tail⟩
theorem Sat.closePure {p : Prop} {l : List SP} {w : World} (hp : p) (h : Sat w l) : Sat w (pureS p :: l) := ⟨fun _ => False, ⟨hp, fun _ x => x⟩, fun _ x => x.elim, h.mono (fun _ _ => ⟨trivial, fun x => x⟩)⟩
/-- What was there at the start: unchanged. -/
def old (W : World) : SP := ⟨fun w F => (w.os = W.os ∧ w.tape = W.tape ∧ w.output = W.output ∧ W.heap.size ≤ w.heap.size ∧ ∀ b, b < W.heap.size → w.heap[b]? = W.heap[b]?) ∧ ∀ b, F b ↔ b < W.heap.size,
  fun h b hb => Nat.lt_of_lt_of_le ((h.2 b).1 hb) h.1.2.2.2.1,
  fun h a => ⟨⟨a.os.trans h.1.1, a.tape.trans h.1.2.1, a.output.trans h.1.2.2.1, Nat.le_trans h.1.2.2.2.1 a.size, fun b hb => (a.keep b ((h.2 b).2 hb)).trans (h.1.2.2.2.2 b hb)⟩, h.2⟩⟩
theorem Sat.start (W : World) : Sat W [old W] := ⟨fun b => b < W.heap.size, ⟨⟨rfl, rfl, rfl, Nat.le_refl _, fun _ _ => rfl⟩, fun _ => Iff.rfl⟩, fun _ _ => trivial, trivial⟩
theorem Sat.below {W w : World} {l : List SP} {i : Nat} (h : Sat w l) (hi : l[i]? = some (old W)) : Below W.heap.size W w := by
  obtain ⟨G, ⟨h1, h2⟩, _⟩ := Sat.pick i hi h
  exact ⟨h1.1, h1.2.1, h1.2.2.1, h1.2.2.2.1, h1.2.2.2.2⟩
/-- A block of cells. -/
def blk (b : Nat) (T : TypeId) (cs : List Value) : SP := ⟨fun w F => Blk w b T cs ∧ ∀ x, F x ↔ x = b,
  fun h x hx => by rw [(h.2 x).1 hx]; exact h.1.lt, fun h a => ⟨(a.keep b ((h.2 b).2 rfl)).trans h.1, h.2⟩⟩
/-- A row of elements: its slice value. -/
def row {α : Type} (E : Enc α) (T : TypeId) (v : Value) (xs : List α) : SP := ⟨fun w F => Row E T w F v xs, fun h => h.lt,
  fun {w w' F} h a => by
    rcases h with h | ⟨b, o, c, cur, h1, rfl, hb, r⟩
    · exact .inl h
    · exact .inr ⟨b, o, c, cur, h1, rfl, (a.keep b rfl).trans hb, r⟩⟩

/-- Two numbers' greater, lesser one, as the model has them. -/
def mxI (a b : Int) : Int := if b > a then b else a
def mnI (a b : Int) : Int := if b < a then b else a
/-! ## frames: what is known of their slots -/
def look (L : List (Nat × Value)) (t : Nat) (d : Value) : Value :=
  match L with
  | [] => d
  | p :: r => match Nat.beq p.1 t with
    | true => p.2
    | false => look r t d
def hasKey (L : List (Nat × Value)) (t : Nat) : Bool :=
  match L with
  | [] => false
  | p :: r => match Nat.beq p.1 t with
    | true => true
    | false => hasKey r t
def evalL (L : List (Nat × Value)) (rest : Nat → Value) : Operand → Value
  | .tmp t => look L t (rest t)
  | .const v => v
  | .global g => .pointer (some ⟨g, 0, none⟩)
  | .func f => .func (.func f) #[] #[]
def actOf (n : Nat) (L : List (Nat × Value)) (rest : Nat → Value) : Act := { tmps := Array.ofFn (n := n) fun t => look L t.1 (rest t.1), defers := [] }
def OkL (n : Nat) (L : List (Nat × Value)) (rest : Nat → Value) : Prop := ∀ t, n ≤ t → look L t (rest t) = undef
theorem actOf_get {n t : Nat} {L : List (Nat × Value)} {rest : Nat → Value} (h : OkL n L rest) : (actOf n L rest).tmps.getD t undef = look L t (rest t) := by
  unfold actOf
  by_cases ht : t < n
  · simp [Array.getD, ht]
  · simp [Array.getD, ht, h t (by omega)]
theorem eval_actOf {n : Nat} {L : List (Nat × Value)} {rest : Nat → Value} (h : OkL n L rest) : (actOf n L rest).eval = evalL L rest := by
  funext x
  cases x with
  | tmp t => exact actOf_get h
  | _ => rfl
def putL (d : Option Tmp) (v : Value) (L : List (Nat × Value)) : List (Nat × Value) := match d with | some t => (t, v) :: L | none => L
theorem look_cons (t s : Nat) (v d : Value) (L : List (Nat × Value)) : look ((s, v) :: L) t d = if s = t then v else look L t d := by
  simp only [look]
  by_cases h : s = t
  · subst h; rw [if_pos rfl, show Nat.beq s s = true from Nat.beq_refl s]
  · rw [if_neg h]
    cases hb : Nat.beq s t with
    | true => exact absurd (Nat.eq_of_beq_eq_true hb) h
    | false => rfl
theorem put_actOf {n : Nat} {L : List (Nat × Value)} {rest : Nat → Value} (d : Option Tmp) (v : Value) : (actOf n L rest).put d v = actOf n (putL d v L) rest := by
  cases d with
  | none => rfl
  | some t =>
    simp only [Act.put, actOf, putL]
    congr 1
    apply Array.ext
    · simp
    · intro i h1 h2
      simp only [Array.size_setIfInBounds, Array.size_ofFn] at h1
      rw [Array.getElem_setIfInBounds (by simpa using h1)]
      simp only [Array.getElem_ofFn, look_cons]
def dstOk (n : Nat) : Option Tmp → Bool
  | some t => Nat.ble (t + 1) n
  | none => true
theorem okL_put {n : Nat} {L : List (Nat × Value)} {rest : Nat → Value} {d : Option Tmp} {v : Value} (h : OkL n L rest) (hd : dstOk n d = true) : OkL n (putL d v L) rest := by
  cases d with
  | none => exact h
  | some t =>
    have ht : Nat.succ t ≤ n := Nat.le_of_ble_eq_true hd
    intro s hs
    simp only [putL, look_cons]
    rw [if_neg (fun e => by subst e; exact Nat.not_lt.2 hs ht)]; exact h s hs
/-- Of a frame of n slots L is known, of memory H: then Φ. -/
def PT (n : Nat) (L : List (Nat × Value)) (H : List SP) (Φ : Act → World → Prop) : Prop := ∀ rest w, OkL n L rest → Sat w H → Φ (actOf n L rest) w
def keepL : List Nat → List (Nat × Value) → Option (List (Nat × Value))
  | [], _ => some []
  | t :: ts, L => match hasKey L t with
    | true => (keepL ts L).map ((t, look L t undef) :: ·)
    | false => none
theorem look_has {L : List (Nat × Value)} {t : Nat} (h : hasKey L t = true) (d e : Value) : look L t d = look L t e := by
  induction L with
  | nil => simp [hasKey] at h
  | cons p r ih =>
    simp only [look, hasKey] at h ⊢
    cases hb : Nat.beq p.1 t with
    | true => rfl
    | false => rw [hb] at h; exact ih h
theorem look_keep {L : List (Nat × Value)} : ∀ {ks : List Nat} {L' : List (Nat × Value)}, keepL ks L = some L' → ∀ t d, look L' t (look L t d) = look L t d
  | [], L', h, t, d => by simp [keepL] at h; subst h; rfl
  | k :: ks, L', h, t, d => by
    simp only [keepL] at h
    cases hk : hasKey L k with
    | false => rw [hk] at h; cases h
    | true =>
      rw [hk] at h
      simp only at h
      cases hr : keepL ks L with
      | none => rw [hr] at h; cases h
      | some M =>
        rw [hr] at h
        simp at h
        subst h
        rw [look_cons]
        split
        · rename_i e; subst e; exact look_has hk _ _
        · exact look_keep hr t d
/-- Some slots are forgotten. -/
theorem PT.keep {n : Nat} {L L' : List (Nat × Value)} {H : List SP} {Φ : Act → World → Prop} (ks : List Nat) (hk : keepL ks L = some L') (h : PT n L' H Φ) : PT n L H Φ := by
  intro rest w ho hs
  have e : actOf n L rest = actOf n L' (fun t => look L t (rest t)) := by
    simp only [actOf]
    congr 1
    apply Array.ext
    · simp
    · intro i h1 h2
      simp only [Array.getElem_ofFn]
      exact (look_keep hk _ _).symm
  rw [e]
  exact h _ w (fun t ht => by rw [look_keep hk]; exact ho t ht) hs
theorem PT.eqL {n : Nat} {L L' : List (Nat × Value)} {H : List SP} {Φ : Act → World → Prop} (e : L = L') (h : PT n L' H Φ) : PT n L H Φ := e ▸ h
theorem PT.mono {n : Nat} {L : List (Nat × Value)} {H : List SP} {Φ Ψ : Act → World → Prop} (h : PT n L H Φ) (hm : ∀ a w, Φ a w → Ψ a w) : PT n L H Ψ := fun rest w ho hs => hm _ _ (h rest w ho hs)
theorem PT.sat {n : Nat} {L : List (Nat × Value)} {H H' : List SP} {Φ : Act → World → Prop} (hs : ∀ w, Sat w H → Sat w H') (h : PT n L H' Φ) : PT n L H Φ := fun rest w ho h1 => h rest w ho (hs w h1)
theorem PT.drop {n : Nat} {L : List (Nat × Value)} {P : SP} {H : List SP} {Φ : Act → World → Prop} (h : PT n L H Φ) : PT n L (P :: H) Φ := fun rest w ho hs => h rest w ho hs.tail
theorem PT.openEx {ι : Type} {f : ι → SP} {n : Nat} {L : List (Nat × Value)} {H : List SP} {Φ : Act → World → Prop} (h : ∀ x, PT n L (f x :: H) Φ) : PT n L (exS f :: H) Φ := fun rest w ho hs => by
  obtain ⟨x, hx⟩ := Sat.openEx hs
  exact h x rest w ho hx
theorem PT.openPure {p : Prop} {n : Nat} {L : List (Nat × Value)} {H : List SP} {Φ : Act → World → Prop} (h : p → PT n L H Φ) : PT n L (pureS p :: H) Φ := fun rest w ho hs => by
  obtain ⟨hp, hx⟩ := Sat.openPure hs
  exact h hp rest w ho hx
theorem PT.openTwo {P Q : SP} {n : Nat} {L : List (Nat × Value)} {H : List SP} {Φ : Act → World → Prop} (h : PT n L (P :: Q :: H) Φ) : PT n L (two P Q :: H) Φ := fun rest w ho hs => h rest w ho (Sat.openTwo hs)
theorem PT.pick {n : Nat} {L : List (Nat × Value)} {H : List SP} {Φ : Act → World → Prop} (i : Nat) {P : SP} (hi : H[i]? = some P) (h : PT n L (P :: H.eraseIdx i) Φ) : PT n L H Φ := fun rest w ho hs => h rest w ho (Sat.pick i hi hs)
/-- What memory tells. -/
theorem PT.know {p : Prop} {n : Nat} {L : List (Nat × Value)} {H : List SP} {Φ : Act → World → Prop} (hk : ∀ w, Sat w H → p) (h : p → PT n L H Φ) : PT n L H Φ := fun rest w ho hs => h (hk w hs) rest w ho hs

/-! ## code by its place -/
def sub : Code → Nat → Code
  | .seq a _, 0 => a
  | .seq _ b, _ => b
  | .cond _ a _, 0 => a
  | .cond _ _ b, _ => b
  | .block _ b, _ => b
  | .loop b, _ => b
  | .scope b, _ => b
  | _, _ => .skip
def at' (c : Code) (p : List Nat) : Code := p.foldl sub c
theorem at_snoc (c : Code) (p : List Nat) (i : Nat) : at' c (p ++ [i]) = sub (at' c p) i := by simp [at']
def bodyOf (f : Func) : Code := f.body.getD .skip
inductive Kind where | skip | region (draw : Bool) | seq | cond | block | loop | scope | exit | label | goto | ret | other
def kindOf : Code → Kind
  | .skip => .skip
  | .region _ _ d => .region d
  | .seq _ _ => .seq
  | .cond _ _ _ => .cond
  | .block _ _ => .block
  | .loop _ => .loop
  | .scope _ => .scope
  | .exit _ => .exit
  | .label _ => .label
  | .goto _ => .goto
  | .ret => .ret
  | _ => .other
def opsOf : Code → List Oper
  | .region _ ops _ => ops.toList
  | _ => []
def numOf : Code → Nat
  | .block i _ => i
  | .exit i => i
  | .goto l => l
  | .label l => l
  | .region i _ _ => i
  | _ => 0
def testOf : Code → Operand
  | .cond x _ _ => x
  | _ => .const (.bool false)
section
variable {P : Program} {n : Nat} {L : List (Nat × Value)} {H : List SP} {Q : Exit → Act → World → Prop} {c : Code}
def CT (P : Program) (n : Nat) (L : List (Nat × Value)) (H : List SP) (c : Code) (Q : Exit → Act → World → Prop) : Prop := PT n L H fun a w => c.wp P Q a w
def RT (P : Program) (n : Nat) (L : List (Nat × Value)) (H : List SP) (c : Code) (i m : Nat) (Q : Exit → Act → World → Prop) : Prop := PT n L H fun a w => wpList P (opsOf c).toArray Q (((opsOf c).drop i).take m) a w
theorem seqR (hk : kindOf c = .seq) (h : CT P n L H (sub c 0) (Exit.then (fun a w => (sub c 1).wp P Q a w) Q)) : CT P n L H c Q := by
  cases c <;> simp [kindOf] at hk
  exact h.mono fun a w h => wp_seq h
theorem skipR (hk : kindOf c = .skip) (h : PT n L H (Q .normal)) : CT P n L H c Q := by
  cases c <;> simp [kindOf] at hk
  exact h.mono fun a w h => wp_skip h
theorem labelR (hk : kindOf c = .label) (h : PT n L H (Q .normal)) : CT P n L H c Q := by
  cases c <;> simp [kindOf] at hk
  exact h.mono fun a w h => wp_label h
theorem retR (hk : kindOf c = .ret) (h : PT n L H (Q .ret)) : CT P n L H c Q := by
  cases c <;> simp [kindOf] at hk
  exact h.mono fun a w h => wp_ret h
theorem exitR (l : Nat) (hk : kindOf c = .exit) (hl : numOf c = l) (h : PT n L H (Q (.exit l))) : CT P n L H c Q := by
  subst hl
  cases c <;> simp [kindOf] at hk
  exact h.mono fun a w h => wp_exit h
theorem gotoR (l : Nat) (hk : kindOf c = .goto) (hl : numOf c = l) (h : PT n L H (Q (.goto l))) : CT P n L H c Q := by
  subst hl
  cases c <;> simp [kindOf] at hk
  exact h.mono fun a w h => wp_goto h
theorem blockR (l : Nat) (hk : kindOf c = .block) (hl : numOf c = l) (h : CT P n L H (sub c 0) (Exit.inBlock l Q)) : CT P n L H c Q := by
  subst hl
  cases c <;> simp [kindOf] at hk
  exact h.mono fun a w h => wp_block h
theorem condR {b : Bool} (hk : kindOf c = .cond) (hb : ∀ rest, evalL L rest (testOf c) = .bool b) (h1 : b = true → CT P n L H (sub c 0) Q) (h2 : b = false → CT P n L H (sub c 1) Q) : CT P n L H c Q := by
  cases c <;> simp [kindOf] at hk
  intro rest w ho hs
  refine wp_cond (t := b) (by rw [eval_actOf ho]; exact hb rest) ?_
  cases b with
  | true => exact h1 rfl rest w ho hs
  | false => exact h2 rfl rest w ho hs
theorem regionR (m : Nat) (hk : kindOf c = .region false) (hm : (opsOf c).length = m) (h : RT P n L H c 0 m Q) : CT P n L H c Q := by
  subst hm
  cases c <;> simp [kindOf] at hk
  rename_i id ops draw
  subst hk
  exact h.mono fun a w h => wp_region_list (by
    simp only [opsOf, List.drop_zero, List.take_length] at h
    simpa using h)
theorem endR {i : Nat} (h : PT n L H (Q .normal)) : RT P n L H c i 0 Q := by
  unfold RT
  rw [List.take_zero]
  exact h
theorem Oper.wp_then {o : Oper} {a : Act} {w : World} {K K2 : Act → World → Prop} (h : Oper.wp P o a w K (Exit.then K2 Q)) : Oper.wp P o a w K Q := by
  unfold Oper.wp at *
  generalize (execOp a.eval o).run P w = r at *
  cases r with
  | ok x w' =>
    cases x <;> simp only [Oper.upon] at h ⊢ <;>
      first
        | exact h
        | exact Calls.mono h (fun e w'' he => by cases e <;> exact he)
  | halt x w' => cases x <;> simp only [Oper.upon] at h ⊢ <;> exact h
theorem wpList_app {ops : Array Oper} : ∀ (l1 l2 : List Oper) {a : Act} {w : World}, wpList P ops (Exit.then (fun a w => wpList P ops Q l2 a w) Q) l1 a w → wpList P ops Q (l1 ++ l2) a w
  | [], l2, a, w, h => h
  | o :: l1, l2, a, w, h => by
    rw [List.cons_append]
    unfold wpList at h ⊢
    split
    · rename_i hw
      rw [if_pos hw] at h
      rcases h with h | h
      · exact .inl (Oper.wp_mono (fun a w hh => wpList_app l1 l2 hh) (Oper.wp_then h))
      · exact .inr h
    · rename_i hw
      rw [if_neg hw] at h
      exact wpList_app l1 l2 h
/-- Where a loop's head, a label is: one of the states, so many rounds to come. -/
def At {ι : Type} (n : Nat) (Lx : ι → List (Nat × Value)) (Hx : ι → List SP) (R : Nat → ι → Prop) (k : Nat) (a : Act) (w : World) : Prop := ∃ x, R k x ∧ ∃ rest, OkL n (Lx x) rest ∧ a = actOf n (Lx x) rest ∧ Sat w (Hx x)
def Later {ι : Type} (n : Nat) (Lx : ι → List (Nat × Value)) (Hx : ι → List SP) (R : Nat → ι → Prop) (k : Nat) (a : Act) (w : World) : Prop := ∃ k', k' < k ∧ At n Lx Hx R k' a w
theorem againG {ι : Type} {Lx : ι → List (Nat × Value)} {Hx : ι → List SP} {R : Nat → ι → Prop} {k : Nat} (k' : Nat) (x : ι) (hL : L = Lx x) (hH : H = Hx x) (hk : k' < k) (hr : R k' x) : PT n L H (Later n Lx Hx R k) :=
  fun rest w ho hs => ⟨k', hk, x, hr, rest, hL ▸ ho, by rw [hL], hH ▸ hs⟩
theorem loopG {ι : Type} (Lx : ι → List (Nat × Value)) (Hx : ι → List SP) (R : Nat → ι → Prop) (k : Nat) (x : ι) (hk : kindOf c = .loop) (h0 : R k x)
    (round : ∀ k x, R k x → CT P n (Lx x) (Hx x) (sub c 0) (Exit.then (Later n Lx Hx R k) Q)) : CT P n (Lx x) (Hx x) c Q := by
  cases c <;> simp [kindOf] at hk
  intro rest w ho hs
  refine wp_loop_ghost (At n Lx Hx R) k ⟨x, h0, rest, ho, rfl, hs⟩ ?_
  rintro k' a w ⟨x', hr, rest', ho', rfl, hs'⟩
  exact round k' x' hr rest' w ho' hs'
def labOf (c : Code) (l : Nat) : Code := (findLabel c l).getD .skip
def hasLab (c : Code) (l : Nat) : Bool := (findLabel c l).isSome
/-- What stands behind a label. -/
def behind (c : Code) (l : Nat) : Code := sub (labOf c l) 1
/-- A scope with one label: what is behind the label is walked once. -/
theorem scopeG {ι : Type} (l : Nat) (Lx : ι → List (Nat × Value)) (Hx : ι → List SP) (R : Nat → ι → Prop) (hk : kindOf c = .scope) (hl : hasLab (sub c 0) l = true) (hs1 : kindOf (labOf (sub c 0) l) = .seq) (hs0 : kindOf (sub (labOf (sub c 0) l) 0) = .skip)
    (round : ∀ k x, R k x → ∀ K, (∀ k' x', k' < k → R k' x' → PT n (Lx x') (Hx x') K) → CT P n (Lx x) (Hx x) (behind (sub c 0) l) (Exit.jump l K Q))
    (first : ∀ K, (∀ k x, R k x → CT P n (Lx x) (Hx x) (behind (sub c 0) l) (Exit.jump l K Q)) → CT P n L H (sub c 0) (Exit.jump l K Q)) : CT P n L H c Q := by
  cases c <;> simp [kindOf] at hk
  rename_i body
  have hf : findLabel body l = some (labOf body l) := by
    unfold labOf
    have : (findLabel body l).isSome = true := hl
    cases h : findLabel body l with
    | none => rw [h] at this; cases this
    | some y => rfl
  have round' : ∀ k x, R k x → CT P n (Lx x) (Hx x) (behind body l) (Exit.jump l (Later n Lx Hx R k) Q) := fun k x hr =>
    round k x hr _ (fun k' x' hk' hr' rest w ho hs => ⟨k', hk', x', hr', rest, ho, rfl, hs⟩)
  have jm : ∀ (K K' : Act → World → Prop) (hKK : ∀ a w, K a w → K' a w) (e : Exit) (a : Act) (w : World), Exit.jump l K Q e a w → Exit.jump l K' Q e a w := by
    intro K K' hKK e a w h
    cases e <;> first | exact h | exact ⟨h.1, hKK _ _ h.2⟩
  intro rest w ho hs
  refine wp_scope_jumps l (fun a w => ∃ k, At n Lx Hx R k a w) (fun a w => leastOf (fun k => At n Lx Hx R k a w)) hf ?_ ?_
  · refine first _ ?_ rest w ho hs
    intro k x hr rest' w' ho' hs'
    exact wp_mono (round' k x hr rest' w' ho' hs') (jm _ _ (fun a w ⟨k', _, h⟩ => ⟨k', h⟩))
  · intro a w hJ
    obtain ⟨x, hr, rest', ho', ha, hs'⟩ := (leastOf_spec hJ).1
    have h1 := round' _ x hr rest' w ho' hs'
    rw [← ha] at h1
    have h2 : (labOf body l).wp P (Exit.jump l (Later n Lx Hx R (leastOf (fun k => At n Lx Hx R k a w))) Q) a w := by
      have e1 : kindOf (labOf body l) = .seq := hs1
      have e0 : kindOf (sub (labOf body l) 0) = .skip := hs0
      have h1' : (sub (labOf body l) 1).wp P (Exit.jump l (Later n Lx Hx R (leastOf (fun k => At n Lx Hx R k a w))) Q) a w := h1
      generalize labOf body l = y at e1 e0 h1'
      cases y <;> simp [kindOf] at e1
      rename_i y0 y1
      have e0' : kindOf y0 = .skip := e0
      cases y0 <;> simp [kindOf] at e0'
      exact wp_seq (wp_skip h1')
    exact wp_mono h2 (jm _ _ (fun a' w' ⟨k', hlt, hat⟩ => ⟨⟨k', hat⟩, Nat.lt_of_le_of_lt ((leastOf_spec ⟨k', hat⟩).2 k' hat) hlt⟩))
theorem codeR {c' : Code} (hc : c = c') (h : CT P n L H c' Q) : CT P n L H c Q := hc ▸ h
theorem jumpR {l : Nat} {K : Act → World → Prop} (h : PT n L H K) : PT n L H (Exit.jump l K Q (.goto l)) := fun rest w ho hs => ⟨rfl, h rest w ho hs⟩
/-! ## operations that reckon, and read what is known -/
def calmL {α : Type} (P : Program) : Sem α → List (Addr × Value) → Option (α × List (Addr × Addr) × List (Addr × Value))
  | .pure a, qs => some (a, [], qs)
  | .program k, qs => calmL P (k P) qs
  | .mark _ k, qs => calmL P k qs
  | .load _ a k, qs => match qs with
    | [] => none
    | q :: qs => match calmL P (k q.2) qs with
      | some (x, cs, r) => some (x, (a, q.1) :: cs, r)
      | none => none
  | _, _ => none
theorem calmL_run {α : Type} {P : Program} {w : World} : ∀ (s : Sem α) {qs : List (Addr × Value)} {x : α} {cs : List (Addr × Addr)} {r : List (Addr × Value)}, calmL P s qs = some (x, cs, r) → (∀ p ∈ cs, p.1 = p.2) → (∀ q ∈ qs, w.cell? q.1 = some q.2) →
    s.run P w = .ok x w ∧ ∀ q ∈ r, q ∈ qs := by
  intro s
  induction s with
  | pure a =>
    intro qs x cs r h _ _
    simp only [calmL, Option.some.injEq, Prod.mk.injEq] at h
    obtain ⟨rfl, _, rfl⟩ := h
    exact ⟨rfl, fun q hq => hq⟩
  | load m a k ih =>
    intro qs x cs r h hc ha
    cases qs with
    | nil => simp [calmL] at h
    | cons q qs =>
      simp only [calmL] at h
      cases hk : calmL P (k q.2) qs with
      | none => rw [hk] at h; cases h
      | some z =>
        obtain ⟨x', cs', r'⟩ := z
        rw [hk] at h
        simp only [Option.some.injEq, Prod.mk.injEq] at h
        obtain ⟨rfl, rfl, rfl⟩ := h
        have e := hc (a, q.1) (by simp)
        simp only at e
        have hq := ha q (by simp)
        obtain ⟨h1, h2⟩ := ih q.2 hk (fun p hp => hc p (by simp [hp])) (fun p hp => ha p (by simp [hp]))
        refine ⟨?_, fun p hp => List.mem_cons_of_mem _ (h2 p hp)⟩
        simp only [Sem.run, e, hq]
        exact h1
  | store => intro qs x cs r h; simp [calmL] at h
  | new => intro qs x cs r h; simp [calmL] at h
  | shape => intro qs x cs r h; simp [calmL] at h
  | freeze => intro qs x cs r h; simp [calmL] at h
  | frozen => intro qs x cs r h; simp [calmL] at h
  | getObj => intro qs x cs r h; simp [calmL] at h
  | setObj => intro qs x cs r h; simp [calmL] at h
  | choose => intro qs x cs r h; simp [calmL] at h
  | sys => intro qs x cs r h; simp [calmL] at h
  | program k ih =>
    intro qs x cs r h hc ha
    exact ih P h hc ha
  | mark m k ih =>
    intro qs x cs r h hc ha
    exact ih h hc ha
  | halt => intro qs x cs r h; simp [calmL] at h
def yieldL (ops : List Oper) (L : List (Nat × Value)) (rest : Nat → Value) (j : Nat) : Option Bool :=
  match (ops[j]?).bind (·.dst) with
  | some t => match look L t (rest t) with
    | .bool b => some b
    | _ => none
  | none => none
def wantL (ops : List Oper) (L : List (Nat × Value)) (rest : Nat → Value) (o : Oper) : Bool :=
  match o.guard with
  | none => true
  | some (j, b) => match yieldL ops L rest j with
    | some c => (match b with | true => c | false => !c)
    | none => false
theorem wantL_eq {n : Nat} {ops : List Oper} {L : List (Nat × Value)} {rest : Nat → Value} {o : Oper} (ho : OkL n L rest) : Region.wanted o (yielded ops.toArray (actOf n L rest).tmps) = wantL ops L rest o := by
  unfold Region.wanted wantL
  cases o.guard with
  | none => rfl
  | some g =>
    obtain ⟨j, b⟩ := g
    simp only
    have e : yielded ops.toArray (actOf n L rest).tmps j = yieldL ops L rest j := by
      unfold yielded yieldL
      simp only [List.getElem?_toArray]
      cases (ops[j]?).bind (·.dst) with
      | none => rfl
      | some t =>
        simp only [Option.bind_some, actOf]
        by_cases ht : t < n
        · rw [show (Array.ofFn (n := n) fun t => look L t.1 (rest t.1))[t]? = some (look L t (rest t)) by simp [ht]]
          cases look L t (rest t) <;> rfl
        · rw [ho t (Nat.le_of_not_lt ht), show (Array.ofFn (n := n) fun t => look L t.1 (rest t.1))[t]? = none by simp [Nat.le_of_not_lt ht]]
          rfl
    rw [e]
    cases yieldL ops L rest j with
    | none => rfl
    | some c => cases b <;> cases c <;> rfl
def runL (P : Program) (n : Nat) (ops : List Oper) : List Oper → List (Nat × Value) → (Nat → Value) → List (Addr × Value) → Option (List (Nat × Value) × List (Addr × Addr) × List (Addr × Value))
  | [], L, _, qs => some (L, [], qs)
  | o :: os, L, rest, qs => match dstOk n o.dst with
    | false => none
    | true => match wantL ops L rest o with
      | false => runL P n ops os (putL o.dst undef L) rest qs
      | true => match calmL P (execOp (evalL L rest) o) qs with
        | some (.value v, cs, r) => (match runL P n ops os (putL o.dst v L) rest r with
          | some (L', cs', r') => some (L', cs ++ cs', r')
          | none => none)
        | some (.skip, cs, r) => (match runL P n ops os (putL o.dst undef L) rest r with
          | some (L', cs', r') => some (L', cs ++ cs', r')
          | none => none)
        | _ => none
theorem runL_wp {ops : List Oper} {w : World} {rest : Nat → Value} {tail : List Oper} : ∀ (os : List Oper) {L L' : List (Nat × Value)} {qs r : List (Addr × Value)} {cs : List (Addr × Addr)}, runL P n ops os L rest qs = some (L', cs, r) → OkL n L rest → (∀ p ∈ cs, p.1 = p.2) → (∀ q ∈ qs, w.cell? q.1 = some q.2) →
    (OkL n L' rest → wpList P ops.toArray Q tail (actOf n L' rest) w) → wpList P ops.toArray Q (os ++ tail) (actOf n L rest) w
  | [], L, L', qs, r, cs, h, ho, _, _, hq => by
    simp only [runL, Option.some.injEq, Prod.mk.injEq] at h
    obtain ⟨rfl, _, _⟩ := h
    exact hq ho
  | o :: os, L, L', qs, r, cs, h, ho, hc, ha, hq => by
    simp only [runL] at h
    cases hd : dstOk n o.dst with
    | false => rw [hd] at h; cases h
    | true =>
      rw [hd] at h
      simp only at h
      rw [List.cons_append]
      refine wpList_step fun K hK => ?_
      rw [wantL_eq ho]
      cases hw : wantL ops L rest o with
      | false =>
        rw [hw] at h
        simp only at h
        rw [if_neg (by simp), put_actOf]
        exact hK _ _ (runL_wp os h (okL_put ho hd) hc ha hq)
      | true =>
        rw [hw] at h
        simp only at h
        rw [if_pos rfl]
        cases hr : calmL P (execOp (evalL L rest) o) qs with
        | none => rw [hr] at h; cases h
        | some z =>
          obtain ⟨x, cs1, r1⟩ := z
          rw [hr] at h
          have step : ∀ v, (match runL P n ops os (putL o.dst v L) rest r1 with
              | some (L', cs', r') => some (L', cs1 ++ cs', r')
              | none => none) = some (L', cs, r) → ∃ cs', runL P n ops os (putL o.dst v L) rest r1 = some (L', cs', r) ∧ cs = cs1 ++ cs' := by
            intro v h
            cases hz : runL P n ops os (putL o.dst v L) rest r1 with
            | none => rw [hz] at h; cases h
            | some z =>
              obtain ⟨L2, c2, r2⟩ := z
              rw [hz] at h
              simp only [Option.some.injEq, Prod.mk.injEq] at h
              obtain ⟨rfl, rfl, rfl⟩ := h
              exact ⟨c2, rfl, rfl⟩
          cases x with
          | value v =>
            obtain ⟨cs', h1, rfl⟩ := step v h
            obtain ⟨hrun, hsub⟩ := calmL_run (w := w) _ hr (fun p hp => hc p (by simp [hp])) ha
            unfold Oper.wp
            rw [eval_actOf ho, hrun, Oper.upon_value, put_actOf]
            exact hK _ _ (runL_wp os h1 (okL_put ho hd) (fun p hp => hc p (by simp [hp])) (fun q hq => ha q (hsub q hq)) hq)
          | skip =>
            obtain ⟨cs', h1, rfl⟩ := step undef h
            obtain ⟨hrun, hsub⟩ := calmL_run (w := w) _ hr (fun p hp => hc p (by simp [hp])) ha
            unfold Oper.wp
            rw [eval_actOf ho, hrun, Oper.upon_skip, put_actOf]
            exact hK _ _ (runL_wp os h1 (okL_put ho hd) (fun p hp => hc p (by simp [hp])) (fun q hq => ha q (hsub q hq)) hq)
          | _ => cases h
/-- m operations that reckon and read; of the slots those of ks are kept. -/
def runK (P : Program) (n : Nat) (ops : List Oper) (i m : Nat) (ks : List Nat) (L : List (Nat × Value)) (rest : Nat → Value) (qs : List (Addr × Value)) : Option (List (Nat × Value) × List (Addr × Addr)) :=
  match runL P n ops ((ops.drop i).take m) L rest qs with
  | some (L', cs, _) => (match keepL ks L' with
    | some L2 => some (L2, cs)
    | none => none)
  | none => none
theorem runR {i z : Nat} (m : Nat) (ks : List Nat) (L' : List (Nat × Value)) (qs : List (Addr × Value)) (has : ∀ w, Sat w H → ∀ q ∈ qs, w.cell? q.1 = some q.2)
    (h : ∀ rest, runK P n (opsOf c) i m ks L rest qs = some (L', qs.map fun q => (q.1, q.1))) (hn : RT P n L' H c (i + m) z Q) : RT P n L H c i (m + z) Q := by
  intro rest w ho hs
  have h1 := h rest
  unfold runK at h1
  cases hr : runL P n (opsOf c) (((opsOf c).drop i).take m) L rest qs with
  | none => rw [hr] at h1; cases h1
  | some z =>
    obtain ⟨L2, cs, r⟩ := z
    rw [hr] at h1
    simp only at h1
    cases hk : keepL ks L2 with
    | none => rw [hk] at h1; cases h1
    | some L3 =>
      rw [hk] at h1
      simp only [Option.some.injEq, Prod.mk.injEq] at h1
      obtain ⟨rfl, rfl⟩ := h1
      have e : ((opsOf c).drop i).take (m + z) = ((opsOf c).drop i).take m ++ ((opsOf c).drop (i + m)).take z := by
        rw [List.take_add, List.drop_drop]
      rw [e]
      refine runL_wp _ hr ho (by intro p hp; obtain ⟨q, _, rfl⟩ := List.mem_map.1 hp; rfl) (has w hs) (fun ho2 => ?_)
      exact PT.keep ks hk hn rest w ho2 hs
/-- Without reading. -/
theorem run0 {i z : Nat} (m : Nat) (ks : List Nat) (L' : List (Nat × Value)) (h : ∀ rest, runK P n (opsOf c) i m ks L rest [] = some (L', [])) (hn : RT P n L' H c (i + m) z Q) : RT P n L H c i (m + z) Q :=
  runR m ks L' [] (fun _ _ _ hq => by simp at hq) h hn
/-! ## single operations -/
def opAt (c : Code) (i : Nat) : Oper := ((opsOf c)[i]?).getD { dst := none, op := .ready 0, type := 0, pos := "", after := #[], guard := some (0, true) }
def inAt (c : Code) (i : Nat) : Bool := ((opsOf c)[i]?).isSome
/-- Operation i is there, is wanted, and writes where it may. -/
def goes (n : Nat) (c : Code) (i : Nat) (L : List (Nat × Value)) (rest : Nat → Value) : Bool := inAt c i && dstOk n (opAt c i).dst && wantL (opsOf c) L rest (opAt c i)
theorem goes_at {i : Nat} {rest : Nat → Value} (h : goes n c i L rest = true) : (opsOf c).drop i = opAt c i :: (opsOf c).drop (i + 1) ∧ dstOk n (opAt c i).dst = true ∧ wantL (opsOf c) L rest (opAt c i) = true := by
  simp only [goes, Bool.and_eq_true] at h
  obtain ⟨⟨h1, h2⟩, h3⟩ := h
  refine ⟨?_, h2, h3⟩
  have hi : i < (opsOf c).length := by
    unfold inAt at h1
    cases ho : (opsOf c)[i]? with
    | none => rw [ho] at h1; cases h1
    | some o => exact (List.getElem?_eq_some_iff.1 ho).1
  rw [List.drop_eq_getElem_cons hi]
  simp [opAt, hi]
/-- What an operation does: its value, the memory behind it. -/
def Step {ι : Type} (P : Program) (n : Nat) (L : List (Nat × Value)) (H : List SP) (c : Code) (i : Nat) (d : Option Tmp) (rv : ι → Value) (Hx : ι → List SP) : Prop :=
  (∀ rest, goes n c i L rest = true) ∧ (opAt c i).dst = d ∧ ∀ rest w, OkL n L rest → Sat w H → ∀ (K : Act → World → Prop) (Q : Exit → Act → World → Prop), (∀ x w', Sat w' (Hx x) → K (actOf n (putL d (rv x) L) rest) w') → (opAt c i).wp P (actOf n L rest) w K Q
theorem stepR {ι : Type} {i z : Nat} {d : Option Tmp} {rv : ι → Value} {Hx : ι → List SP} (hst : Step P n L H c i d rv Hx) (hn : ∀ x, RT P n (putL d (rv x) L) (Hx x) c (i + 1) z Q) : RT P n L H c i (z + 1) Q := by
  obtain ⟨hg, hd, h⟩ := hst
  intro rest w ho hs
  obtain ⟨h1, h2, h3⟩ := goes_at (hg rest)
  rw [h1, List.take_succ_cons]
  refine wpList_step fun K hK => ?_
  rw [wantL_eq ho, h3, if_pos rfl]
  exact h rest w ho hs K Q (fun x w' hs' => hK _ _ (hn x rest w' (okL_put ho (hd ▸ h2)) hs'))
theorem valueS {ι : Type} {i : Nat} (d : Option Tmp) (rv : ι → Value) (Hx : ι → List SP) (hg : ∀ rest, goes n c i L rest = true) (hd : (opAt c i).dst = d)
    (h : ∀ rest w, OkL n L rest → Sat w H → ∃ x w', (execOp (evalL L rest) (opAt c i)).run P w = .ok (.value (rv x)) w' ∧ Sat w' (Hx x)) : Step P n L H c i d rv Hx := by
  refine ⟨hg, hd, fun rest w ho hs K Q hK => ?_⟩
  obtain ⟨x, w', hr, hs'⟩ := h rest w ho hs
  unfold Oper.wp
  rw [eval_actOf ho, hr, Oper.upon_value, put_actOf, hd]
  exact hK x w' hs'
theorem skipS {i : Nat} (H' : List SP) (hg : ∀ rest, goes n c i L rest = true) (hd : (opAt c i).dst = none)
    (h : ∀ rest w, OkL n L rest → Sat w H → ∃ w', (execOp (evalL L rest) (opAt c i)).run P w = .ok .skip w' ∧ Sat w' H') : Step (ι := Unit) P n L H c i none (fun _ => undef) (fun _ => H') := by
  refine ⟨hg, hd, fun rest w ho hs K Q hK => ?_⟩
  obtain ⟨w', hr, hs'⟩ := h rest w ho hs
  unfold Oper.wp
  rw [eval_actOf ho, hr, Oper.upon_skip, put_actOf, hd]
  exact hK () w' hs'
/-- What a call leaves. -/
def Ret {ι : Type} (rv : ι → Value) (Hx : ι → List SP) (e : Ending) (w : World) : Prop := ∃ x, e = .returned (rv x) ∧ Sat w (Hx x)
def entersL (P : Program) (n : Nat) (c : Code) (i : Nat) (L : List (Nat × Value)) (rest : Nat → Value) : Option (FuncId × List Value × Option Tmp) :=
  match goes n c i L rest with
  | true => (match calmL P (execOp (evalL L rest) (opAt c i)) [] with
    | some (.enter f vs, [], _) => some (f, vs.toList, (opAt c i).dst)
    | _ => none)
  | false => none
theorem callS {ι : Type} {i : Nat} (f : FuncId) (vs : List Value) (d : Option Tmp) (rv : ι → Value) (Hx : ι → List SP) (he : ∀ rest, entersL P n c i L rest = some (f, vs, d))
    (hc : ∀ w, Sat w H → Calls P f vs.toArray w (Ret rv Hx)) : Step P n L H c i d rv Hx := by
  have key : ∀ rest, goes n c i L rest = true ∧ (opAt c i).dst = d ∧ calmL P (execOp (evalL L rest) (opAt c i)) [] = some (.enter f vs.toArray, [], []) := by
    intro rest
    have h0 := he rest
    unfold entersL at h0
    cases hg : goes n c i L rest with
    | false => rw [hg] at h0; cases h0
    | true =>
      rw [hg] at h0
      simp only at h0
      cases hr : calmL P (execOp (evalL L rest) (opAt c i)) [] with
      | none => rw [hr] at h0; cases h0
      | some z =>
        obtain ⟨x, cs, r⟩ := z
        rw [hr] at h0
        cases x with
        | enter f' vs' =>
          cases cs with
          | cons _ _ => cases h0
          | nil =>
            simp only [Option.some.injEq, Prod.mk.injEq] at h0
            obtain ⟨rfl, rfl, rfl⟩ := h0
            have hsub := (calmL_run (w := default) _ hr (fun p hp => by simp at hp) (fun p hp => by simp at hp)).2
            cases r with
            | nil => exact ⟨rfl, rfl, by simp⟩
            | cons q r => exact absurd (hsub q (by simp)) (by simp)
        | _ => cases h0
  refine ⟨fun rest => (key rest).1, (key fun _ => undef).2.1, fun rest w ho hs K Q hK => ?_⟩
  obtain ⟨_, hd, hr⟩ := key rest
  obtain ⟨hrun, _⟩ := calmL_run (w := w) _ hr (fun p hp => by simp at hp) (fun p hp => by simp at hp)
  unfold Oper.wp
  rw [eval_actOf ho, hrun, Oper.upon_enter]
  refine (hc w hs).mono ?_
  rintro e w' ⟨x, rfl, hs'⟩
  show K ((actOf n L rest).put (opAt c i).dst (rv x)) w'
  rw [put_actOf, hd]
  exact hK x w' hs'

/-! ## a function's begin and end -/
def argL : Nat → List Value → List (Nat × Value)
  | _, [] => []
  | i, v :: vs => (i, v) :: argL (i + 1) vs
theorem look_argL : ∀ (vs : List Value) (i t : Nat) (d : Value), look (argL i vs) t d = if i ≤ t then (vs[t - i]?).getD d else d
  | [], i, t, d => by simp [argL, look]
  | v :: vs, i, t, d => by
    rw [argL, look_cons, look_argL vs (i + 1) t d]
    by_cases h : i = t
    · subst h; simp
    · rw [if_neg h]
      by_cases h2 : i ≤ t
      · rw [if_pos (by omega), if_pos h2, show t - i = (t - (i + 1)) + 1 by omega, List.getElem?_cons_succ]
      · rw [if_neg (by omega), if_neg h2]
theorem enterG {f : FuncId} {fn : Func} {R : Ending → World → Prop} (n : Nat) (vs : List Value) (hf : P.funcs[f]? = some fn) (hb : fn.body.isSome = true) (hn : fn.ntmps = n) (hl : Nat.ble vs.length n = true)
    (h : CT P n (argL 0 vs) H (bodyOf fn) (bodyPost P fn R)) : ∀ w, Sat w H → Calls P f vs.toArray w R := by
  intro w hs
  have hb' : fn.body = some (bodyOf fn) := by
    unfold bodyOf
    cases hq : fn.body with
    | none => rw [hq] at hb; cases hb
    | some c => rfl
  refine calls_of_wp hf hb' ?_
  have hl' := Nat.le_of_ble_eq_true hl
  have e : ({ tmps := vs.toArray ++ Array.replicate (fn.ntmps - vs.toArray.size) undef, defers := [] } : Act) = actOf n (argL 0 vs) (fun _ => undef) := by
    unfold actOf
    congr 1
    rw [hn]
    apply Array.ext
    · simp; omega
    · intro i h1 h2
      simp only [Array.size_ofFn] at h2
      rw [Array.getElem_ofFn, look_argL]
      by_cases hi : i < vs.length
      · rw [Array.getElem_append_left (by simpa using hi)]
        simp [hi]
      · rw [Array.getElem_append_right (by simp; omega)]
        simp [List.getElem?_eq_none (Nat.le_of_not_lt hi)]
  rw [e]
  refine h _ w (fun t ht => ?_) hs
  rw [look_argL]
  simp [List.getElem?_eq_none (show vs.length ≤ t by omega)]
def resL (fn : Func) (g : Nat → Value) : Sem Value := do
  let vs ← fn.results.mapM fun
    | .tmp t => pure (g t)
    | .cell a t => do loadVar t (← asAddr (g a))
  pure (if h : vs.size = 1 then vs[0] else .tuple vs)
theorem results_eq (fn : Func) (tmps : Array Value) : results fn tmps = resL fn (fun t => tmps.getD t undef) := rfl
theorem doneG {fn : Func} {R : Ending → World → Prop} (v : Value) (qs : List (Addr × Value)) (hq : ∀ w, Sat w H → ∀ q ∈ qs, w.cell? q.1 = some q.2)
    (h : ∀ rest : Nat → Value, calmL P (resL fn (fun t => look L t (rest t))) qs = some (v, qs.map (fun q => (q.1, q.1)), [])) (hR : ∀ w, Sat w H → R (.returned v) w) (e : Exit) (he : e = .normal ∨ e = .ret) : PT n L H (bodyPost P fn R e) := by
  intro rest w ho hs
  have hrun : (results fn (actOf n L rest).tmps).run P w = .ok v w := by
    rw [results_eq, show (fun t => (actOf n L rest).tmps.getD t undef) = fun t => look L t (rest t) from funext fun t => actOf_get ho]
    exact (calmL_run (w := w) _ (h rest) (by intro p hp; obtain ⟨q, _, rfl⟩ := List.mem_map.1 hp; rfl) (hq w hs)).1
  rcases he with rfl | rfl
  · exact ⟨rfl, v, hrun, hR w hs⟩
  · exact ⟨rfl, v, hrun, hR w hs⟩
theorem done0 {fn : Func} {R : Ending → World → Prop} (v : Value) (h : ∀ rest : Nat → Value, calmL P (resL fn (fun t => look L t (rest t))) [] = some (v, [], [])) (hR : ∀ w, Sat w H → R (.returned v) w) (e : Exit) (he : e = .normal ∨ e = .ret) : PT n L H (bodyPost P fn R e) :=
  doneG v [] (fun _ _ _ hq => by simp at hq) h hR e he

/-- An operation that has a value and changes nothing, in every world that meets S. -/
def Yld (P : Program) (n : Nat) (L : List (Nat × Value)) (S : World → Prop) (c : Code) (i : Nat) (d : Option Tmp) (v : Value) : Prop :=
  (∀ rest, goes n c i L rest = true) ∧ (opAt c i).dst = d ∧ ∀ rest w, OkL n L rest → S w → (execOp (evalL L rest) (opAt c i)).run P w = .ok (.value v) w
theorem yldS {i : Nat} {d : Option Tmp} {v : Value} (h : Yld P n L (fun w => Sat w H) c i d v) : Step (ι := Unit) P n L H c i d (fun _ => v) (fun _ => H) :=
  valueS d _ _ h.1 h.2.1 (fun rest w ho hs => ⟨(), w, h.2.2 rest w ho hs, hs⟩)
/-! ## an element's place -/
theorem idxY {S : World → Prop} {i : Nat} (t : TypeId) (x ix : Operand) (b o len cap J sz : Nat) (E : TypeId) (j : Int) (k : IntKind) (d : Option Tmp) (hg : ∀ rest, goes n c i L rest = true) (hd : (opAt c i).dst = d) (hop : (opAt c i).op = .indexAddr t x ix)
    (hx : ∀ rest, evalL L rest x = .slice (some ⟨b, o, none⟩) len cap) (hix : ∀ rest, evalL L rest ix = .int k j) (hu : P.underlying t = some (.slice E)) (hsz : (P.info? E).map (·.size) = some sz) (hj : j = (J : Int)) (hJ : J < len) : Yld P n L S c i d (.pointer (some ⟨b, o + J * sz, none⟩)) := by
  refine ⟨hg, hd, fun rest w _ hs => ?_⟩
  have hi : ∃ q, P.info? E = some q ∧ q.size = sz := by
    cases hq : P.info? E with
    | none => rw [hq] at hsz; cases hsz
    | some q => rw [hq] at hsz; exact ⟨q, rfl, by simpa using hsz⟩
  obtain ⟨q, hq, hqs⟩ := hi
  subst hj
  unfold execOp
  simp only [hop, hx rest, hix rest]
  simp [Instr.indexAt, asIntOf, run_underlying hu, sizeOf, typeInfo, hq, hqs, hJ, Addr.add_lit]
/-- A comparison, by what its run is. -/
theorem binY {S : World → Prop} {i : Nat} (op : BinOp) (t t' : TypeId) (x y : Operand) (vx vy v : Value) (d : Option Tmp) (hg : ∀ rest, goes n c i L rest = true) (hd : (opAt c i).dst = d) (hop : (opAt c i).op = .binOp op t x y t')
    (hx : ∀ rest, evalL L rest x = vx) (hy : ∀ rest, evalL L rest y = vy) (hr : ∀ w, (do eqGuard op t x y vx vy; binOp op t vx vy : Sem Value).run P w = .ok v w) : Yld P n L S c i d v := by
  refine ⟨hg, hd, fun rest w _ hs => ?_⟩
  unfold execOp
  simp only [hop, hx rest, hy rest]
  have := hr w
  simp only [Sem.run_bind] at this ⊢
  revert this
  generalize (eqGuard op t x y vx vy).run P w = r
  cases r with
  | ok u w' =>
    simp only [Result.andThen_ok]
    intro this
    rw [this]; rfl
  | halt h w' => intro this; cases this
/-- The address of a slice that is cut at its begin. -/
def cutA (A : Option Addr) (cap J sz : Nat) : Option Addr := if cap = J then A else A.map (·.add (J * sz))
/-- A slice cut at its begin. -/
theorem cutS {i : Nat} (t : TypeId) (x lo : Operand) (A : Option Addr) (len cap J sz : Nat) (E : TypeId) (j : Int) (k : IntKind) (d : Option Tmp) (hg : ∀ rest, goes n c i L rest = true) (hd : (opAt c i).dst = d) (hop : (opAt c i).op = .slice t x (some lo) none none)
    (hx : ∀ rest, evalL L rest x = .slice A len cap) (hlo : ∀ rest, evalL L rest lo = .int k j) (hu : P.underlying t = some (.slice E)) (hsz : (P.info? E).map (·.size) = some sz) (hj : j = (J : Int)) (hJ : J ≤ len) : Step (ι := Unit) P n L H c i d (fun _ => .slice (cutA A cap J sz) (len - J) (cap - J)) (fun _ => H) := by
  refine valueS (ι := Unit) d (fun _ => .slice (cutA A cap J sz) (len - J) (cap - J)) (fun _ => H) hg hd ?_
  intro rest w _ hs
  refine ⟨(), w, ?_, hs⟩
  have hi : ∃ q, P.info? E = some q ∧ q.size = sz := by
    cases hq : P.info? E with
    | none => rw [hq] at hsz; cases hsz
    | some q => rw [hq] at hsz; exact ⟨q, rfl, by simpa using hsz⟩
  obtain ⟨q, hq, hqs⟩ := hi
  subst hj
  unfold execOp
  simp only [hop, Option.map_some, Option.map_none, hx rest, hlo rest]
  simp [cutA, Instr.sliceAt, Instr.slice, Instr.sliceBounds, Instr.sliceBound, asIntOf, run_underlying hu, sizeOf, typeInfo, hq, hqs, hJ]
/-! ## what a block's cells are -/
theorem has0 : ∀ w, Sat w H → ∀ q ∈ ([] : List (Addr × Value)), w.cell? q.1 = some q.2 := fun _ _ _ h => by simp at h
theorem hasC {x : Addr} {v : Value} {qs : List (Addr × Value)} (h : ∀ w, Sat w H → w.cell? x = some v) (t : ∀ w, Sat w H → ∀ q ∈ qs, w.cell? q.1 = some q.2) : ∀ w, Sat w H → ∀ q ∈ (x, v) :: qs, w.cell? q.1 = some q.2 := by
  intro w hs q hq
  rcases List.mem_cons.1 hq with rfl | hq
  · exact h w hs
  · exact t w hs q hq
theorem blkAt (i : Nat) {b : Nat} {T : TypeId} {cs : List Value} (hi : H[i]? = some (blk b T cs)) {j : Nat} {v : Value} (hj : cs[j]? = some v) : ∀ w, Sat w H → w.cell? ⟨b, j, none⟩ = some v := by
  intro w hs
  obtain ⟨G, ⟨h1, _⟩, _⟩ := Sat.pick i hi hs
  rw [h1.cell j]; exact hj
theorem calmL_nil {α : Type} {P : Program} : ∀ (s : Sem α) {x : α} {cs : List (Addr × Addr)} {r : List (Addr × Value)}, calmL P s [] = some (x, cs, r) → cs = [] := by
  intro s
  induction s with
  | pure a => intro x cs r h; simp only [calmL, Option.some.injEq, Prod.mk.injEq] at h; exact h.2.1.symm
  | program k ih => intro x cs r h; exact ih P h
  | mark m k ih => intro x cs r h; exact ih h
  | _ => intro x cs r h; simp [calmL] at h
theorem up {P : SP} {p : World → Prop} (h : ∀ w, Sat w H → p w) : ∀ w, Sat w (P :: H) → p w := fun w hs => h w hs.tail
/-- A new block. -/
def newL {α : Type} (P : Program) : Sem α → Option (Obj × (Nat → Option α))
  | .program k => newL P (k P)
  | .mark _ k => newL P k
  | .new o k => some (o, fun r => (calmL P (k r) []).map (·.1))
  | _ => none
theorem newL_run {α : Type} {P : Program} {w : World} : ∀ (s : Sem α) {o : Obj} {f : Nat → Option α} {x : α}, newL P s = some (o, f) → f w.heap.size = some x → s.run P w = .ok x (w.alloc o) := by
  intro s
  induction s with
  | new o k ih =>
    intro o' f x h hx
    simp only [newL, Option.some.injEq, Prod.mk.injEq] at h
    obtain ⟨rfl, rfl⟩ := h
    simp only [Option.map_eq_some_iff] at hx
    obtain ⟨⟨y, cs, r⟩, hc, rfl⟩ := hx
    have hn := calmL_nil _ hc
    subst hn
    exact (calmL_run (w := w.alloc o) (k w.heap.size) hc (fun p hp => by simp at hp) (fun q hq => by simp at hq)).1
  | program k ih => intro o f x h hx; exact ih P h hx
  | mark m k ih => intro o f x h hx; exact ih h hx
  | _ => intro o f x h; simp [newL] at h
def newOk (P : Program) (n : Nat) (c : Code) (i : Nat) (L : List (Nat × Value)) (rest : Nat → Value) (r : Nat) : Option (Obj × Value × Option Tmp) :=
  match goes n c i L rest with
  | true => (match newL P (execOp (evalL L rest) (opAt c i)) with
    | some (o, f) => (match f r with
      | some (.value v) => some (o, v, (opAt c i).dst)
      | _ => none)
    | none => none)
  | false => none
/-- An operation that makes a block. -/
theorem newS {i : Nat} (T : TypeId) (cs : List Value) (d : Option Tmp) (v : Nat → Value) (h : ∀ rest r, newOk P n c i L rest r = some (.cells cs.toArray T (0, 0), v r, d)) : Step P n L H c i d v (fun b => blk b T cs :: H) := by
  have key : ∀ rest r, goes n c i L rest = true ∧ (opAt c i).dst = d ∧ ∃ f, newL P (execOp (evalL L rest) (opAt c i)) = some (.cells cs.toArray T (0, 0), f) ∧ f r = some (.value (v r)) := by
    intro rest r
    have h0 := h rest r
    unfold newOk at h0
    cases hg : goes n c i L rest with
    | false => rw [hg] at h0; cases h0
    | true =>
      rw [hg] at h0
      simp only at h0
      cases hr : newL P (execOp (evalL L rest) (opAt c i)) with
      | none => rw [hr] at h0; cases h0
      | some z =>
        obtain ⟨o, f⟩ := z
        rw [hr] at h0
        simp only at h0
        cases hf : f r with
        | none => rw [hf] at h0; cases h0
        | some x =>
          rw [hf] at h0
          cases x with
          | value u =>
            simp only [Option.some.injEq, Prod.mk.injEq] at h0
            obtain ⟨rfl, rfl, rfl⟩ := h0
            exact ⟨rfl, rfl, f, rfl, hf⟩
          | _ => cases h0
  refine valueS d v _ (fun rest => (key rest 0).1) (key (fun _ => undef) 0).2.1 ?_
  intro rest w _ hs
  obtain ⟨_, _, f, h1, h2⟩ := key rest w.heap.size
  refine ⟨w.heap.size, w.alloc (.cells cs.toArray T), newL_run _ h1 h2, ?_⟩
  exact Sat.fresh hs (Upd.alloc _ _ _) (G' := fun b => b = w.heap.size) ⟨Blk.new w T cs, fun _ => Iff.rfl⟩ (fun b hb => by omega)
/-- Stores, one behind the other. -/
def writesL {α : Type} (P : Program) : Sem α → Option (α × List (Addr × Value))
  | .pure a => some (a, [])
  | .program k => writesL P (k P)
  | .mark _ k => writesL P k
  | .store _ a v k => match v.oneCell' with
    | true => (match writesL P k with
      | some (x, ws) => some (x, (a, v) :: ws)
      | none => none)
    | false => none
  | _ => none
def setAll (w : World) (ws : List (Addr × Value)) : World := ws.foldl (fun w q => w.setCell q.1 q.2) w
theorem setCell_cell_some {w : World} {a b : Addr} {v : Value} (h : (w.cell? b).isSome = true) : ((w.setCell a v).cell? b).isSome = true := by
  unfold World.cell? World.setCell at *
  simp only [Array.getElem?_modify] at *
  by_cases hb : a.block = b.block
  · rw [if_pos hb]
    cases ho : w.heap[b.block]? with
    | none => rw [ho] at h; cases h
    | some o =>
      rw [ho] at h
      cases o with
      | cells c T f =>
        simp only [Option.map_some] at h ⊢
        by_cases hs : b.spot.isSome = true
        · rw [if_pos hs] at h; cases h
        · rw [if_neg hs] at h ⊢
          split
          · exact h
          · simpa using h
      | _ => cases h
  · rw [if_neg hb]; exact h
theorem setCell_frozen {w : World} {a b : Addr} {v : Value} : (w.setCell a v).frozen? b = w.frozen? b := by
  unfold World.frozen? World.setCell
  simp only [Array.getElem?_modify]
  by_cases hb : a.block = b.block
  · rw [if_pos hb]
    cases w.heap[b.block]? with
    | none => rfl
    | some o => cases o <;> rfl
  · rw [if_neg hb]
theorem writesL_run {α : Type} {P : Program} : ∀ (s : Sem α) {x : α} {ws : List (Addr × Value)} {w : World}, writesL P s = some (x, ws) → (∀ q ∈ ws, (w.cell? q.1).isSome = true ∧ w.frozen? q.1 = false) → s.run P w = .ok x (setAll w ws) := by
  intro s
  induction s with
  | pure a =>
    intro x ws w h _
    simp only [writesL, Option.some.injEq, Prod.mk.injEq] at h
    obtain ⟨rfl, rfl⟩ := h
    rfl
  | program k ih => intro x ws w h hw; exact ih P h hw
  | mark m k ih => intro x ws w h hw; exact ih h hw
  | store m a v k ih =>
    intro x ws w h hw
    simp only [writesL] at h
    cases hv : v.oneCell' with
    | false => rw [hv] at h; cases h
    | true =>
      rw [hv] at h
      simp only at h
      cases hk : writesL P k with
      | none => rw [hk] at h; cases h
      | some z =>
        obtain ⟨y, ws'⟩ := z
        rw [hk] at h
        simp only [Option.some.injEq, Prod.mk.injEq] at h
        obtain ⟨rfl, rfl⟩ := h
        obtain ⟨h1, h2⟩ := hw (a, v) (by simp)
        have hrest := ih (w := w.setCell a v) hk (fun q hq => by
          obtain ⟨g1, g2⟩ := hw q (by simp [hq])
          exact ⟨setCell_cell_some g1, by rw [setCell_frozen]; exact g2⟩)
        have e : setAll w ((a, v) :: ws') = setAll (w.setCell a v) ws' := rfl
        rw [e, ← hrest]
        simp only at h1 h2
        cases hc : w.cell? a with
        | none => rw [hc] at h1; cases h1
        | some u =>
          cases v with
          | agg _ => simp [Value.oneCell'] at hv
          | tuple _ => simp [Value.oneCell'] at hv
          | _ => simp [Sem.run, hc, h2]
  | _ => intro x ws w h; simp [writesL] at h
def storesOk (P : Program) (n : Nat) (c : Code) (i : Nat) (L : List (Nat × Value)) (rest : Nat → Value) : Option (List (Addr × Value)) :=
  match goes n c i L rest with
  | true => (match (opAt c i).dst with
    | none => (match writesL P (execOp (evalL L rest) (opAt c i)) with
      | some (.skip, ws) => some ws
      | _ => none)
    | some _ => none)
  | false => none
theorem storesOk_spec {i : Nat} {rest : Nat → Value} {ws : List (Addr × Value)} (h : storesOk P n c i L rest = some ws) : goes n c i L rest = true ∧ (opAt c i).dst = none ∧ writesL P (execOp (evalL L rest) (opAt c i)) = some (.skip, ws) := by
  unfold storesOk at h
  cases hg : goes n c i L rest with
  | false => rw [hg] at h; cases h
  | true =>
    rw [hg] at h
    simp only at h
    cases hd : (opAt c i).dst with
    | some _ => rw [hd] at h; cases h
    | none =>
      rw [hd] at h
      simp only at h
      cases hr : writesL P (execOp (evalL L rest) (opAt c i)) with
      | none => rw [hr] at h; cases h
      | some z =>
        obtain ⟨x, ws'⟩ := z
        rw [hr] at h
        cases x with
        | skip => simp only [Option.some.injEq] at h; subst h; exact ⟨rfl, rfl, rfl⟩
        | _ => cases h
def setsL (cs : List Value) (ws : List (Nat × Value)) : List Value := ws.foldl (fun cs q => cs.set q.1 q.2) cs
theorem Blk.setsAll {b : Nat} {T : TypeId} : ∀ (ws : List (Nat × Value)) {w : World} {cs : List Value}, Blk w b T cs → Blk (setAll w (ws.map fun q => (⟨b, q.1, none⟩, q.2))) b T (setsL cs ws)
  | [], _, _, h => h
  | (j, v) :: ws, w, cs, h => Blk.setsAll ws (h.set j v)
theorem upd_setAll {b : Nat} {F : Nat → Prop} (hF : F b) : ∀ (ws : List (Nat × Value)) (w : World), Upd F w (setAll w (ws.map fun q => (⟨b, q.1, none⟩, q.2)))
  | [], w => Upd.refl _ _
  | (j, v) :: ws, w => (Upd.setCell (F := F) w ⟨b, j, none⟩ v hF).trans (upd_setAll hF ws _)
/-- A store into a block of one's own (the first part of memory). -/
theorem storeS {i : Nat} {b : Nat} {T : TypeId} {cs : List Value} {H : List SP} (ws : List (Nat × Value)) (cs' : List Value) (h : ∀ rest, storesOk P n c i L rest = some (ws.map fun q => (⟨b, q.1, none⟩, q.2))) (hb : (ws.all fun q => Nat.ble (q.1 + 1) cs.length) = true) (hcs : setsL cs ws = cs') :
    Step (ι := Unit) P n L (blk b T cs :: H) c i none (fun _ => undef) (fun _ => blk b T cs' :: H) := by
  refine skipS _ (fun rest => (storesOk_spec (h rest)).1) (storesOk_spec (h fun _ => undef)).2.1 ?_
  intro rest w _ hs
  have hs0 := hs
  obtain ⟨G, ⟨g1, g2⟩, _⟩ := hs0
  refine ⟨_, writesL_run _ (storesOk_spec (h rest)).2.2 ?_, ?_⟩
  · intro q hq
    obtain ⟨z, hz, rfl⟩ := List.mem_map.1 hq
    have := Nat.le_of_ble_eq_true (List.all_eq_true.1 hb z hz)
    simp only
    rw [g1.cell, g1.frozen]
    simp [show z.1 < cs.length by omega]
  · refine Sat.change hs fun G' hG' => ⟨upd_setAll ((hG'.2 b).2 rfl) ws w, G', ⟨?_, hG'.2⟩, fun x hx => .inl hx⟩
    rw [← hcs]; exact Blk.setsAll ws hG'.1
/-! ## joins and ways out -/
/-- Where ways meet: what is known there. -/
def mid {ι : Type} (n : Nat) (Lx : ι → List (Nat × Value)) (Hx : ι → List SP) (a : Act) (w : World) : Prop := ∃ x, ∃ rest, OkL n (Lx x) rest ∧ a = actOf n (Lx x) rest ∧ Sat w (Hx x)
theorem midR {ι : Type} {Lx : ι → List (Nat × Value)} {Hx : ι → List SP} (x : ι) (hL : L = Lx x) (hH : H = Hx x) : PT n L H (mid n Lx Hx) := fun rest w ho hs => ⟨x, rest, hL ▸ ho, by rw [hL], hH ▸ hs⟩
theorem seqCut {ι : Type} (Lx : ι → List (Nat × Value)) (Hx : ι → List SP) (hk : kindOf c = .seq) (h1 : CT P n L H (sub c 0) (Exit.then (mid n Lx Hx) Q)) (h2 : ∀ x, CT P n (Lx x) (Hx x) (sub c 1) Q) : CT P n L H c Q := by
  refine seqR hk ?_
  intro rest w ho hs
  refine wp_mono (h1 rest w ho hs) ?_
  intro e a w hq
  cases e with
  | normal =>
    obtain ⟨x, rest', ho', rfl, hs'⟩ := hq
    exact h2 x rest' w ho' hs'
  | exit id => exact hq
  | goto l => exact hq
  | ret => exact hq
  | panic ch => exact hq
  | outgrown => exact hq
theorem joinR {ι : Type} {K : Act → World → Prop} (Lx : ι → List (Nat × Value)) (Hx : ι → List SP) (h1 : CT P n L H c (Exit.then (mid n Lx Hx) Q)) (h2 : ∀ x, PT n (Lx x) (Hx x) K) : CT P n L H c (Exit.then K Q) := by
  intro rest w ho hs
  refine wp_mono (h1 rest w ho hs) ?_
  intro e a w hq
  cases e with
  | normal =>
    obtain ⟨x, rest', ho', rfl, hs'⟩ := hq
    exact h2 x rest' w ho' hs'
  | exit id => exact hq
  | goto l => exact hq
  | ret => exact hq
  | panic ch => exact hq
  | outgrown => exact hq
/-- A stretch of a region, behind which ways meet. -/
theorem segR {ι : Type} {i z : Nat} (m : Nat) (Lx : ι → List (Nat × Value)) (Hx : ι → List SP) (h1 : RT P n L H c i m (Exit.then (mid n Lx Hx) Q)) (h2 : ∀ x, RT P n (Lx x) (Hx x) c (i + m) z Q) : RT P n L H c i (m + z) Q := by
  intro rest w ho hs
  rw [List.take_add, List.drop_drop]
  refine wpList_app _ _ ?_
  have hm : ∀ (l : List Oper) (K K' : Act → World → Prop), (∀ a w, K a w → K' a w) → ∀ a w, wpList P (opsOf c).toArray (Exit.then K Q) l a w → wpList P (opsOf c).toArray (Exit.then K' Q) l a w := by
    intro l K K' hK
    induction l with
    | nil => intro a w h; exact hK _ _ h
    | cons o l ih =>
      intro a w h
      unfold wpList at h ⊢
      split
      · rename_i hw
        rw [if_pos hw] at h
        rcases h with h | h
        · refine .inl (Oper.wp_mono (K := wpList P (opsOf c).toArray (Exit.then K Q) l) (fun a w hh => ih a w hh) ?_)
          have h3 := Oper.wp_then h
          unfold Oper.wp at h3 ⊢
          generalize (execOp a.eval o).run P w = r at *
          cases r with
          | ok x w' =>
            cases x <;> simp only [Oper.upon] at h3 ⊢ <;>
              first
                | exact h3
                | exact Calls.mono h3 (fun e w'' he => by cases e <;> exact he)
          | halt x w' => cases x <;> simp only [Oper.upon] at h3 ⊢ <;> exact h3
        · exact .inr h
      · rename_i hw
        rw [if_neg hw] at h
        exact ih _ _ h
  refine hm _ _ _ ?_ _ _ (h1 rest w ho hs)
  rintro a w ⟨x, rest', ho', rfl, hs'⟩
  exact h2 x rest' w ho' hs'
theorem thenX {l : Nat} {K : Act → World → Prop} (h : PT n L H (Q (.exit l))) : PT n L H (Exit.then K Q (.exit l)) := h
theorem jumpX {l l' : Nat} {K : Act → World → Prop} (h : PT n L H (Q (.exit l))) : PT n L H (Exit.jump l' K Q (.exit l)) := h
theorem thenV {K : Act → World → Prop} (h : PT n L H (Q .ret)) : PT n L H (Exit.then K Q .ret) := h
theorem jumpV {l : Nat} {K : Act → World → Prop} (h : PT n L H (Q .ret)) : PT n L H (Exit.jump l K Q .ret) := h
theorem blockV {l : Nat} (h : PT n L H (Q .ret)) : PT n L H (Exit.inBlock l Q .ret) := h
theorem leaveR {l : Nat} (h : PT n L H (Q .normal)) : PT n L H (Exit.inBlock l Q (.exit l)) := fun rest w ho hs => by
  show (if l = l then _ else _)
  rw [if_pos rfl]; exact h rest w ho hs
theorem passR {l l' : Nat} (hne : l' ≠ l) (h : PT n L H (Q (.exit l'))) : PT n L H (Exit.inBlock l Q (.exit l')) := fun rest w ho hs => by
  show (if l' = l then _ else _)
  rw [if_neg hne]; exact h rest w ho hs

/-! ## regions that draw their order -/
def DT (P : Program) (n : Nat) (L : List (Nat × Value)) (H : List SP) (c : Code) (S : World → Prop) (N : List Nat) (fuel : Nat) (listed : List Bool) (Q : Exit → Act → World → Prop) : Prop :=
  PT n L H fun a w => wpAnyN P .any (opsOf c).toArray Q S N fuel listed.toArray a w
theorem drawR (S : World → Prop) (N : List Nat) (m : Nat) (hk : kindOf c = .region true) (hm : P.follows .mixedOrders = true) (hl : (opsOf c).length = m) (hS : ∀ w, Sat w H → S w) (h : DT P n L H c S N m (List.replicate m false) Q) : CT P n L H c Q := by
  subst hl
  cases c <;> simp [kindOf] at hk
  rename_i id ops draw
  subst hk
  intro rest w ho hs
  have hsd : Sat w.drew H := hs.stay (Upd.drew _ _)
  have := h rest w.drew ho hsd
  simp only [opsOf, Array.length_toList] at this
  refine wp_region_N N S hm (hS _ hsd) (fun _ => ?_)
  simpa using this
def takesL (P : Program) (n : Nat) (ops : List Oper) (N : List Nat) : List Nat → List Bool → List (Nat × Value) → (Nat → Value) → List (Addr × Value) → Option (List (Nat × Value) × List (Addr × Addr) × List (Addr × Value) × List Bool)
  | [], listed, L, _, qs => some (L, [], qs, listed)
  | i :: is, listed, L, rest, qs => match ops[i]? with
    | none => none
    | some o => match dstOk n o.dst && takeOk .any ops.toArray N listed.toArray i with
      | false => none
      | true => match wantL ops L rest o with
        | false => takesL P n ops N is (listed.set i true) (putL o.dst undef L) rest qs
        | true => match calmL P (execOp (evalL L rest) o) qs with
          | some (.value v, cs, r) => (match takesL P n ops N is (listed.set i true) (putL o.dst v L) rest r with
            | some (L', cs', r', listed') => some (L', cs ++ cs', r', listed')
            | none => none)
          | _ => none
theorem takesL_wp {S : World → Prop} {N : List Nat} {rest : Nat → Value} {w : World} (hQ : ∀ ch d (a : Act) v w, Q (.panic ch) (a.put d v) w → Q (.panic ch) a w) (hS : S w) : ∀ (is : List Nat) {listed listed' : List Bool} {fuel : Nat} {L L' : List (Nat × Value)} {qs r : List (Addr × Value)} {cs : List (Addr × Addr)},
    takesL P n (opsOf c) N is listed L rest qs = some (L', cs, r, listed') → OkL n L rest → (∀ p ∈ cs, p.1 = p.2) → (∀ w, S w → ∀ q ∈ qs, w.cell? q.1 = some q.2) →
    (OkL n L' rest → wpAnyN P .any (opsOf c).toArray Q S N fuel listed'.toArray (actOf n L' rest) w) → wpAnyN P .any (opsOf c).toArray Q S N (fuel + is.length) listed.toArray (actOf n L rest) w
  | [], listed, listed', fuel, L, L', qs, r, cs, h, ho, _, _, hq => by
    simp only [takesL, Option.some.injEq, Prod.mk.injEq] at h
    obtain ⟨rfl, _, _, rfl⟩ := h
    exact hq ho
  | i :: is, listed, listed', fuel, L, L', qs, r, cs, h, ho, hc, ha, hq => by
    simp only [takesL] at h
    cases hi : (opsOf c)[i]? with
    | none => rw [hi] at h; cases h
    | some o =>
      rw [hi] at h
      simp only at h
      cases hd : (dstOk n o.dst && takeOk .any (opsOf c).toArray N listed.toArray i) with
      | false => rw [hd] at h; cases h
      | true =>
        rw [hd] at h
        simp only at h
        obtain ⟨hd1, hd2⟩ := Bool.and_eq_true_iff.1 hd
        have hset : (listed.toArray.setIfInBounds i true) = (listed.set i true).toArray := by simp
        rw [List.length_cons, ← Nat.add_assoc]
        cases hw : wantL (opsOf c) L rest o with
        | false =>
          rw [hw] at h
          simp only at h
          refine wpAnyN_take (v := undef) i (by simpa using hi) hd2 (fun ch a w hh => hQ ch _ a _ w hh) hS (.inr ⟨by rw [wantL_eq ho]; exact hw, rfl⟩) ?_
          rw [hset, put_actOf]
          exact takesL_wp hQ hS is h (okL_put ho hd1) hc ha hq
        | true =>
          rw [hw] at h
          simp only at h
          cases hr : calmL P (execOp (evalL L rest) o) qs with
          | none => rw [hr] at h; cases h
          | some z =>
            obtain ⟨x, cs1, r1⟩ := z
            rw [hr] at h
            cases x with
            | value v =>
              simp only at h
              cases hz : takesL P n (opsOf c) N is (listed.set i true) (putL o.dst v L) rest r1 with
              | none => rw [hz] at h; cases h
              | some z =>
                obtain ⟨L2, c2, r2, l2⟩ := z
                rw [hz] at h
                simp only [Option.some.injEq, Prod.mk.injEq] at h
                obtain ⟨rfl, rfl, rfl, rfl⟩ := h
                have hsub := (calmL_run (w := w) _ hr (fun p hp => hc p (by simp [hp])) (ha w hS)).2
                refine wpAnyN_take (v := v) i (by simpa using hi) hd2 (fun ch a w hh => hQ ch _ a _ w hh) hS (.inl ⟨by rw [wantL_eq ho]; exact hw, fun w' hS' => ?_⟩) ?_
                · rw [eval_actOf ho]
                  exact (calmL_run (w := w') _ hr (fun p hp => hc p (by simp [hp])) (ha w' hS')).1
                · rw [hset, put_actOf]
                  exact takesL_wp hQ hS is hz (okL_put ho hd1) (fun p hp => hc p (by simp [hp])) (fun w' hS' q hq => ha w' hS' q (hsub q hq)) hq
            | _ => cases h
def takesK (P : Program) (n : Nat) (ops : List Oper) (N : List Nat) (is ks : List Nat) (listed : List Bool) (L : List (Nat × Value)) (rest : Nat → Value) (qs : List (Addr × Value)) : Option (List (Nat × Value) × List (Addr × Addr) × List Bool) :=
  match takesL P n ops N is listed L rest qs with
  | some (L', cs, _, l) => (match keepL ks L' with
    | some L2 => some (L2, cs, l)
    | none => none)
  | none => none
/-- Operations that reckon and read are taken. -/
theorem takesR {S : World → Prop} {N : List Nat} {fuel : Nat} {listed : List Bool} (is ks : List Nat) (fuel' : Nat) (listed' : List Bool) (L' : List (Nat × Value)) (qs : List (Addr × Value)) (hf : fuel = fuel' + is.length)
    (hQ : ∀ ch d (a : Act) v w, Q (.panic ch) (a.put d v) w → Q (.panic ch) a w) (hS : ∀ w, Sat w H → S w) (has : ∀ w, S w → ∀ q ∈ qs, w.cell? q.1 = some q.2)
    (h : ∀ rest, takesK P n (opsOf c) N is ks listed L rest qs = some (L', qs.map fun q => (q.1, q.1), listed')) (hn : DT P n L' H c S N fuel' listed' Q) : DT P n L H c S N fuel listed Q := by
  intro rest w ho hs
  have h1 := h rest
  unfold takesK at h1
  cases hr : takesL P n (opsOf c) N is listed L rest qs with
  | none => rw [hr] at h1; cases h1
  | some z =>
    obtain ⟨L2, cs, r, l2⟩ := z
    rw [hr] at h1
    simp only at h1
    cases hk : keepL ks L2 with
    | none => rw [hk] at h1; cases h1
    | some L3 =>
      rw [hk] at h1
      simp only [Option.some.injEq, Prod.mk.injEq] at h1
      obtain ⟨rfl, rfl, rfl⟩ := h1
      rw [hf]
      exact takesL_wp hQ (hS w hs) is hr ho (by intro p hp; obtain ⟨q, _, rfl⟩ := List.mem_map.1 hp; rfl) has (fun ho2 => PT.keep ks hk hn rest w ho2 hs)
/-- One operation that changes nothing is taken. -/
theorem takeR1 {S : World → Prop} {N : List Nat} {fuel : Nat} {listed : List Bool} {d : Option Tmp} {v : Value} (i : Nat) (fuel' : Nat) (listed' : List Bool) (hf : fuel = fuel' + 1) (hl : listed' = listed.set i true) (ht : takeOk .any (opsOf c).toArray N listed.toArray i = true)
    (hQ : ∀ ch d (a : Act) v w, Q (.panic ch) (a.put d v) w → Q (.panic ch) a w) (hS : ∀ w, Sat w H → S w) (hy : Yld P n L S c i d v) (hn : DT P n (putL d v L) H c S N fuel' listed' Q) : DT P n L H c S N fuel listed Q := by
  subst hf hl
  obtain ⟨hg, hd, h⟩ := hy
  intro rest w ho hs
  obtain ⟨h1, h2, h3⟩ := goes_at (hg rest)
  have hio : (opsOf c).toArray[i]? = some (opAt c i) := by
    have : (opsOf c)[i]? = some (opAt c i) := by
      have e := congrArg List.head? h1
      rw [List.head?_drop, List.head?_cons] at e
      exact e
    simpa using this
  refine wpAnyN_take (v := v) i hio ht (fun ch a w hh => hQ ch _ a _ w hh) (hS w hs) (.inl ⟨by rw [wantL_eq ho]; exact h3, fun w' hS' => ?_⟩) ?_
  · rw [eval_actOf ho]; exact h rest w' ho hS'
  · have hset : (listed.toArray.setIfInBounds i true) = (listed.set i true).toArray := by simp
    rw [hset, put_actOf, hd]
    exact hn rest w (okL_put ho (hd ▸ h2)) hs
/-- The one operation that is ready. -/
theorem oneR {ι : Type} {S : World → Prop} {N : List Nat} {fuel : Nat} {listed : List Bool} {d : Option Tmp} {rv : ι → Value} {Hx : ι → List SP} (i : Nat) (fuel' : Nat) (listed' : List Bool) (hf : fuel = fuel' + 1) (hl : listed' = listed.set i true) (hr : (Region.ready .any (opsOf c).toArray listed.toArray == [i] && [i] != []) = true)
    (hst : Step P n L H c i d rv Hx) (hS : ∀ x w, Sat w (Hx x) → N.contains i = false → S w) (hn : ∀ x, DT P n (putL d (rv x) L) (Hx x) c S N fuel' listed' Q) : DT P n L H c S N fuel listed Q := by
  subst hf hl
  obtain ⟨hg, hd, h⟩ := hst
  intro rest w ho hs
  obtain ⟨h1, h2, h3⟩ := goes_at (hg rest)
  have hio : (opsOf c).toArray[i]? = some (opAt c i) := by
    have : (opsOf c)[i]? = some (opAt c i) := by
      have e := congrArg List.head? h1
      rw [List.head?_drop, List.head?_cons] at e
      exact e
    simpa using this
  refine wpAnyN_all [i] hr (AllN.cons hio (fun K hK => ?_) AllN.nil)
  rw [wantL_eq ho, h3, if_pos rfl]
  refine h rest w ho hs K Q (fun x w' hs' => ?_)
  refine hK.out _ _ (fun hni => hS x w' hs' hni) ?_
  have := hn x rest w' (okL_put ho (hd ▸ h2)) hs'
  simpa using this
/-- One of several that are ready, then the rest. -/
def ChD (P : Program) (n : Nat) (L : List (Nat × Value)) (H : List SP) (c : Code) (S : World → Prop) (N : List Nat) (fuel : Nat) (listed : List Bool) (i : Nat) (Q : Exit → Act → World → Prop) : Prop :=
  ∃ (ι : Type) (d : Option Tmp) (rv : ι → Value) (Hx : ι → List SP), Step P n L H c i d rv Hx ∧ (∀ x w, Sat w (Hx x) → N.contains i = false → S w) ∧ ∀ x, DT P n (putL d (rv x) L) (Hx x) c S N fuel (listed.set i true) Q
theorem chR {ι : Type} {S : World → Prop} {N : List Nat} {fuel : Nat} {listed : List Bool} {d : Option Tmp} {rv : ι → Value} {Hx : ι → List SP} (i : Nat) (listed' : List Bool) (hl : listed' = listed.set i true)
    (hst : Step P n L H c i d rv Hx) (hS : ∀ x w, Sat w (Hx x) → N.contains i = false → S w) (hn : ∀ x, DT P n (putL d (rv x) L) (Hx x) c S N fuel listed' Q) : ChD P n L H c S N fuel listed i Q := by
  subst hl; exact ⟨ι, d, rv, Hx, hst, hS, hn⟩
theorem ChD.cons {S : World → Prop} {N : List Nat} {fuel : Nat} {listed : List Bool} {i : Nat} {rest : Nat → Value} {w : World} {rs : List Nat} (h1 : ChD P n L H c S N fuel listed i Q) (ho : OkL n L rest) (hs : Sat w H)
    (ht : AllN P .any (opsOf c).toArray Q S N fuel listed.toArray (actOf n L rest) w rs) : AllN P .any (opsOf c).toArray Q S N fuel listed.toArray (actOf n L rest) w (i :: rs) := by
  obtain ⟨ι, d, rv, Hx, ⟨hg, hd, h⟩, hS, hn⟩ := h1
  obtain ⟨h1, h2, h3⟩ := goes_at (hg rest)
  have hio : (opsOf c).toArray[i]? = some (opAt c i) := by
    have : (opsOf c)[i]? = some (opAt c i) := by
      have e := congrArg List.head? h1
      rw [List.head?_drop, List.head?_cons] at e
      exact e
    simpa using this
  refine AllN.cons hio (fun K hK => ?_) ht
  rw [wantL_eq ho, h3, if_pos rfl]
  refine h rest w ho hs K Q (fun x w' hs' => ?_)
  refine hK.out _ _ (fun hni => hS x w' hs' hni) ?_
  have := hn x rest w' (okL_put ho (hd ▸ h2)) hs'
  simpa using this
theorem twoR {S : World → Prop} {N : List Nat} {fuel : Nat} {listed : List Bool} (i j : Nat) (fuel' : Nat) (hf : fuel = fuel' + 1) (hr : (Region.ready .any (opsOf c).toArray listed.toArray == [i, j] && [i, j] != []) = true)
    (h1 : ChD P n L H c S N fuel' listed i Q) (h2 : ChD P n L H c S N fuel' listed j Q) : DT P n L H c S N fuel listed Q := by
  subst hf
  intro rest w ho hs
  exact wpAnyN_all [i, j] hr (ChD.cons h1 ho hs (ChD.cons h2 ho hs AllN.nil))
theorem DT.pick {S : World → Prop} {N : List Nat} {fuel : Nat} {listed : List Bool} (i : Nat) {X : SP} (hi : H[i]? = some X) (h : DT P n L (X :: H.eraseIdx i) c S N fuel listed Q) : DT P n L H c S N fuel listed Q := PT.pick i hi h
theorem RT.pick {i0 m : Nat} (i : Nat) {X : SP} (hi : H[i]? = some X) (h : RT P n L (X :: H.eraseIdx i) c i0 m Q) : RT P n L H c i0 m Q := PT.pick i hi h
theorem drawnR {S : World → Prop} {N : List Nat} {fuel : Nat} {listed : List Bool} (hr : (Region.ready .any (opsOf c).toArray listed.toArray == []) = true) (h : PT n L H (Q .normal)) : DT P n L H c S N fuel listed Q :=
  fun rest w ho hs => wpAnyN_done hr (h rest w ho hs)
end
end Go.Proofs.YtjbjngikaiggdaaGreat.G
