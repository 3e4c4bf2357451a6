/- A builtin of two operands in G; the greater of two whole numbers as floats. Conditions: none. -/
import Derived.Test.YtjbjngikaiggdaaGreatFlg
import Derived.Test.YtjbjngikaiggdaaGreatTk
set_option linter.unusedVariables false
set_option linter.unusedSimpArgs false
namespace Go.Proofs.YtjbjngikaiggdaaGreat
open Go.RowKit G
namespace G
theorem bltY {P : Program} {n : Nat} {L : List (Nat × Value)} {c : Code} {S : World → Prop} {i : Nat} (b : Builtin) (x y : Operand) (ats : Array TypeId) (vx vy v : Value) (d : Option Tmp) (hg : ∀ rest, goes n c i L rest = true) (hd : (opAt c i).dst = d)
    (hop : (opAt c i).op = .call { callee := .builtin b, args := #[x, y], argTypes := ats }) (hx : ∀ rest, evalL L rest x = vx) (hy : ∀ rest, evalL L rest y = vy)
    (hr : ∀ w ty cs, (builtin b ats ty cs #[vx, vy]).run P w = .ok (.value v) w) : Yld P n L S c i d v := by
  refine ⟨hg, hd, fun rest w _ hs => ?_⟩
  unfold execOp
  simp only [hop, resolve, invoke, Sem.run_bind, Sem.run_pure, Result.andThen_ok, List.map_toArray, List.map_cons, List.map_nil, hx rest, hy rest, hr]
/-- An element's place in an array. -/
theorem aidxY {P : Program} {n : Nat} {L : List (Nat × Value)} {c : Code} {S : World → Prop} {i : Nat} (t : TypeId) (x ix : Operand) (b o len J sz : Nat) (E : TypeId) (j : Int) (k : IntKind) (d : Option Tmp) (hg : ∀ rest, goes n c i L rest = true) (hd : (opAt c i).dst = d) (hop : (opAt c i).op = .indexAddr t x ix)
    (hx : ∀ rest, evalL L rest x = .pointer (some ⟨b, o, none⟩)) (hix : ∀ rest, evalL L rest ix = .int k j) (hu : P.underlying t = some (.array len E)) (hsz : (P.info? E).map (·.size) = some sz) (hj : j = (J : Int)) (hJ : J < len) : Yld P n L S c i d (.pointer (some ⟨b, o + J * sz, none⟩)) := by
  refine ⟨hg, hd, fun rest w _ hs => ?_⟩
  have hi : ∃ q, P.info? E = some q ∧ q.size = sz := by
    cases hq : P.info? E with
    | none => rw [hq] at hsz; cases hsz
    | some q => rw [hq] at hsz; exact ⟨q, rfl, by simpa using hsz⟩
  obtain ⟨q, hq, hqs⟩ := hi
  subst hj
  unfold execOp
  simp only [hop, hx rest, hix rest]
  simp [Instr.indexAt, Instr.sureAddr, asIntOf, run_underlying hu, sizeOf, typeInfo, hq, hqs, hJ, Addr.add_lit]
/-- One operation that reckons. -/
def calmOk (P : Program) (n : Nat) (c : Code) (i : Nat) (L : List (Nat × Value)) (rest : Nat → Value) : Option (Value × Option Tmp) :=
  match goes n c i L rest with
  | true => (match calmL P (execOp (evalL L rest) (opAt c i)) [] with
    | some (.value v, [], _) => some (v, (opAt c i).dst)
    | _ => none)
  | false => none
theorem calmS {P : Program} {n : Nat} {L : List (Nat × Value)} {H : List SP} {c : Code} {i : Nat} (v : Value) (d : Option Tmp) (h : ∀ rest, calmOk P n c i L rest = some (v, d)) : Step (ι := Unit) P n L H c i d (fun _ => v) (fun _ => H) := by
  have key : ∀ rest, goes n c i L rest = true ∧ (opAt c i).dst = d ∧ ∃ r, calmL P (execOp (evalL L rest) (opAt c i)) [] = some (.value v, [], r) := by
    intro rest
    have h0 := h rest
    unfold calmOk at h0
    cases hg : goes n c i L rest with
    | false => rw [hg] at h0; cases h0
    | true =>
      rw [hg] at h0
      simp only at h0
      cases hr : calmL P (execOp (evalL L rest) (opAt c i)) [] with
      | none => rw [hr] at h0; cases h0
      | some z =>
        obtain ⟨x, cs, r⟩ := z
        rw [hr] at h0
        cases x with
        | value u =>
          cases cs with
          | cons _ _ => cases h0
          | nil =>
            simp only [Option.some.injEq, Prod.mk.injEq] at h0
            obtain ⟨rfl, rfl⟩ := h0
            exact ⟨rfl, rfl, r, rfl⟩
        | _ => cases h0
  refine valueS d _ _ (fun rest => (key rest).1) (key fun _ => undef).2.1 ?_
  intro rest w _ hs
  obtain ⟨r, hr⟩ := (key rest).2.2
  exact ⟨(), w, (calmL_run (w := w) _ hr (fun p hp => by simp at hp) (fun p hp => by simp at hp)).1, hs⟩
end G
theorem max_flt {P : Program} {a b : Int} {ats : Array TypeId} (ha : a.natAbs < 2 ^ 53) (hb : b.natAbs < 2 ^ 53) (w : World) (ty : TypeId) (cs : Array Bool) :
    (builtin .max ats ty cs #[.float .f64 (floatOfInt .f64 a), .float .f64 (floatOfInt .f64 b)]).run P w = .ok (.value (.float .f64 (floatOfInt .f64 (mxI a b)))) w := by
  have ho : FloatKind.f64.format.order (floatOfInt .f64 a) (floatOfInt .f64 b) = some (compare a b) := fi_order a b ha hb
  have h2 : (Builtin.max2 (.float .f64 (floatOfInt .f64 a)) (.float .f64 (floatOfInt .f64 b))).run P w = .ok (.float .f64 (floatOfInt .f64 (mxI a b))) w := by
    unfold Builtin.max2
    simp only [ho]
    unfold mxI
    rcases Int.lt_trichotomy a b with h | h | h
    · rw [Int.compare_eq_lt.2 h]
      simp [h]
    · subst h
      rw [Int.compare_eq_eq.2 rfl]
      simp
    · rw [Int.compare_eq_gt.2 h]
      simp [Int.lt_asymm h]
  simp [builtin, Builtin.max_, Sem.run_bind, h2]
/-- A block of elements as a row. -/
theorem Sat.blkRows {α : Type} {E : Enc α} {T : TypeId} {H : List SP} {w : World} {b : Nat} {xs : List α} (hl : xs.length ≤ maxLen) (h : Sat w (blk b T (E.flat xs) :: H)) : Sat w (row E T (.slice (some ⟨b, 0, none⟩) xs.length xs.length) xs :: H) :=
  Sat.change h fun G hG => by
    refine ⟨Upd.refl _ w, OneB b, .inr ⟨b, 0, xs.length, _, rfl, rfl, hG.1, Nat.le_refl _, hl, by simp [E.flat_length], ?_⟩, fun x hx => .inl ((hG.2 x).2 hx)⟩
    simp only [List.drop_zero]
    rw [← E.flat_length xs]; exact List.take_length
theorem PT.blkRows {α : Type} {E : Enc α} {T : TypeId} {H : List SP} {n : Nat} {L : List (Nat × Value)} {Φ : Act → World → Prop} {b : Nat} {cs : List Value} (xs : List α) (hl : xs.length ≤ maxLen) (hc : cs = E.flat xs) (h : PT n L (row E T (.slice (some ⟨b, 0, none⟩) xs.length xs.length) xs :: H) Φ) : PT n L (blk b T cs :: H) Φ :=
  PT.sat (fun w hs => Sat.blkRows hl (hc ▸ hs)) h
/-! ## nodes come out of the memory, and go in again -/
theorem Sat.nds {A B : SP} {T T' : List Nd} {H : List SP} (h : T.Perm T') {w : World} (hs : Sat w (A :: B :: (nodesL T ++ H))) : Sat w (A :: B :: (nodesL T' ++ H)) := Sat.perm ((((nodesL_perm h).append_right H).cons B).cons A) hs
theorem PT.open1 {n : Nat} {L : List (Nat × Value)} {A B : SP} {T R : List Nd} {H : List SP} {x : Nd} {Φ : Act → World → Prop} (h : T.Perm (x :: R))
    (hn : PT n L (A :: B :: blk x.b 54 (ndc x) :: idxS x.ib 60 x.q :: (nodesL R ++ H)) Φ) : PT n L (A :: B :: (nodesL T ++ H)) Φ := PT.sat (fun _ hs => Sat.nds h hs) hn
theorem PT.open2 {n : Nat} {L : List (Nat × Value)} {A B : SP} {T R : List Nd} {H : List SP} {x p : Nd} {Φ : Act → World → Prop} (h : T.Perm (x :: p :: R))
    (hn : PT n L (A :: B :: blk x.b 54 (ndc x) :: idxS x.ib 60 x.q :: blk p.b 54 (ndc p) :: idxS p.ib 60 p.q :: (nodesL R ++ H)) Φ) : PT n L (A :: B :: (nodesL T ++ H)) Φ := PT.sat (fun _ hs => Sat.nds h hs) hn
theorem PT.close1 {n : Nat} {L : List (Nat × Value)} {A B : SP} {T R : List Nd} {H : List SP} (x : Nd) {Φ : Act → World → Prop} (h : T.Perm (x :: R))
    (hn : PT n L (A :: B :: (nodesL T ++ H)) Φ) : PT n L (A :: B :: blk x.b 54 (ndc x) :: idxS x.ib 60 x.q :: (nodesL R ++ H)) Φ := PT.sat (fun _ hs => Sat.nds (T := x :: R) h.symm hs) hn
theorem PT.close2 {n : Nat} {L : List (Nat × Value)} {A B : SP} {T R : List Nd} {H : List SP} (x p : Nd) {Φ : Act → World → Prop} (h : T.Perm (x :: p :: R))
    (hn : PT n L (A :: B :: (nodesL T ++ H)) Φ) : PT n L (A :: B :: blk x.b 54 (ndc x) :: idxS x.ib 60 x.q :: blk p.b 54 (ndc p) :: idxS p.ib 60 p.q :: (nodesL R ++ H)) Φ := PT.sat (fun _ hs => Sat.nds (T := x :: p :: R) h.symm hs) hn
theorem Sat.nds3 {A B C : SP} {T T' : List Nd} {H : List SP} (h : T.Perm T') {w : World} (hs : Sat w (A :: B :: C :: (nodesL T ++ H))) : Sat w (A :: B :: C :: (nodesL T' ++ H)) := Sat.perm (((((nodesL_perm h).append_right H).cons C).cons B).cons A) hs
theorem PT.open1c {n : Nat} {L : List (Nat × Value)} {A B C : SP} {T R : List Nd} {H : List SP} {x : Nd} {Φ : Act → World → Prop} (h : T.Perm (x :: R))
    (hn : PT n L (A :: B :: C :: blk x.b 54 (ndc x) :: idxS x.ib 60 x.q :: (nodesL R ++ H)) Φ) : PT n L (A :: B :: C :: (nodesL T ++ H)) Φ := PT.sat (fun _ hs => Sat.nds3 h hs) hn
theorem PT.close1c {n : Nat} {L : List (Nat × Value)} {A B C : SP} {T R : List Nd} {H : List SP} (x : Nd) {Φ : Act → World → Prop} (h : T.Perm (x :: R))
    (hn : PT n L (A :: B :: C :: (nodesL T ++ H)) Φ) : PT n L (A :: B :: C :: blk x.b 54 (ndc x) :: idxS x.ib 60 x.q :: (nodesL R ++ H)) Φ := PT.sat (fun _ hs => Sat.nds3 (T := x :: R) h.symm hs) hn
theorem Sat.nds4 {A B C D : SP} {T T' : List Nd} {H : List SP} (h : T.Perm T') {w : World} (hs : Sat w (A :: B :: C :: D :: (nodesL T ++ H))) : Sat w (A :: B :: C :: D :: (nodesL T' ++ H)) := Sat.perm ((((((nodesL_perm h).append_right H).cons D).cons C).cons B).cons A) hs
theorem PT.open1d {n : Nat} {L : List (Nat × Value)} {A B C D : SP} {T R : List Nd} {H : List SP} {x : Nd} {Φ : Act → World → Prop} (h : T.Perm (x :: R))
    (hn : PT n L (A :: B :: C :: D :: blk x.b 54 (ndc x) :: idxS x.ib 60 x.q :: (nodesL R ++ H)) Φ) : PT n L (A :: B :: C :: D :: (nodesL T ++ H)) Φ := PT.sat (fun _ hs => Sat.nds4 h hs) hn
theorem PT.close1d {n : Nat} {L : List (Nat × Value)} {A B C D : SP} {T R : List Nd} {H : List SP} (x : Nd) {Φ : Act → World → Prop} (h : T.Perm (x :: R))
    (hn : PT n L (A :: B :: C :: D :: (nodesL T ++ H)) Φ) : PT n L (A :: B :: C :: D :: blk x.b 54 (ndc x) :: idxS x.ib 60 x.q :: (nodesL R ++ H)) Φ := PT.sat (fun _ hs => Sat.nds4 (T := x :: R) h.symm hs) hn
end Go.Proofs.YtjbjngikaiggdaaGreat
