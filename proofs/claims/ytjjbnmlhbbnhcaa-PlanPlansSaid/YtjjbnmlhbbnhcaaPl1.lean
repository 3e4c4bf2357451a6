/- conf.within, label.Is, label.Leq, label.Chain: their walks. Conditions: none. -/
import Derived.Test.YtjjbnmlhbbnhcaaKc
import Derived.Laws.StructEq
import Derived.ChangeKeysEq
set_option linter.unusedVariables false
set_option linter.unusedSimpArgs false
namespace Go.Proofs.Ytjjbnmlhbbnhcaa
open Go.RowKit G
def inb (x a b : Int) : Bool := decide (x ≥ a) && decide (x ≤ b)
set_option maxRecDepth 100000 in
theorem within_walk (H : List SP) (x a b : Int) : ∀ w, Sat w H → Calls Try.prog 46 #[.int .i64 x, .int .i64 a, .int .i64 b] w (Ret (ι := Unit) (fun _ => .bool (inb x a b)) fun _ => H) := by
  refine enterG (fn := Try.f46) 15 [.int .i64 x, .int .i64 a, .int .i64 b] Try.func46 (by kernel_rfl) (by kernel_rfl) (by kernel_rfl) ?_
  refine seqR (by kernel_rfl) ?_
  refine regionR 1 (by kernel_rfl) (by kernel_rfl) ?_
  refine (run0 (z := 0) 1 [0, 1, 2, 6] [(0, .int .i64 x), (1, .int .i64 a), (2, .int .i64 b), (6, .bool false)] (fun _ => by kernel_rfl) (endR ?_) : RT _ _ _ _ _ _ 1 _)
  refine seqR (by kernel_rfl) ?_
  refine regionR 9 (by kernel_rfl) (by kernel_rfl) ?_
  refine (run0 (z := 5) 4 [0, 2, 6, 10] [(0, .int .i64 x), (2, .int .i64 b), (6, .bool false), (10, .bool (decide (x ≥ a)))] (fun _ => by kernel_rfl) ?_ : RT _ _ _ _ _ _ 9 _)
  refine (segR (ι := Unit) (z := 1) 4 (fun _ => [(6, .bool false), (14, .bool ((decide (x ≥ a)) && (decide (x ≤ b))))]) (fun _ => (H)) ?_ (fun _ => ?_) : RT _ _ _ _ _ _ 5 _)
  · cases hg4 : (decide (x ≥ a)) with
    | true =>
      refine (run0 (z := 0) 4 [6, 14] [(6, .bool false), (14, .bool (decide (x ≤ b)))] (fun _ => by kernel_rfl) (endR ?_) : RT _ _ _ _ _ _ 4 _)
      refine PT.keep (L' := [(6, .bool false), (14, .bool (true && (decide (x ≤ b))))]) [6, 14] rfl ?_
      exact midR () rfl rfl
    | false =>
      refine (run0 (z := 0) 4 [6, 14] [(6, .bool false), (14, .bool false)] (fun _ => by kernel_rfl) (endR ?_) : RT _ _ _ _ _ _ 4 _)
      refine PT.keep (L' := [(6, .bool false), (14, .bool (false && (decide (x ≤ b))))]) [6, 14] rfl ?_
      exact midR () rfl rfl
  refine (run0 (z := 0) 1 [6] [(6, .bool ((decide (x ≥ a)) && (decide (x ≤ b))))] (fun _ => by kernel_rfl) (endR ?_) : RT _ _ _ _ _ _ 1 _)
  refine retR (by kernel_rfl) ?_
  refine done0 (.bool ((decide (x ≥ a)) && (decide (x ≤ b)))) (fun _ => by kernel_rfl) (fun w hs => ?_) .ret (.inr rfl)
  exact ⟨(), rfl, hs⟩
def labIs (l : LabV) : Bool := decide (l.level ≥ 0) && decide (l.level ≤ 255)
def catsIn (a b : Int) : Bool := IntKind.u64.wrap ((BitVec.ofInt 64 a &&& ~~~ BitVec.ofInt 64 b).toNat : Int) == 0
def labLeq (a b : LabV) : Bool := decide (a.level ≤ b.level) && catsIn a.cats b.cats
set_option maxRecDepth 100000 in
theorem labIs_walk (H : List SP) (l : LabV) : ∀ w, Sat w H → Calls Try.prog 47 #[.agg #[.int .i64 l.level, .int .u64 l.cats]] w (Ret (ι := Unit) (fun _ => .bool (labIs l)) fun _ => H) := by
  refine enterG (fn := Try.f47) 11 [.agg #[.int .i64 l.level, .int .u64 l.cats]] Try.func47 (by kernel_rfl) (by kernel_rfl) (by kernel_rfl) ?_
  refine seqR (by kernel_rfl) ?_
  refine regionR 2 (by kernel_rfl) (by kernel_rfl) ?_
  refine (stepR (z := 1) (newS 44 [.int .i64 l.level, .int .u64 l.cats] (some 1) (fun b => .pointer (some ⟨b, 0, none⟩)) (fun _ _ => by kernel_rfl)) (fun b1 => ?_) : RT _ _ _ _ _ _ 2 _)
  refine (run0 (z := 0) 1 [1, 2] [(1, .pointer (some ⟨b1, 0, none⟩)), (2, .bool false)] (fun _ => by kernel_rfl) (endR ?_) : RT _ _ _ _ _ _ 1 _)
  refine seqR (by kernel_rfl) ?_
  refine regionR 9 (by kernel_rfl) (by kernel_rfl) ?_
  refine (runR (H := (blk b1 44 [.int .i64 l.level, .int .u64 l.cats] :: H)) (z := 5) 4 [1, 2, 6] [(1, .pointer (some ⟨b1, 0, none⟩)), (2, .bool false), (6, .bool (decide (l.level ≥ 0)))] [(⟨b1, 0, none⟩, .int .i64 l.level)] (hasC (blkAt (T := 44) (cs := [.int .i64 l.level, .int .u64 l.cats]) 0 rfl rfl) has0) (fun _ => by kernel_rfl) ?_ : RT _ _ _ _ _ _ 9 _)
  refine (segR (ι := Unit) (z := 1) 4 (fun _ => [(2, .bool false), (10, .bool ((decide (l.level ≥ 0)) && (decide (l.level ≤ 255))))]) (fun _ => (blk b1 44 [.int .i64 l.level, .int .u64 l.cats] :: H)) ?_ (fun _ => ?_) : RT _ _ _ _ _ _ 5 _)
  · cases hg4 : (decide (l.level ≥ 0)) with
    | true =>
      refine (runR (H := (blk b1 44 [.int .i64 l.level, .int .u64 l.cats] :: H)) (z := 0) 4 [2, 10] [(2, .bool false), (10, .bool (decide (l.level ≤ 255)))] [(⟨b1, 0, none⟩, .int .i64 l.level)] (hasC (blkAt (T := 44) (cs := [.int .i64 l.level, .int .u64 l.cats]) 0 rfl rfl) has0) (fun _ => by kernel_rfl) (endR ?_) : RT _ _ _ _ _ _ 4 _)
      refine PT.keep (L' := [(2, .bool false), (10, .bool (true && (decide (l.level ≤ 255))))]) [2, 10] rfl ?_
      exact midR () rfl rfl
    | false =>
      refine (run0 (z := 0) 4 [2, 10] [(2, .bool false), (10, .bool false)] (fun _ => by kernel_rfl) (endR ?_) : RT _ _ _ _ _ _ 4 _)
      refine PT.keep (L' := [(2, .bool false), (10, .bool (false && (decide (l.level ≤ 255))))]) [2, 10] rfl ?_
      exact midR () rfl rfl
  refine (run0 (z := 0) 1 [2] [(2, .bool ((decide (l.level ≥ 0)) && (decide (l.level ≤ 255))))] (fun _ => by kernel_rfl) (endR ?_) : RT _ _ _ _ _ _ 1 _)
  refine retR (by kernel_rfl) ?_
  refine done0 (.bool ((decide (l.level ≥ 0)) && (decide (l.level ≤ 255)))) (fun _ => by kernel_rfl) (fun w hs => ?_) .ret (.inr rfl)
  exact ⟨(), rfl, hs.tail⟩
set_option maxRecDepth 100000 in
theorem labLeq_walk (H : List SP) (a b : LabV) : ∀ w, Sat w H → Calls Try.prog 56 #[.agg #[.int .i64 a.level, .int .u64 a.cats], .agg #[.int .i64 b.level, .int .u64 b.cats]] w (Ret (ι := Unit) (fun _ => .bool (labLeq a b)) fun _ => H) := by
  refine enterG (fn := Try.f56) 18 [.agg #[.int .i64 a.level, .int .u64 a.cats], .agg #[.int .i64 b.level, .int .u64 b.cats]] Try.func56 (by kernel_rfl) (by kernel_rfl) (by kernel_rfl) ?_
  refine seqR (by kernel_rfl) ?_
  refine regionR 3 (by kernel_rfl) (by kernel_rfl) ?_
  refine (stepR (z := 2) (newS 44 [.int .i64 a.level, .int .u64 a.cats] (some 2) (fun b => .pointer (some ⟨b, 0, none⟩)) (fun _ _ => by kernel_rfl)) (fun b1 => ?_) : RT _ _ _ _ _ _ 3 _)
  refine (stepR (z := 1) (newS 44 [.int .i64 b.level, .int .u64 b.cats] (some 3) (fun b => .pointer (some ⟨b, 0, none⟩)) (fun _ _ => by kernel_rfl)) (fun b2 => ?_) : RT _ _ _ _ _ _ 2 _)
  refine (run0 (z := 0) 1 [3, 2, 4] [(3, .pointer (some ⟨b2, 0, none⟩)), (2, .pointer (some ⟨b1, 0, none⟩)), (4, .bool false)] (fun _ => by kernel_rfl) (endR ?_) : RT _ _ _ _ _ _ 1 _)
  refine seqR (by kernel_rfl) ?_
  refine regionR 14 (by kernel_rfl) (by kernel_rfl) ?_
  refine (runR (H := (blk b2 44 [.int .i64 b.level, .int .u64 b.cats] :: blk b1 44 [.int .i64 a.level, .int .u64 a.cats] :: H)) (z := 8) 6 [3, 2, 4, 10] [(3, .pointer (some ⟨b2, 0, none⟩)), (2, .pointer (some ⟨b1, 0, none⟩)), (4, .bool false), (10, .bool (decide (a.level ≤ b.level)))] [(⟨b1, 0, none⟩, .int .i64 a.level), (⟨b2, 0, none⟩, .int .i64 b.level)] (hasC (blkAt (T := 44) (cs := [.int .i64 a.level, .int .u64 a.cats]) 1 rfl rfl) (hasC (blkAt (T := 44) (cs := [.int .i64 b.level, .int .u64 b.cats]) 0 rfl rfl) has0)) (fun _ => by kernel_rfl) ?_ : RT _ _ _ _ _ _ 14 _)
  refine (segR (ι := Unit) (z := 1) 7 (fun _ => [(4, .bool false), (17, .bool ((decide (a.level ≤ b.level)) && ((IntKind.u64.wrap ((BitVec.ofInt 64 a.cats &&& ~~~ BitVec.ofInt 64 b.cats).toNat : Int)) == 0)))]) (fun _ => (blk b2 44 [.int .i64 b.level, .int .u64 b.cats] :: blk b1 44 [.int .i64 a.level, .int .u64 a.cats] :: H)) ?_ (fun _ => ?_) : RT _ _ _ _ _ _ 8 _)
  · cases hg6 : (decide (a.level ≤ b.level)) with
    | true =>
      refine (runR (H := (blk b2 44 [.int .i64 b.level, .int .u64 b.cats] :: blk b1 44 [.int .i64 a.level, .int .u64 a.cats] :: H)) (z := 0) 7 [4, 17] [(4, .bool false), (17, .bool ((IntKind.u64.wrap ((BitVec.ofInt 64 a.cats &&& ~~~ BitVec.ofInt 64 b.cats).toNat : Int)) == 0))] [(⟨b1, 1, none⟩, .int .u64 a.cats), (⟨b2, 1, none⟩, .int .u64 b.cats)] (hasC (blkAt (T := 44) (cs := [.int .i64 a.level, .int .u64 a.cats]) 1 rfl rfl) (hasC (blkAt (T := 44) (cs := [.int .i64 b.level, .int .u64 b.cats]) 0 rfl rfl) has0)) (fun _ => by kernel_rfl) (endR ?_) : RT _ _ _ _ _ _ 7 _)
      refine PT.keep (L' := [(4, .bool false), (17, .bool (true && ((IntKind.u64.wrap ((BitVec.ofInt 64 a.cats &&& ~~~ BitVec.ofInt 64 b.cats).toNat : Int)) == 0)))]) [4, 17] rfl ?_
      exact midR () rfl rfl
    | false =>
      refine (run0 (z := 0) 7 [4, 17] [(4, .bool false), (17, .bool false)] (fun _ => by kernel_rfl) (endR ?_) : RT _ _ _ _ _ _ 7 _)
      refine PT.keep (L' := [(4, .bool false), (17, .bool (false && ((IntKind.u64.wrap ((BitVec.ofInt 64 a.cats &&& ~~~ BitVec.ofInt 64 b.cats).toNat : Int)) == 0)))]) [4, 17] rfl ?_
      exact midR () rfl rfl
  refine (run0 (z := 0) 1 [4] [(4, .bool ((decide (a.level ≤ b.level)) && ((IntKind.u64.wrap ((BitVec.ofInt 64 a.cats &&& ~~~ BitVec.ofInt 64 b.cats).toNat : Int)) == 0)))] (fun _ => by kernel_rfl) (endR ?_) : RT _ _ _ _ _ _ 1 _)
  refine retR (by kernel_rfl) ?_
  refine done0 (.bool ((decide (a.level ≤ b.level)) && ((IntKind.u64.wrap ((BitVec.ofInt 64 a.cats &&& ~~~ BitVec.ofInt 64 b.cats).toNat : Int)) == 0))) (fun _ => by kernel_rfl) (fun w hs => ?_) .ret (.inr rfl)
  exact ⟨(), rfl, hs.tail.tail⟩
def labEq (a b : LabV) : Bool := (a.level == b.level) && (a.cats == b.cats)
theorem eqFields_int {P : Program} (w : World) (d : Nat) (xs ys : Array Value) (f : Field) (fs : List Field) (k k' : IntKind) (a b : Int) (hn : (f.name == "_") = false) (hu : P.underlying f.type = some (.int k')) (hp : P.plainKey f.type = true) (hx : xs[f.offset]? = some (.int k a)) (hy : ys[f.offset]? = some (.int k b)) :
    (Op.eqFields (d + 1) xs ys (f :: fs)).run P w = if (a == b) = true then (Op.eqFields (d + 1) xs ys fs).run P w else .ok false w := by
  have hn' : f.name ≠ "_" := by simpa using hn
  rw [Op.eqFields, if_pos hn']
  simp only [Sem.run_bind, run_part_plain w hp hx, run_part_plain w hp hy, Result.andThen_ok, run_equalIn_int w d f.type k k' a b hu]
  cases h : (a == b) <;> simp
theorem lab_eql (a b : LabV) (x y : Operand) (w : World) : (do eqGuard .eql 44 x y a.v b.v; binOp .eql 44 a.v b.v : Sem Value).run Try.prog w = .ok (.bool (labEq a b)) w := by
  unfold LabV.v labEq
  rw [Sem.run_bind, run_eqGuard_agg w _ _ _ _ _ _ (by kernel_rfl)]
  simp only [Result.andThen_ok]
  rw [run_eql_struct, run_equalIn_struct w 9999 _ _ _ (by kernel_rfl) (by kernel_rfl)]
  have hl : (Try.prog.fieldsOf 44).toList = [(Try.prog.fieldsOf 44).toList.getD 0 default, (Try.prog.fieldsOf 44).toList.getD 1 default] := by kernel_rfl
  rw [hl, eqFields_int w 9998 _ _ _ _ .i64 .i64 a.level b.level (by kernel_rfl) (by kernel_rfl) (by kernel_rfl) (by kernel_rfl) (by kernel_rfl), eqFields_int w 9998 _ _ _ _ .u64 .u64 a.cats b.cats (by kernel_rfl) (by kernel_rfl) (by kernel_rfl) (by kernel_rfl) (by kernel_rfl)]
  cases a.level == b.level <;> cases a.cats == b.cats <;> simp [Op.eqFields]
theorem lab_eqv (a b : LabV) (w : World) : (Op.equalIn 10000 44 a.v b.v).run Try.prog w = .ok (labEq a b) w := by
  unfold LabV.v labEq
  rw [run_equalIn_struct w 9999 _ _ _ (by kernel_rfl) (by kernel_rfl)]
  have hl : (Try.prog.fieldsOf 44).toList = [(Try.prog.fieldsOf 44).toList.getD 0 default, (Try.prog.fieldsOf 44).toList.getD 1 default] := by kernel_rfl
  rw [hl, eqFields_int w 9998 _ _ _ _ .i64 .i64 a.level b.level (by kernel_rfl) (by kernel_rfl) (by kernel_rfl) (by kernel_rfl) (by kernel_rfl), eqFields_int w 9998 _ _ _ _ .u64 .u64 a.cats b.cats (by kernel_rfl) (by kernel_rfl) (by kernel_rfl) (by kernel_rfl) (by kernel_rfl)]
  cases a.level == b.level <;> cases a.cats == b.cats <;> simp [Op.eqFields]
theorem lab_neq (a b : LabV) (x y : Operand) (w : World) : (do eqGuard .neq 44 x y a.v b.v; binOp .neq 44 a.v b.v : Sem Value).run Try.prog w = .ok (.bool (!labEq a b)) w := by
  have h := lab_eqv a b w
  unfold LabV.v at h ⊢
  rw [Sem.run_bind, run_eqGuard_agg w _ _ _ _ _ _ (by kernel_rfl)]
  simp only [Result.andThen_ok]
  rw [run_neq_struct, h]
  rfl
/-- Each label below the next one, and another one. -/
def chainOk : List LabV → Bool
  | a :: b :: r => !(labEq a b || !labLeq a b) && chainOk (b :: r)
  | _ => true
set_option maxRecDepth 100000 in
theorem chain_walk (H : List SP) (s : SV LabV) (hk : KR H labE s) (hc : s.l.length ≤ s.c) : ∀ w, Sat w H → Calls Try.prog 55 #[.slice s.a s.l.length s.c] w (Ret (ι := Unit) (fun _ => .bool (chainOk s.l)) fun _ => H) := by
  refine enterG (fn := Try.f55) 25 [.slice s.a s.l.length s.c] Try.func55 (by kernel_rfl) (by kernel_rfl) (by kernel_rfl) ?_
  refine seqR (by kernel_rfl) ?_
  refine regionR 1 (by kernel_rfl) (by kernel_rfl) ?_
  refine (run0 (z := 0) 1 [0, 2] [(0, .slice s.a s.l.length s.c), (2, .bool false)] (fun _ => by kernel_rfl) (endR ?_) : RT _ _ _ _ _ _ 1 _)
  refine scopeG 0 (fun (x : SV LabV) => [(0, .slice x.a x.l.length x.c)]) (fun _ => (H)) (fun k (x : SV LabV) => k = x.l.length ∧ KR H labE x ∧ x.l.length ≤ x.c ∧ chainOk x.l = chainOk s.l) (by kernel_rfl) (by kernel_rfl) (by kernel_rfl) (by kernel_rfl) ?_ ?_
  · skip
    rintro k ⟨A, c, xs⟩ ⟨rfl, hk, hc, hm⟩ K hK
    dsimp only at hk hc hm ⊢
    cases xs with
    | nil =>
      refine seqR (by kernel_rfl) ?_
      refine seqR (by kernel_rfl) ?_
      refine regionR 3 (by kernel_rfl) (by kernel_rfl) ?_
      refine (run0 (z := 0) 3 [0, 5] [(0, .slice A (([] : List LabV).length) c), (5, .bool (decide ((([] : List LabV).length : Int) < 2)))] (fun _ => by kernel_rfl) (endR ?_) : RT _ _ _ _ _ _ 3 _)
      refine condR (b := true) (by kernel_rfl) (fun _ => by kernel_rfl) (fun _ => ?_) (fun h => by cases h)
      refine seqR (by kernel_rfl) ?_
      refine regionR 1 (by kernel_rfl) (by kernel_rfl) ?_
      refine (run0 (z := 0) 1 [0, 2] [(0, .slice A (([] : List LabV).length) c), (2, .bool true)] (fun _ => by kernel_rfl) (endR ?_) : RT _ _ _ _ _ _ 1 _)
      refine retR (by kernel_rfl) ?_
      refine thenV ?_
      refine jumpV ?_
      refine done0 (.bool true) (fun _ => by kernel_rfl) (fun w hs => ?_) .ret (.inr rfl)
      rw [← hm]; exact ⟨(), rfl, hs⟩
    | cons a xs =>
      cases xs with
      | nil =>
        refine seqR (by kernel_rfl) ?_
        refine seqR (by kernel_rfl) ?_
        refine regionR 3 (by kernel_rfl) (by kernel_rfl) ?_
        refine (run0 (z := 0) 3 [0, 5] [(0, .slice A ((a :: ([] : List LabV)).length) c), (5, .bool (decide (((a :: ([] : List LabV)).length : Int) < 2)))] (fun _ => by kernel_rfl) (endR ?_) : RT _ _ _ _ _ _ 3 _)
        refine condR (b := true) (by kernel_rfl) (fun _ => by kernel_rfl) (fun _ => ?_) (fun h => by cases h)
        refine seqR (by kernel_rfl) ?_
        refine regionR 1 (by kernel_rfl) (by kernel_rfl) ?_
        refine (run0 (z := 0) 1 [0, 2] [(0, .slice A ((a :: ([] : List LabV)).length) c), (2, .bool true)] (fun _ => by kernel_rfl) (endR ?_) : RT _ _ _ _ _ _ 1 _)
        refine retR (by kernel_rfl) ?_
        refine thenV ?_
        refine jumpV ?_
        refine done0 (.bool true) (fun _ => by kernel_rfl) (fun w hs => ?_) .ret (.inr rfl)
        rw [← hm]; exact ⟨(), rfl, hs⟩
      | cons b r =>
        refine seqR (by kernel_rfl) ?_
        refine seqR (by kernel_rfl) ?_
        refine regionR 3 (by kernel_rfl) (by kernel_rfl) ?_
        refine (run0 (z := 0) 3 [0, 5] [(0, .slice A ((a :: (b :: r)).length) c), (5, .bool (decide (((a :: (b :: r)).length : Int) < 2)))] (fun _ => by kernel_rfl) (endR ?_) : RT _ _ _ _ _ _ 3 _)
        refine condR (b := decide (((a :: (b :: r)).length : Int) < 2)) (by kernel_rfl) (fun _ => by kernel_rfl) (fun h => ?_) (fun h => ?_)
        · skip
          exfalso; have := of_decide_eq_true h; simp only [List.length_cons] at this; omega
        · skip
          refine PT.know (hk.isSome (by simp)) ?_
          rintro ⟨sb, so, hA⟩
          dsimp only at hA
          subst hA
          refine skipR (by kernel_rfl) ?_
          refine seqR (by kernel_rfl) ?_
          refine seqR (by kernel_rfl) ?_
          refine drawR (fun w => Sat w (H)) [] 17 (by kernel_rfl) (by kernel_rfl) (by kernel_rfl) (fun _ h => by first | exact h | exact h.tail | exact h.tail.tail | exact h.tail.tail.tail | exact h.tail.tail.tail.tail) ?_
          refine takesR [0, 3] [0, 6, 9] 15 [true, false, false, true, false, false, false, false, false, false, false, false, false, false, false, false, false] [(0, .slice (some ⟨sb, so, none⟩) ((a :: (b :: r)).length) c), (6, .slice (some ⟨sb, so, none⟩) ((a :: (b :: r)).length) c), (9, .slice (some ⟨sb, so, none⟩) ((a :: (b :: r)).length) c)] [] rfl (fun _ d _ _ _ h => by cases d <;> exact h) (fun _ h => by first | exact h | exact h.tail | exact h.tail.tail | exact h.tail.tail.tail | exact h.tail.tail.tail.tail) has0 (fun _ => by kernel_rfl) ?_
          refine takeR1 1 14 [true, true, false, true, false, false, false, false, false, false, false, false, false, false, false, false, false] rfl rfl (by kernel_rfl) (fun _ d _ _ _ h => by cases d <;> exact h) (fun _ h => by first | exact h | exact h.tail | exact h.tail.tail | exact h.tail.tail.tail | exact h.tail.tail.tail.tail) (idxY 67 (.tmp 6) (.const (.int .i64 0)) sb so ((a :: (b :: r)).length) c 0 2 44 0 .i64 (some 7) (fun _ => by kernel_rfl) (by kernel_rfl) (by kernel_rfl) (fun _ => by kernel_rfl) (fun _ => by kernel_rfl) Try.underlying67 (by kernel_rfl) (by first | rfl | assumption | simp) (by first | omega | (simp; done) | (simp; omega) | (simp at *; omega))) ?_
          refine takesR [2] [0, 9, 8] 13 [true, true, true, true, false, false, false, false, false, false, false, false, false, false, false, false, false] [(0, .slice (some ⟨sb, so, none⟩) ((a :: (b :: r)).length) c), (9, .slice (some ⟨sb, so, none⟩) ((a :: (b :: r)).length) c), (8, .agg #[.int .i64 a.level, .int .u64 a.cats])] [(⟨sb, so + 0 * 2, none⟩, .int .i64 a.level), (⟨sb, so + 0 * 2 + 1, none⟩, .int .u64 a.cats)] rfl (fun _ d _ _ _ h => by cases d <;> exact h) (fun _ h => by first | exact h | exact h.tail | exact h.tail.tail | exact h.tail.tail.tail | exact h.tail.tail.tail.tail) (hasC (hk.cell rfl (i := 0) rfl (j := 0) rfl) (hasC (hk.cell rfl (i := 0) rfl (j := 1) rfl) has0)) (fun _ => by kernel_rfl) ?_
          refine takeR1 4 12 [true, true, true, true, true, false, false, false, false, false, false, false, false, false, false, false, false] rfl rfl (by kernel_rfl) (fun _ d _ _ _ h => by cases d <;> exact h) (fun _ h => by first | exact h | exact h.tail | exact h.tail.tail | exact h.tail.tail.tail | exact h.tail.tail.tail.tail) (idxY 67 (.tmp 9) (.const (.int .i64 1)) sb so ((a :: (b :: r)).length) c 1 2 44 1 .i64 (some 10) (fun _ => by kernel_rfl) (by kernel_rfl) (by kernel_rfl) (fun _ => by kernel_rfl) (fun _ => by kernel_rfl) Try.underlying67 (by kernel_rfl) (by first | rfl | assumption | simp) (by first | omega | (simp; done) | (simp; omega) | (simp at *; omega))) ?_
          refine takesR [5] [0, 8, 11] 11 [true, true, true, true, true, true, false, false, false, false, false, false, false, false, false, false, false] [(0, .slice (some ⟨sb, so, none⟩) ((a :: (b :: r)).length) c), (8, .agg #[.int .i64 a.level, .int .u64 a.cats]), (11, .agg #[.int .i64 b.level, .int .u64 b.cats])] [(⟨sb, so + 1 * 2, none⟩, .int .i64 b.level), (⟨sb, so + 1 * 2 + 1, none⟩, .int .u64 b.cats)] rfl (fun _ d _ _ _ h => by cases d <;> exact h) (fun _ h => by first | exact h | exact h.tail | exact h.tail.tail | exact h.tail.tail.tail | exact h.tail.tail.tail.tail) (hasC (hk.cell rfl (i := 1) rfl (j := 0) rfl) (hasC (hk.cell rfl (i := 1) rfl (j := 1) rfl) has0)) (fun _ => by kernel_rfl) ?_
          refine takeR1 6 10 [true, true, true, true, true, true, true, false, false, false, false, false, false, false, false, false, false] rfl rfl (by kernel_rfl) (fun _ d _ _ _ h => by cases d <;> exact h) (fun _ h => by first | exact h | exact h.tail | exact h.tail.tail | exact h.tail.tail.tail | exact h.tail.tail.tail.tail) (binY .eql 44 44 (.tmp 8) (.tmp 11) (.agg #[.int .i64 a.level, .int .u64 a.cats]) (.agg #[.int .i64 b.level, .int .u64 b.cats]) (.bool (labEq a b)) (some 12) (fun _ => by kernel_rfl) (by kernel_rfl) (by kernel_rfl) (fun _ => by kernel_rfl) (fun _ => by kernel_rfl) (lab_eql a b _ _)) ?_
          refine takesR [7] [0, 13] 9 [true, true, true, true, true, true, true, true, false, false, false, false, false, false, false, false, false] [(0, .slice (some ⟨sb, so, none⟩) ((a :: (b :: r)).length) c), (13, .bool (labEq a b))] [] rfl (fun _ d _ _ _ h => by cases d <;> exact h) (fun _ h => by first | exact h | exact h.tail | exact h.tail.tail | exact h.tail.tail.tail | exact h.tail.tail.tail.tail) has0 (fun _ => by kernel_rfl) ?_
          cases he : (labEq a b) with
          | true =>
            refine takesR [8, 9, 10, 11, 12, 13, 14, 15, 16] [0, 22] 0 [true, true, true, true, true, true, true, true, true, true, true, true, true, true, true, true, true] [(0, .slice (some ⟨sb, so, none⟩) ((a :: (b :: r)).length) c), (22, .bool true)] [] rfl (fun _ d _ _ _ h => by cases d <;> exact h) (fun _ h => by first | exact h | exact h.tail | exact h.tail.tail | exact h.tail.tail.tail | exact h.tail.tail.tail.tail) has0 (fun _ => by kernel_rfl) ?_
            refine drawnR (by kernel_rfl) ?_
            refine condR (b := true) (by kernel_rfl) (fun _ => by kernel_rfl) (fun _ => ?_) (fun h => by cases h)
            refine seqR (by kernel_rfl) ?_
            refine regionR 1 (by kernel_rfl) (by kernel_rfl) ?_
            refine (run0 (z := 0) 1 [0, 2] [(0, .slice (some ⟨sb, so, none⟩) ((a :: (b :: r)).length) c), (2, .bool false)] (fun _ => by kernel_rfl) (endR ?_) : RT _ _ _ _ _ _ 1 _)
            refine retR (by kernel_rfl) ?_
            refine thenV ?_
            refine jumpV ?_
            refine done0 (.bool false) (fun _ => by kernel_rfl) (fun w hs => ?_) .normal (.inl rfl)
            rw [← hm]; exact ⟨(), by simp [chainOk, he], hs⟩
          | false =>
            refine takesR [8, 11] [0, 13, 14, 17] 7 [true, true, true, true, true, true, true, true, true, false, false, true, false, false, false, false, false] [(0, .slice (some ⟨sb, so, none⟩) ((a :: (b :: r)).length) c), (13, .bool false), (14, .slice (some ⟨sb, so, none⟩) ((a :: (b :: r)).length) c), (17, .slice (some ⟨sb, so, none⟩) ((a :: (b :: r)).length) c)] [] rfl (fun _ d _ _ _ h => by cases d <;> exact h) (fun _ h => by first | exact h | exact h.tail | exact h.tail.tail | exact h.tail.tail.tail | exact h.tail.tail.tail.tail) has0 (fun _ => by kernel_rfl) ?_
            refine takeR1 9 6 [true, true, true, true, true, true, true, true, true, true, false, true, false, false, false, false, false] rfl rfl (by kernel_rfl) (fun _ d _ _ _ h => by cases d <;> exact h) (fun _ h => by first | exact h | exact h.tail | exact h.tail.tail | exact h.tail.tail.tail | exact h.tail.tail.tail.tail) (idxY 67 (.tmp 14) (.const (.int .i64 0)) sb so ((a :: (b :: r)).length) c 0 2 44 0 .i64 (some 15) (fun _ => by kernel_rfl) (by kernel_rfl) (by kernel_rfl) (fun _ => by kernel_rfl) (fun _ => by kernel_rfl) Try.underlying67 (by kernel_rfl) (by first | rfl | assumption | simp) (by first | omega | (simp; done) | (simp; omega) | (simp at *; omega))) ?_
            refine takesR [10] [0, 13, 17, 16] 5 [true, true, true, true, true, true, true, true, true, true, true, true, false, false, false, false, false] [(0, .slice (some ⟨sb, so, none⟩) ((a :: (b :: r)).length) c), (13, .bool false), (17, .slice (some ⟨sb, so, none⟩) ((a :: (b :: r)).length) c), (16, .agg #[.int .i64 a.level, .int .u64 a.cats])] [(⟨sb, so + 0 * 2, none⟩, .int .i64 a.level), (⟨sb, so + 0 * 2 + 1, none⟩, .int .u64 a.cats)] rfl (fun _ d _ _ _ h => by cases d <;> exact h) (fun _ h => by first | exact h | exact h.tail | exact h.tail.tail | exact h.tail.tail.tail | exact h.tail.tail.tail.tail) (hasC (hk.cell rfl (i := 0) rfl (j := 0) rfl) (hasC (hk.cell rfl (i := 0) rfl (j := 1) rfl) has0)) (fun _ => by kernel_rfl) ?_
            refine takeR1 12 4 [true, true, true, true, true, true, true, true, true, true, true, true, true, false, false, false, false] rfl rfl (by kernel_rfl) (fun _ d _ _ _ h => by cases d <;> exact h) (fun _ h => by first | exact h | exact h.tail | exact h.tail.tail | exact h.tail.tail.tail | exact h.tail.tail.tail.tail) (idxY 67 (.tmp 17) (.const (.int .i64 1)) sb so ((a :: (b :: r)).length) c 1 2 44 1 .i64 (some 18) (fun _ => by kernel_rfl) (by kernel_rfl) (by kernel_rfl) (fun _ => by kernel_rfl) (fun _ => by kernel_rfl) Try.underlying67 (by kernel_rfl) (by first | rfl | assumption | simp) (by first | omega | (simp; done) | (simp; omega) | (simp at *; omega))) ?_
            refine takesR [13] [0, 13, 16, 19] 3 [true, true, true, true, true, true, true, true, true, true, true, true, true, true, false, false, false] [(0, .slice (some ⟨sb, so, none⟩) ((a :: (b :: r)).length) c), (13, .bool false), (16, .agg #[.int .i64 a.level, .int .u64 a.cats]), (19, .agg #[.int .i64 b.level, .int .u64 b.cats])] [(⟨sb, so + 1 * 2, none⟩, .int .i64 b.level), (⟨sb, so + 1 * 2 + 1, none⟩, .int .u64 b.cats)] rfl (fun _ d _ _ _ h => by cases d <;> exact h) (fun _ h => by first | exact h | exact h.tail | exact h.tail.tail | exact h.tail.tail.tail | exact h.tail.tail.tail.tail) (hasC (hk.cell rfl (i := 1) rfl (j := 0) rfl) (hasC (hk.cell rfl (i := 1) rfl (j := 1) rfl) has0)) (fun _ => by kernel_rfl) ?_
            refine oneR 14 2 [true, true, true, true, true, true, true, true, true, true, true, true, true, true, true, false, false] rfl rfl (by kernel_rfl) (callS 56 [.agg #[.int .i64 a.level, .int .u64 a.cats], .agg #[.int .i64 b.level, .int .u64 b.cats]] (some 20) (fun _ => .bool (labLeq a b)) (fun (_ : Unit) => (H)) (fun _ => by kernel_rfl) (labLeq_walk _ a b)) (fun _ _ h _ => by first | exact h | exact h.tail | exact h.tail.tail | exact h.tail.tail.tail | exact h.tail.tail.tail.tail) (fun _ => ?_)
            refine takesR [15, 16] [0, 22] 0 [true, true, true, true, true, true, true, true, true, true, true, true, true, true, true, true, true] [(0, .slice (some ⟨sb, so, none⟩) ((a :: (b :: r)).length) c), (22, .bool (!(labLeq a b)))] [] rfl (fun _ d _ _ _ h => by cases d <;> exact h) (fun _ h => by first | exact h | exact h.tail | exact h.tail.tail | exact h.tail.tail.tail | exact h.tail.tail.tail.tail) has0 (fun _ => by kernel_rfl) ?_
            refine drawnR (by kernel_rfl) ?_
            refine condR (b := !(labLeq a b)) (by kernel_rfl) (fun _ => by kernel_rfl) (fun h => ?_) (fun h => ?_)
            · skip
              refine seqR (by kernel_rfl) ?_
              refine regionR 1 (by kernel_rfl) (by kernel_rfl) ?_
              refine (run0 (z := 0) 1 [0, 2] [(0, .slice (some ⟨sb, so, none⟩) ((a :: (b :: r)).length) c), (2, .bool false)] (fun _ => by kernel_rfl) (endR ?_) : RT _ _ _ _ _ _ 1 _)
              refine retR (by kernel_rfl) ?_
              refine thenV ?_
              refine jumpV ?_
              refine done0 (.bool false) (fun _ => by kernel_rfl) (fun w hs => ?_) .ret (.inr rfl)
              rw [← hm]; exact ⟨(), by simp only [chainOk, he, h]; rfl, hs⟩
            · skip
              refine skipR (by kernel_rfl) ?_
              refine seqR (by kernel_rfl) ?_
              refine regionR 3 (by kernel_rfl) (by kernel_rfl) ?_
              refine (run0 (z := 2) 1 [0, 23] [(0, .slice (some ⟨sb, so, none⟩) ((a :: (b :: r)).length) c), (23, .slice (some ⟨sb, so, none⟩) ((a :: (b :: r)).length) c)] (fun _ => by kernel_rfl) ?_ : RT _ _ _ _ _ _ 3 _)
              refine (stepR (z := 1) (cutS 67 (.tmp 23) (.const (.int .i64 1)) (some ⟨sb, so, none⟩) ((a :: (b :: r)).length) c 1 2 44 1 .i64 (some 24) (fun _ => by kernel_rfl) (by kernel_rfl) (by kernel_rfl) (fun _ => by kernel_rfl) (fun _ => by kernel_rfl) Try.underlying67 (by kernel_rfl) (by first | rfl | assumption | simp) (by simp)) (fun _ => ?_) : RT _ _ _ _ _ _ 2 _)
              have hk' : KR H labE ⟨cutA (some ⟨sb, so, none⟩) c 1 2, c - 1, b :: r⟩ := hk.tail
              obtain ⟨A', hA'⟩ : ∃ A', A' = cutA (some ⟨sb, so, none⟩) c 1 2 := ⟨_, rfl⟩
              rw [← hA'] at hk' ⊢
              refine (run0 (z := 0) 1 [0] [(0, .slice A' (((a :: (b :: r)).length) - 1) (c - 1))] (fun _ => by kernel_rfl) (endR ?_) : RT _ _ _ _ _ _ 1 _)
              refine gotoR 0 (by kernel_rfl) (by kernel_rfl) ?_
              refine PT.keep (L' := [(0, .slice A' (((a :: (b :: r)).length) - 1) (c - 1))]) [0] rfl ?_
              exact jumpR (hK (b :: r).length ⟨A', c - 1, b :: r⟩ (by simp) ⟨rfl, hk', by simp at hc ⊢; omega, by rw [← hm]; simp only [chainOk, he, h]; rfl⟩)
  · skip
    intro K hK
    refine seqR (by kernel_rfl) ?_
    refine labelR (by kernel_rfl) ?_
    refine PT.keep (L' := [(0, .slice s.a s.l.length s.c)]) [0] rfl ?_
    refine codeR (by kernel_rfl) (hK s.l.length s ⟨rfl, hk, hc, rfl⟩)
end Go.Proofs.Ytjjbnmlhbbnhcaa
