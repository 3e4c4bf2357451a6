/- tontineref1: within, IsLabel, Leq, Chain, shares: their walks. Conditions: none. -/
import Derived.Test.YtjjbnmlhbbnhcaaCf3
set_option linter.unusedVariables false
set_option linter.unusedSimpArgs false
namespace Go.Proofs.Ytjjbnmlhbbnhcaa
open Go.RowKit G
set_option maxRecDepth 100000 in
theorem rwithin_walk (H : List SP) (x a b : Int) : ∀ w, Sat w H → Calls Try.prog 27 #[.int .i64 x, .int .i64 a, .int .i64 b] w (Ret (ι := Unit) (fun _ => .bool (inb x a b)) fun _ => H) := by
  refine enterG (fn := Try.f27) 15 [.int .i64 x, .int .i64 a, .int .i64 b] Try.func27 (by kernel_rfl) (by kernel_rfl) (by kernel_rfl) ?_
  refine seqR (by kernel_rfl) ?_
  refine regionR 1 (by kernel_rfl) (by kernel_rfl) ?_
  refine (run0 (z := 0) 1 [0, 1, 2, 6] [(0, .int .i64 x), (1, .int .i64 a), (2, .int .i64 b), (6, .bool false)] (fun _ => by kernel_rfl) (endR ?_) : RT _ _ _ _ _ _ 1 _)
  refine seqR (by kernel_rfl) ?_
  refine regionR 9 (by kernel_rfl) (by kernel_rfl) ?_
  refine (run0 (z := 5) 4 [0, 2, 6, 10] [(0, .int .i64 x), (2, .int .i64 b), (6, .bool false), (10, .bool (decide (x ≥ a)))] (fun _ => by kernel_rfl) ?_ : RT _ _ _ _ _ _ 9 _)
  refine (segR (ι := Unit) (z := 1) 4 (fun _ => [(6, .bool false), (14, .bool ((decide (x ≥ a)) && (decide (x ≤ b))))]) (fun _ => (H)) ?_ (fun _ => ?_) : RT _ _ _ _ _ _ 5 _)
  · cases hg4 : (decide (x ≥ a)) with
    | true =>
      refine (run0 (z := 0) 4 [6, 14] [(6, .bool false), (14, .bool (decide (x ≤ b)))] (fun _ => by kernel_rfl) (endR ?_) : RT _ _ _ _ _ _ 4 _)
      refine PT.keep (L' := [(6, .bool false), (14, .bool (true && (decide (x ≤ b))))]) [6, 14] rfl ?_
      exact midR () rfl rfl
    | false =>
      refine (run0 (z := 0) 4 [6, 14] [(6, .bool false), (14, .bool false)] (fun _ => by kernel_rfl) (endR ?_) : RT _ _ _ _ _ _ 4 _)
      refine PT.keep (L' := [(6, .bool false), (14, .bool (false && (decide (x ≤ b))))]) [6, 14] rfl ?_
      exact midR () rfl rfl
  refine (run0 (z := 0) 1 [6] [(6, .bool ((decide (x ≥ a)) && (decide (x ≤ b))))] (fun _ => by kernel_rfl) (endR ?_) : RT _ _ _ _ _ _ 1 _)
  refine retR (by kernel_rfl) ?_
  refine done0 (.bool ((decide (x ≥ a)) && (decide (x ≤ b)))) (fun _ => by kernel_rfl) (fun w hs => ?_) .ret (.inr rfl)
  exact ⟨(), rfl, hs⟩
set_option maxRecDepth 100000 in
theorem rlabIs_walk (H : List SP) (l : LabV) : ∀ w, Sat w H → Calls Try.prog 28 #[.agg #[.int .i64 l.level, .int .u64 l.cats]] w (Ret (ι := Unit) (fun _ => .bool (labIs l)) fun _ => H) := by
  refine enterG (fn := Try.f28) 11 [.agg #[.int .i64 l.level, .int .u64 l.cats]] Try.func28 (by kernel_rfl) (by kernel_rfl) (by kernel_rfl) ?_
  refine seqR (by kernel_rfl) ?_
  refine regionR 2 (by kernel_rfl) (by kernel_rfl) ?_
  refine (stepR (z := 1) (newS 44 [.int .i64 l.level, .int .u64 l.cats] (some 1) (fun b => .pointer (some ⟨b, 0, none⟩)) (fun _ _ => by kernel_rfl)) (fun b1 => ?_) : RT _ _ _ _ _ _ 2 _)
  refine (run0 (z := 0) 1 [1, 2] [(1, .pointer (some ⟨b1, 0, none⟩)), (2, .bool false)] (fun _ => by kernel_rfl) (endR ?_) : RT _ _ _ _ _ _ 1 _)
  refine seqR (by kernel_rfl) ?_
  refine regionR 9 (by kernel_rfl) (by kernel_rfl) ?_
  refine (runR (H := (blk b1 44 [.int .i64 l.level, .int .u64 l.cats] :: H)) (z := 5) 4 [1, 2, 6] [(1, .pointer (some ⟨b1, 0, none⟩)), (2, .bool false), (6, .bool (decide (l.level ≥ 0)))] [(⟨b1, 0, none⟩, .int .i64 l.level)] (hasC (blkAt (T := 44) (cs := [.int .i64 l.level, .int .u64 l.cats]) 0 rfl rfl) has0) (fun _ => by kernel_rfl) ?_ : RT _ _ _ _ _ _ 9 _)
  refine (segR (ι := Unit) (z := 1) 4 (fun _ => [(2, .bool false), (10, .bool ((decide (l.level ≥ 0)) && (decide (l.level ≤ 255))))]) (fun _ => (blk b1 44 [.int .i64 l.level, .int .u64 l.cats] :: H)) ?_ (fun _ => ?_) : RT _ _ _ _ _ _ 5 _)
  · cases hg4 : (decide (l.level ≥ 0)) with
    | true =>
      refine (runR (H := (blk b1 44 [.int .i64 l.level, .int .u64 l.cats] :: H)) (z := 0) 4 [2, 10] [(2, .bool false), (10, .bool (decide (l.level ≤ 255)))] [(⟨b1, 0, none⟩, .int .i64 l.level)] (hasC (blkAt (T := 44) (cs := [.int .i64 l.level, .int .u64 l.cats]) 0 rfl rfl) has0) (fun _ => by kernel_rfl) (endR ?_) : RT _ _ _ _ _ _ 4 _)
      refine PT.keep (L' := [(2, .bool false), (10, .bool (true && (decide (l.level ≤ 255))))]) [2, 10] rfl ?_
      exact midR () rfl rfl
    | false =>
      refine (run0 (z := 0) 4 [2, 10] [(2, .bool false), (10, .bool false)] (fun _ => by kernel_rfl) (endR ?_) : RT _ _ _ _ _ _ 4 _)
      refine PT.keep (L' := [(2, .bool false), (10, .bool (false && (decide (l.level ≤ 255))))]) [2, 10] rfl ?_
      exact midR () rfl rfl
  refine (run0 (z := 0) 1 [2] [(2, .bool ((decide (l.level ≥ 0)) && (decide (l.level ≤ 255))))] (fun _ => by kernel_rfl) (endR ?_) : RT _ _ _ _ _ _ 1 _)
  refine retR (by kernel_rfl) ?_
  refine done0 (.bool ((decide (l.level ≥ 0)) && (decide (l.level ≤ 255)))) (fun _ => by kernel_rfl) (fun w hs => ?_) .ret (.inr rfl)
  exact ⟨(), rfl, hs.tail⟩
set_option maxRecDepth 100000 in
theorem rlabLeq_walk (H : List SP) (a b : LabV) : ∀ w, Sat w H → Calls Try.prog 45 #[.agg #[.int .i64 a.level, .int .u64 a.cats], .agg #[.int .i64 b.level, .int .u64 b.cats]] w (Ret (ι := Unit) (fun _ => .bool (labLeq a b)) fun _ => H) := by
  refine enterG (fn := Try.f45) 18 [.agg #[.int .i64 a.level, .int .u64 a.cats], .agg #[.int .i64 b.level, .int .u64 b.cats]] Try.func45 (by kernel_rfl) (by kernel_rfl) (by kernel_rfl) ?_
  refine seqR (by kernel_rfl) ?_
  refine regionR 3 (by kernel_rfl) (by kernel_rfl) ?_
  refine (stepR (z := 2) (newS 44 [.int .i64 a.level, .int .u64 a.cats] (some 2) (fun b => .pointer (some ⟨b, 0, none⟩)) (fun _ _ => by kernel_rfl)) (fun b1 => ?_) : RT _ _ _ _ _ _ 3 _)
  refine (stepR (z := 1) (newS 44 [.int .i64 b.level, .int .u64 b.cats] (some 3) (fun b => .pointer (some ⟨b, 0, none⟩)) (fun _ _ => by kernel_rfl)) (fun b2 => ?_) : RT _ _ _ _ _ _ 2 _)
  refine (run0 (z := 0) 1 [3, 2, 4] [(3, .pointer (some ⟨b2, 0, none⟩)), (2, .pointer (some ⟨b1, 0, none⟩)), (4, .bool false)] (fun _ => by kernel_rfl) (endR ?_) : RT _ _ _ _ _ _ 1 _)
  refine seqR (by kernel_rfl) ?_
  refine regionR 14 (by kernel_rfl) (by kernel_rfl) ?_
  refine (runR (H := (blk b2 44 [.int .i64 b.level, .int .u64 b.cats] :: blk b1 44 [.int .i64 a.level, .int .u64 a.cats] :: H)) (z := 8) 6 [3, 2, 4, 10] [(3, .pointer (some ⟨b2, 0, none⟩)), (2, .pointer (some ⟨b1, 0, none⟩)), (4, .bool false), (10, .bool (decide (a.level ≤ b.level)))] [(⟨b1, 0, none⟩, .int .i64 a.level), (⟨b2, 0, none⟩, .int .i64 b.level)] (hasC (blkAt (T := 44) (cs := [.int .i64 a.level, .int .u64 a.cats]) 1 rfl rfl) (hasC (blkAt (T := 44) (cs := [.int .i64 b.level, .int .u64 b.cats]) 0 rfl rfl) has0)) (fun _ => by kernel_rfl) ?_ : RT _ _ _ _ _ _ 14 _)
  refine (segR (ι := Unit) (z := 1) 7 (fun _ => [(4, .bool false), (17, .bool ((decide (a.level ≤ b.level)) && ((IntKind.u64.wrap ((BitVec.ofInt 64 a.cats &&& ~~~ BitVec.ofInt 64 b.cats).toNat : Int)) == 0)))]) (fun _ => (blk b2 44 [.int .i64 b.level, .int .u64 b.cats] :: blk b1 44 [.int .i64 a.level, .int .u64 a.cats] :: H)) ?_ (fun _ => ?_) : RT _ _ _ _ _ _ 8 _)
  · cases hg6 : (decide (a.level ≤ b.level)) with
    | true =>
      refine (runR (H := (blk b2 44 [.int .i64 b.level, .int .u64 b.cats] :: blk b1 44 [.int .i64 a.level, .int .u64 a.cats] :: H)) (z := 0) 7 [4, 17] [(4, .bool false), (17, .bool ((IntKind.u64.wrap ((BitVec.ofInt 64 a.cats &&& ~~~ BitVec.ofInt 64 b.cats).toNat : Int)) == 0))] [(⟨b1, 1, none⟩, .int .u64 a.cats), (⟨b2, 1, none⟩, .int .u64 b.cats)] (hasC (blkAt (T := 44) (cs := [.int .i64 a.level, .int .u64 a.cats]) 1 rfl rfl) (hasC (blkAt (T := 44) (cs := [.int .i64 b.level, .int .u64 b.cats]) 0 rfl rfl) has0)) (fun _ => by kernel_rfl) (endR ?_) : RT _ _ _ _ _ _ 7 _)
      refine PT.keep (L' := [(4, .bool false), (17, .bool (true && ((IntKind.u64.wrap ((BitVec.ofInt 64 a.cats &&& ~~~ BitVec.ofInt 64 b.cats).toNat : Int)) == 0)))]) [4, 17] rfl ?_
      exact midR () rfl rfl
    | false =>
      refine (run0 (z := 0) 7 [4, 17] [(4, .bool false), (17, .bool false)] (fun _ => by kernel_rfl) (endR ?_) : RT _ _ _ _ _ _ 7 _)
      refine PT.keep (L' := [(4, .bool false), (17, .bool (false && ((IntKind.u64.wrap ((BitVec.ofInt 64 a.cats &&& ~~~ BitVec.ofInt 64 b.cats).toNat : Int)) == 0)))]) [4, 17] rfl ?_
      exact midR () rfl rfl
  refine (run0 (z := 0) 1 [4] [(4, .bool ((decide (a.level ≤ b.level)) && ((IntKind.u64.wrap ((BitVec.ofInt 64 a.cats &&& ~~~ BitVec.ofInt 64 b.cats).toNat : Int)) == 0)))] (fun _ => by kernel_rfl) (endR ?_) : RT _ _ _ _ _ _ 1 _)
  refine retR (by kernel_rfl) ?_
  refine done0 (.bool ((decide (a.level ≤ b.level)) && ((IntKind.u64.wrap ((BitVec.ofInt 64 a.cats &&& ~~~ BitVec.ofInt 64 b.cats).toNat : Int)) == 0))) (fun _ => by kernel_rfl) (fun w hs => ?_) .ret (.inr rfl)
  exact ⟨(), rfl, hs.tail.tail⟩
theorem chainOk_snoc (a b : LabV) : ∀ p : List LabV, chainOk (p ++ [a, b]) = (chainOk (p ++ [a]) && !(labEq a b || !labLeq a b))
  | [] => by simp [chainOk]
  | [x] => by simp [chainOk, Bool.and_assoc]
  | x :: y :: p => by
    have ih := chainOk_snoc a b (y :: p)
    simp only [List.cons_append, chainOk] at ih ⊢
    rw [ih, Bool.and_assoc]
theorem chainOk_pre (q : List LabV) : ∀ p : List LabV, chainOk p = false → chainOk (p ++ q) = false
  | [], h => by simp [chainOk] at h
  | [x], h => by simp [chainOk] at h
  | x :: y :: p, h => by
    have ih := chainOk_pre q (y :: p)
    simp only [List.cons_append, chainOk, Bool.and_eq_false_iff] at ih h ⊢
    exact h.imp id ih
set_option maxRecDepth 100000 in
theorem rchain_walk (H : List SP) (s : SV LabV) (hk : KR H labE s) (hl : s.l.length < 1000000000) : ∀ w, Sat w H → Calls Try.prog 44 #[.slice s.a s.l.length s.c] w (Ret (ι := Unit) (fun _ => .bool (chainOk s.l)) fun _ => H) := by
  refine enterG (fn := Try.f44) 33 [.slice s.a s.l.length s.c] Try.func44 (by kernel_rfl) (by kernel_rfl) (by kernel_rfl) ?_
  refine seqR (by kernel_rfl) ?_
  refine regionR 1 (by kernel_rfl) (by kernel_rfl) ?_
  refine (run0 (z := 0) 1 [0, 2] [(0, .slice s.a s.l.length s.c), (2, .bool false)] (fun _ => by kernel_rfl) (endR ?_) : RT _ _ _ _ _ _ 1 _)
  refine seqR (by kernel_rfl) ?_
  refine seqR (by kernel_rfl) ?_
  refine regionR 1 (by kernel_rfl) (by kernel_rfl) ?_
  refine (run0 (z := 0) 1 [0, 2, 3] [(0, .slice s.a s.l.length s.c), (2, .bool false), (3, .int .i64 1)] (fun _ => by kernel_rfl) (endR ?_) : RT _ _ _ _ _ _ 1 _)
  refine blockR 0 (by kernel_rfl) (by kernel_rfl) ?_
  refine PT.keep (L' := [(0, .slice s.a s.l.length s.c), (2, .bool false), (3, .int .i64 1)]) [0, 2, 3] rfl ?_
  refine loopG (fun (j : Nat) => [(0, .slice s.a s.l.length s.c), (2, .bool false), (3, .int .i64 ((j + 1 : Nat) : Int))]) (fun (j : Nat) => (H)) (fun k (j : Nat) => k + j = s.l.length ∧ chainOk (s.l.take (j + 1)) = true) s.l.length 0 (by kernel_rfl) ⟨by omega, by cases s.l <;> simp [chainOk]⟩ ?_
  rintro k j ⟨hkj, hch⟩
  have hw : IntKind.i64.wrap (((j + 1 : Nat) : Int) + 1) = ((j + 1 + 1 : Nat) : Int) := by rw [IntKind.wrap_i64]; omega
  have hwj : IntKind.i64.wrap (((j + 1 : Nat) : Int) - 1) = (j : Int) := by rw [IntKind.wrap_i64]; omega
  refine seqR (by kernel_rfl) ?_
  refine seqR (by kernel_rfl) ?_
  refine regionR 4 (by kernel_rfl) (by kernel_rfl) ?_
  refine (run0 (z := 0) 4 [0, 2, 3, 7] [(0, .slice s.a s.l.length s.c), (2, .bool false), (3, .int .i64 ((j + 1 : Nat) : Int)), (7, .bool (decide (((j + 1 : Nat) : Int) < (s.l.length : Int))))] (fun _ => by kernel_rfl) (endR ?_) : RT _ _ _ _ _ _ 4 _)
  refine condR (b := decide (((j + 1 : Nat) : Int) < (s.l.length : Int))) (by kernel_rfl) (fun _ => by kernel_rfl) (fun h => ?_) (fun h => ?_)
  · skip
    have hj : j + 1 < s.l.length := by have := of_decide_eq_true h; omega
    obtain ⟨a, ha⟩ : ∃ a, s.l[j]? = some a := ⟨_, by simp [Nat.lt_of_succ_lt hj]; rfl⟩
    obtain ⟨b, hb⟩ : ∃ b, s.l[j + 1]? = some b := ⟨_, by simp [hj]; rfl⟩
    have ht1 : s.l.take (j + 1) = s.l.take j ++ [a] := by rw [List.take_add_one, ha]; rfl
    have ht2 : s.l.take (j + 1 + 1) = s.l.take j ++ [a, b] := by rw [List.take_add_one, hb, ht1]; simp
    have hsn : chainOk (s.l.take (j + 1 + 1)) = (chainOk (s.l.take (j + 1)) && !(labEq a b || !labLeq a b)) := by rw [ht2, ht1, chainOk_snoc]
    have hbad : (labEq a b || !labLeq a b) = true → chainOk s.l = false := by
      intro hb1
      have h1 : chainOk (s.l.take (j + 1 + 1)) = false := by rw [hsn, hb1]; simp
      have := chainOk_pre (s.l.drop (j + 1 + 1)) _ h1
      rwa [List.take_append_drop] at this
    refine PT.know ((hk).isSome (List.ne_nil_of_length_pos (by omega))) ?_
    rintro ⟨sb, so, hA⟩
    try rw [hA]
    refine skipR (by kernel_rfl) ?_
    refine seqR (by kernel_rfl) ?_
    refine blockR 1 (by kernel_rfl) (by kernel_rfl) ?_
    refine seqR (by kernel_rfl) ?_
    refine drawR (fun w => Sat w (H)) [] 23 (by kernel_rfl) (by kernel_rfl) (by kernel_rfl) (fun _ h => by first | exact h | exact h.tail | exact h.tail.tail | exact h.tail.tail.tail | exact h.tail.tail.tail.tail) ?_
    refine takesR [0, 1, 2, 5, 6] [0, 2, 3, 10, 12, 15, 16] 18 [true, true, true, false, false, true, true, false, false, false, false, false, false, false, false, false, false, false, false, false, false, false, false] [(0, .slice (some ⟨sb, so, none⟩) s.l.length s.c), (2, .bool false), (3, .int .i64 ((j + 1 : Nat) : Int)), (10, .slice (some ⟨sb, so, none⟩) s.l.length s.c), (12, .int .i64 (IntKind.i64.wrap (((j + 1 : Nat) : Int) - 1))), (15, .slice (some ⟨sb, so, none⟩) s.l.length s.c), (16, .int .i64 ((j + 1 : Nat) : Int))] [] rfl (fun _ d _ _ _ h => by cases d <;> exact h) (fun _ h => by first | exact h | exact h.tail | exact h.tail.tail | exact h.tail.tail.tail | exact h.tail.tail.tail.tail) has0 (fun _ => by kernel_rfl) ?_
    refine takeR1 7 17 [true, true, true, false, false, true, true, true, false, false, false, false, false, false, false, false, false, false, false, false, false, false, false] rfl rfl (by kernel_rfl) (fun _ d _ _ _ h => by cases d <;> exact h) (fun _ h => by first | exact h | exact h.tail | exact h.tail.tail | exact h.tail.tail.tail | exact h.tail.tail.tail.tail) (idxY 67 (.tmp 15) (.tmp 16) sb so s.l.length s.c (j + 1) 2 44 ((j + 1 : Nat) : Int) .i64 (some 17) (fun _ => by kernel_rfl) (by kernel_rfl) (by kernel_rfl) (fun _ => by kernel_rfl) (fun _ => by kernel_rfl) Try.underlying67 (by kernel_rfl) (by first | rfl | assumption | simp) (by first | omega | (simp; done) | (simp; omega) | (simp at *; omega))) ?_
    refine takesR [8] [0, 2, 3, 10, 12, 18] 16 [true, true, true, false, false, true, true, true, true, false, false, false, false, false, false, false, false, false, false, false, false, false, false] [(0, .slice (some ⟨sb, so, none⟩) s.l.length s.c), (2, .bool false), (3, .int .i64 ((j + 1 : Nat) : Int)), (10, .slice (some ⟨sb, so, none⟩) s.l.length s.c), (12, .int .i64 (IntKind.i64.wrap (((j + 1 : Nat) : Int) - 1))), (18, .agg #[.int .i64 b.level, .int .u64 b.cats])] [(⟨sb, so + (j + 1) * 2, none⟩, .int .i64 b.level), (⟨sb, so + (j + 1) * 2 + 1, none⟩, .int .u64 b.cats)] rfl (fun _ d _ _ _ h => by cases d <;> exact h) (fun _ h => by first | exact h | exact h.tail | exact h.tail.tail | exact h.tail.tail.tail | exact h.tail.tail.tail.tail) (hasC (hk.cell hA (i := j + 1) (x := b) hb (j := 0) rfl) (hasC (hk.cell hA (i := j + 1) (x := b) hb (j := 1) rfl) has0)) (fun _ => by kernel_rfl) ?_
    refine takeR1 3 15 [true, true, true, true, false, true, true, true, true, false, false, false, false, false, false, false, false, false, false, false, false, false, false] rfl rfl (by kernel_rfl) (fun _ d _ _ _ h => by cases d <;> exact h) (fun _ h => by first | exact h | exact h.tail | exact h.tail.tail | exact h.tail.tail.tail | exact h.tail.tail.tail.tail) (idxY 67 (.tmp 10) (.tmp 12) sb so s.l.length s.c j 2 44 (IntKind.i64.wrap (((j + 1 : Nat) : Int) - 1)) .i64 (some 13) (fun _ => by kernel_rfl) (by kernel_rfl) (by kernel_rfl) (fun _ => by kernel_rfl) (fun _ => by kernel_rfl) Try.underlying67 (by kernel_rfl) (by first | rfl | assumption | simp) (by omega)) ?_
    refine takesR [4] [0, 2, 3, 18, 14] 14 [true, true, true, true, true, true, true, true, true, false, false, false, false, false, false, false, false, false, false, false, false, false, false] [(0, .slice (some ⟨sb, so, none⟩) s.l.length s.c), (2, .bool false), (3, .int .i64 ((j + 1 : Nat) : Int)), (18, .agg #[.int .i64 b.level, .int .u64 b.cats]), (14, .agg #[.int .i64 a.level, .int .u64 a.cats])] [(⟨sb, so + j * 2, none⟩, .int .i64 a.level), (⟨sb, so + j * 2 + 1, none⟩, .int .u64 a.cats)] rfl (fun _ d _ _ _ h => by cases d <;> exact h) (fun _ h => by first | exact h | exact h.tail | exact h.tail.tail | exact h.tail.tail.tail | exact h.tail.tail.tail.tail) (hasC (hk.cell hA (i := j) (x := a) ha (j := 0) rfl) (hasC (hk.cell hA (i := j) (x := a) ha (j := 1) rfl) has0)) (fun _ => by kernel_rfl) ?_
    refine oneR 9 13 [true, true, true, true, true, true, true, true, true, true, false, false, false, false, false, false, false, false, false, false, false, false, false] rfl rfl (by kernel_rfl) (callS 45 [.agg #[.int .i64 a.level, .int .u64 a.cats], .agg #[.int .i64 b.level, .int .u64 b.cats]] (some 19) (fun _ => .bool (labLeq a b)) (fun (_ : Unit) => (H)) (fun _ => by kernel_rfl) (rlabLeq_walk _ a b)) (fun _ _ h _ => by first | exact h | exact h.tail | exact h.tail.tail | exact h.tail.tail.tail | exact h.tail.tail.tail.tail) (fun _ => ?_)
    refine takesR [10, 11] [0, 2, 3, 21] 11 [true, true, true, true, true, true, true, true, true, true, true, true, false, false, false, false, false, false, false, false, false, false, false] [(0, .slice (some ⟨sb, so, none⟩) s.l.length s.c), (2, .bool false), (3, .int .i64 ((j + 1 : Nat) : Int)), (21, .bool (!(labLeq a b)))] [] rfl (fun _ d _ _ _ h => by cases d <;> exact h) (fun _ h => by first | exact h | exact h.tail | exact h.tail.tail | exact h.tail.tail.tail | exact h.tail.tail.tail.tail) has0 (fun _ => by kernel_rfl) ?_
    cases h1 : (labLeq a b) with
    | true =>
      refine takesR [12, 13, 14, 17, 18] [0, 2, 3, 21, 22, 24, 27, 28] 6 [true, true, true, true, true, true, true, true, true, true, true, true, true, true, true, false, false, true, true, false, false, false, false] [(0, .slice (some ⟨sb, so, none⟩) s.l.length s.c), (2, .bool false), (3, .int .i64 ((j + 1 : Nat) : Int)), (21, .bool false), (22, .slice (some ⟨sb, so, none⟩) s.l.length s.c), (24, .int .i64 (IntKind.i64.wrap (((j + 1 : Nat) : Int) - 1))), (27, .slice (some ⟨sb, so, none⟩) s.l.length s.c), (28, .int .i64 ((j + 1 : Nat) : Int))] [] rfl (fun _ d _ _ _ h => by cases d <;> exact h) (fun _ h => by first | exact h | exact h.tail | exact h.tail.tail | exact h.tail.tail.tail | exact h.tail.tail.tail.tail) has0 (fun _ => by kernel_rfl) ?_
      refine takeR1 19 5 [true, true, true, true, true, true, true, true, true, true, true, true, true, true, true, false, false, true, true, true, false, false, false] rfl rfl (by kernel_rfl) (fun _ d _ _ _ h => by cases d <;> exact h) (fun _ h => by first | exact h | exact h.tail | exact h.tail.tail | exact h.tail.tail.tail | exact h.tail.tail.tail.tail) (idxY 67 (.tmp 27) (.tmp 28) sb so s.l.length s.c (j + 1) 2 44 ((j + 1 : Nat) : Int) .i64 (some 29) (fun _ => by kernel_rfl) (by kernel_rfl) (by kernel_rfl) (fun _ => by kernel_rfl) (fun _ => by kernel_rfl) Try.underlying67 (by kernel_rfl) (by first | rfl | assumption | simp) (by first | omega | (simp; done) | (simp; omega) | (simp at *; omega))) ?_
      refine takesR [20] [0, 2, 3, 21, 22, 24, 30] 4 [true, true, true, true, true, true, true, true, true, true, true, true, true, true, true, false, false, true, true, true, true, false, false] [(0, .slice (some ⟨sb, so, none⟩) s.l.length s.c), (2, .bool false), (3, .int .i64 ((j + 1 : Nat) : Int)), (21, .bool false), (22, .slice (some ⟨sb, so, none⟩) s.l.length s.c), (24, .int .i64 (IntKind.i64.wrap (((j + 1 : Nat) : Int) - 1))), (30, .agg #[.int .i64 b.level, .int .u64 b.cats])] [(⟨sb, so + (j + 1) * 2, none⟩, .int .i64 b.level), (⟨sb, so + (j + 1) * 2 + 1, none⟩, .int .u64 b.cats)] rfl (fun _ d _ _ _ h => by cases d <;> exact h) (fun _ h => by first | exact h | exact h.tail | exact h.tail.tail | exact h.tail.tail.tail | exact h.tail.tail.tail.tail) (hasC (hk.cell hA (i := j + 1) (x := b) hb (j := 0) rfl) (hasC (hk.cell hA (i := j + 1) (x := b) hb (j := 1) rfl) has0)) (fun _ => by kernel_rfl) ?_
      refine takeR1 15 3 [true, true, true, true, true, true, true, true, true, true, true, true, true, true, true, true, false, true, true, true, true, false, false] rfl rfl (by kernel_rfl) (fun _ d _ _ _ h => by cases d <;> exact h) (fun _ h => by first | exact h | exact h.tail | exact h.tail.tail | exact h.tail.tail.tail | exact h.tail.tail.tail.tail) (idxY 67 (.tmp 22) (.tmp 24) sb so s.l.length s.c j 2 44 (IntKind.i64.wrap (((j + 1 : Nat) : Int) - 1)) .i64 (some 25) (fun _ => by kernel_rfl) (by kernel_rfl) (by kernel_rfl) (fun _ => by kernel_rfl) (fun _ => by kernel_rfl) Try.underlying67 (by kernel_rfl) (by first | rfl | assumption | simp) (by omega)) ?_
      refine takesR [16] [0, 2, 3, 21, 30, 26] 2 [true, true, true, true, true, true, true, true, true, true, true, true, true, true, true, true, true, true, true, true, true, false, false] [(0, .slice (some ⟨sb, so, none⟩) s.l.length s.c), (2, .bool false), (3, .int .i64 ((j + 1 : Nat) : Int)), (21, .bool false), (30, .agg #[.int .i64 b.level, .int .u64 b.cats]), (26, .agg #[.int .i64 a.level, .int .u64 a.cats])] [(⟨sb, so + j * 2, none⟩, .int .i64 a.level), (⟨sb, so + j * 2 + 1, none⟩, .int .u64 a.cats)] rfl (fun _ d _ _ _ h => by cases d <;> exact h) (fun _ h => by first | exact h | exact h.tail | exact h.tail.tail | exact h.tail.tail.tail | exact h.tail.tail.tail.tail) (hasC (hk.cell hA (i := j) (x := a) ha (j := 0) rfl) (hasC (hk.cell hA (i := j) (x := a) ha (j := 1) rfl) has0)) (fun _ => by kernel_rfl) ?_
      refine takeR1 21 1 [true, true, true, true, true, true, true, true, true, true, true, true, true, true, true, true, true, true, true, true, true, true, false] rfl rfl (by kernel_rfl) (fun _ d _ _ _ h => by cases d <;> exact h) (fun _ h => by first | exact h | exact h.tail | exact h.tail.tail | exact h.tail.tail.tail | exact h.tail.tail.tail.tail) (binY .eql 44 44 (.tmp 26) (.tmp 30) (.agg #[.int .i64 a.level, .int .u64 a.cats]) (.agg #[.int .i64 b.level, .int .u64 b.cats]) (.bool (labEq a b)) (some 31) (fun _ => by kernel_rfl) (by kernel_rfl) (by kernel_rfl) (fun _ => by kernel_rfl) (fun _ => by kernel_rfl) (lab_eql a b _ _)) ?_
      refine takesR [22] [0, 2, 3, 32] 0 [true, true, true, true, true, true, true, true, true, true, true, true, true, true, true, true, true, true, true, true, true, true, true] [(0, .slice (some ⟨sb, so, none⟩) s.l.length s.c), (2, .bool false), (3, .int .i64 ((j + 1 : Nat) : Int)), (32, .bool (labEq a b))] [] rfl (fun _ d _ _ _ h => by cases d <;> exact h) (fun _ h => by first | exact h | exact h.tail | exact h.tail.tail | exact h.tail.tail.tail | exact h.tail.tail.tail.tail) has0 (fun _ => by kernel_rfl) ?_
      refine drawnR (by kernel_rfl) ?_
      cases h2 : (labEq a b) with
      | true =>
        refine condR (b := true) (by kernel_rfl) (fun _ => by kernel_rfl) (fun _ => ?_) (fun h => by cases h)
        refine seqR (by kernel_rfl) ?_
        refine regionR 1 (by kernel_rfl) (by kernel_rfl) ?_
        refine (run0 (z := 0) 1 [0, 2, 3] [(0, .slice (some ⟨sb, so, none⟩) s.l.length s.c), (2, .bool false), (3, .int .i64 ((j + 1 : Nat) : Int))] (fun _ => by kernel_rfl) (endR ?_) : RT _ _ _ _ _ _ 1 _)
        refine retR (by kernel_rfl) ?_
        refine blockV ?_
        refine thenV ?_
        refine thenV ?_
        refine blockV ?_
        refine thenV ?_
        refine done0 (.bool false) (fun _ => by kernel_rfl) (fun w hs => ?_) .ret (.inr rfl)
        exact ⟨(), by rw [hbad (by simp [h2])], hs⟩
      | false =>
        refine condR (b := false) (by kernel_rfl) (fun _ => by kernel_rfl) (fun h => by cases h) (fun _ => ?_)
        refine skipR (by kernel_rfl) ?_
        refine regionR 3 (by kernel_rfl) (by kernel_rfl) ?_
        refine (run0 (z := 0) 3 [0, 2, 3] [(0, .slice (some ⟨sb, so, none⟩) s.l.length s.c), (2, .bool false), (3, .int .i64 (IntKind.i64.wrap (((j + 1 : Nat) : Int) + 1)))] (fun _ => by kernel_rfl) (endR ?_) : RT _ _ _ _ _ _ 3 _)
        rw [← hA]
        refine PT.keep (L' := [(0, .slice s.a s.l.length s.c), (2, .bool false), (3, .int .i64 (IntKind.i64.wrap (((j + 1 : Nat) : Int) + 1)))]) [0, 2, 3] rfl ?_
        exact againG (k - 1) (j + 1) (by rw [hw]) rfl (by omega) ⟨by omega, by rw [hsn, hch, h1, h2]; rfl⟩
    | false =>
      refine takesR [12, 13, 14, 15, 16, 17, 18, 19, 20, 21, 22] [0, 2, 3, 32] 0 [true, true, true, true, true, true, true, true, true, true, true, true, true, true, true, true, true, true, true, true, true, true, true] [(0, .slice (some ⟨sb, so, none⟩) s.l.length s.c), (2, .bool false), (3, .int .i64 ((j + 1 : Nat) : Int)), (32, .bool true)] [] rfl (fun _ d _ _ _ h => by cases d <;> exact h) (fun _ h => by first | exact h | exact h.tail | exact h.tail.tail | exact h.tail.tail.tail | exact h.tail.tail.tail.tail) has0 (fun _ => by kernel_rfl) ?_
      refine drawnR (by kernel_rfl) ?_
      refine condR (b := true) (by kernel_rfl) (fun _ => by kernel_rfl) (fun _ => ?_) (fun h => by cases h)
      refine seqR (by kernel_rfl) ?_
      refine regionR 1 (by kernel_rfl) (by kernel_rfl) ?_
      refine (run0 (z := 0) 1 [0, 2, 3] [(0, .slice (some ⟨sb, so, none⟩) s.l.length s.c), (2, .bool false), (3, .int .i64 ((j + 1 : Nat) : Int))] (fun _ => by kernel_rfl) (endR ?_) : RT _ _ _ _ _ _ 1 _)
      refine retR (by kernel_rfl) ?_
      refine blockV ?_
      refine thenV ?_
      refine thenV ?_
      refine blockV ?_
      refine thenV ?_
      refine done0 (.bool false) (fun _ => by kernel_rfl) (fun w hs => ?_) .ret (.inr rfl)
      exact ⟨(), by rw [hbad (by simp [h1])], hs⟩
  · skip
    have hj : s.l.length ≤ j + 1 := by have := of_decide_eq_false h; omega
    rw [List.take_of_length_le hj] at hch
    refine exitR 0 (by kernel_rfl) (by kernel_rfl) ?_
    refine thenX ?_
    refine thenX ?_
    refine leaveR ?_
    refine seqR (by kernel_rfl) ?_
    refine regionR 1 (by kernel_rfl) (by kernel_rfl) ?_
    refine (run0 (z := 0) 1 [2] [(2, .bool true)] (fun _ => by kernel_rfl) (endR ?_) : RT _ _ _ _ _ _ 1 _)
    refine retR (by kernel_rfl) ?_
    refine done0 (.bool true) (fun _ => by kernel_rfl) (fun w hs => ?_) .ret (.inr rfl)
    exact ⟨(), by rw [hch], hs⟩
def rplanOk (n : Nat) (p : List Int) : Bool := p.all (fun x => inb x 0 1000) && !(((p.length : Int) != (n : Int)) || !(p.any fun x => decide (x > 0)))
def rsharesOk (c : ConfV) : Bool := inb c.plans.l.length 1 3 && c.plans.l.all fun p => rplanOk c.domains.l.length p.l
end Go.Proofs.Ytjjbnmlhbbnhcaa
