/- tontinehelp.Base: its walk. Conditions: none. -/
import Derived.Test.YtjjbnmlhbbnhcaaCf5
set_option linter.unusedVariables false
set_option linter.unusedSimpArgs false
namespace Go.Proofs.Ytjjbnmlhbbnhcaa
open Go.RowKit G
/-- A block shows what is laid in it. -/
theorem blkKR {α : Type} {E : Enc α} {H : List SP} (i : Nat) {b : Nat} {T : TypeId} {cs : List Value} (xs : List α) (hi : H[i]? = some (blk b T cs)) (hc : cs = E.flat xs) (hl : xs.length ≤ maxLen) : KR H E ⟨some ⟨b, 0, none⟩, xs.length, xs⟩ := by
  intro w hs
  subst hc
  refine ⟨some ⟨b, 0, none⟩, xs.length, rfl, Nat.le_refl _, hl, (fun h => by cases h), ?_⟩
  intro a ha j u hu
  cases ha
  rw [Addr.add_lit, Nat.zero_add]
  exact blkAt i hi hu w hs
theorem nilKR {α : Type} {E : Enc α} {H : List SP} : KR H E ⟨none, 0, []⟩ := by
  intro w hs
  exact ⟨none, 0, rfl, Nat.le_refl _, Nat.zero_le _, fun _ => ⟨rfl, rfl⟩, fun a ha => by cases ha⟩
def baseC (b2 b3 b4 b5 b6 b7 b8 b9 b10 b11 b12 b13 b14 : Nat) : ConfV := ⟨8, 2, ⟨some ⟨b4, 0, none⟩, 2, [⟨some ⟨b2, 0, none⟩, 4, [2, 2, 2, 2]⟩, ⟨some ⟨b3, 0, none⟩, 4, [5, 1, 1, 1]⟩]⟩, ⟨some ⟨b14, 0, none⟩, 4, [
  ⟨⟨0, 0⟩, ⟨some ⟨b7, 0, none⟩, 2, [⟨some ⟨b5, 0, none⟩, 2, [1, 3]⟩, ⟨some ⟨b6, 0, none⟩, 2, [2, 3]⟩]⟩, ⟨none, 0, []⟩, -1, 4, 2, 4, 3, 2⟩,
  ⟨⟨1, 1⟩, ⟨some ⟨b9, 0, none⟩, 1, [⟨some ⟨b8, 0, none⟩, 1, [3]⟩]⟩, ⟨some ⟨b10, 0, none⟩, 2, [0, 1]⟩, 0, 4, 2, 4, 3, 2⟩,
  ⟨⟨1, 2⟩, ⟨some ⟨b12, 0, none⟩, 1, [⟨some ⟨b11, 0, none⟩, 1, [3]⟩]⟩, ⟨none, 0, []⟩, -1, 4, 2, 4, 3, 2⟩,
  ⟨⟨2, 3⟩, ⟨none, 0, []⟩, ⟨some ⟨b13, 0, none⟩, 3, [0, 1, 2]⟩, 1, 4, 2, 4, 3, 2⟩]⟩⟩
def baseH (b2 b3 b4 b5 b6 b7 b8 b9 b10 b11 b12 b13 b14 : Nat) (H : List SP) : List SP := blk b14 46 [.int .i64 0, .int .u64 0, .slice (some ⟨b7, 0, none⟩) 2 2, .slice none 0 0, .int .i64 (-1), .int .i64 4, .int .i64 2, .int .i64 4, .int .i64 3, .int .i64 2, .int .i64 1, .int .u64 1, .slice (some ⟨b9, 0, none⟩) 1 1, .slice (some ⟨b10, 0, none⟩) 2 2, .int .i64 0, .int .i64 4, .int .i64 2, .int .i64 4, .int .i64 3, .int .i64 2, .int .i64 1, .int .u64 2, .slice (some ⟨b12, 0, none⟩) 1 1, .slice none 0 0, .int .i64 (-1), .int .i64 4, .int .i64 2, .int .i64 4, .int .i64 3, .int .i64 2, .int .i64 2, .int .u64 3, .slice none 0 0, .slice (some ⟨b13, 0, none⟩) 3 3, .int .i64 1, .int .i64 4, .int .i64 2, .int .i64 4, .int .i64 3, .int .i64 2] :: blk b13 3 [.int .i64 0, .int .i64 1, .int .i64 2] :: blk b12 26 [.slice (some ⟨b11, 0, none⟩) 1 1] :: blk b11 3 [.int .i64 3] :: blk b10 3 [.int .i64 0, .int .i64 1] :: blk b9 26 [.slice (some ⟨b8, 0, none⟩) 1 1] :: blk b8 3 [.int .i64 3] :: blk b7 26 [.slice (some ⟨b5, 0, none⟩) 2 2, .slice (some ⟨b6, 0, none⟩) 2 2] :: blk b6 3 [.int .i64 2, .int .i64 3] :: blk b5 3 [.int .i64 1, .int .i64 3] :: blk b4 26 [.slice (some ⟨b2, 0, none⟩) 4 4, .slice (some ⟨b3, 0, none⟩) 4 4] :: blk b3 3 [.int .i64 5, .int .i64 1, .int .i64 1, .int .i64 1] :: blk b2 3 [.int .i64 2, .int .i64 2, .int .i64 2, .int .i64 2] :: H
theorem base_KC (b2 b3 b4 b5 b6 b7 b8 b9 b10 b11 b12 b13 b14 : Nat) (H : List SP) : KC (baseH b2 b3 b4 b5 b6 b7 b8 b9 b10 b11 b12 b13 b14 H) (baseC b2 b3 b4 b5 b6 b7 b8 b9 b10 b11 b12 b13 b14) := by
  refine ⟨blkKR 10 _ rfl rfl (by simp [baseC, maxLen]), ?_, blkKR 0 _ rfl rfl (by simp [baseC, maxLen]), ?_, ?_, ?_⟩
  · intro p hp
    simp only [baseC, List.mem_cons, List.not_mem_nil, or_false] at hp
    rcases hp with rfl | rfl
    · exact blkKR 12 _ rfl rfl (by simp [baseC, maxLen])
    · exact blkKR 11 _ rfl rfl (by simp [baseC, maxLen])
  · intro d hd
    simp only [baseC, List.mem_cons, List.not_mem_nil, or_false] at hd
    rcases hd with rfl | rfl | rfl | rfl
    · exact blkKR 7 _ rfl rfl (by simp [baseC, maxLen])
    · exact blkKR 5 _ rfl rfl (by simp [baseC, maxLen])
    · exact blkKR 2 _ rfl rfl (by simp [baseC, maxLen])
    · exact nilKR
  · intro d hd r hr
    simp only [baseC, List.mem_cons, List.not_mem_nil, or_false] at hd
    rcases hd with rfl | rfl | rfl | rfl <;> simp only [List.mem_cons, List.not_mem_nil, or_false] at hr
    · rcases hr with rfl | rfl
      · exact blkKR 9 _ rfl rfl (by simp [baseC, maxLen])
      · exact blkKR 8 _ rfl rfl (by simp [baseC, maxLen])
    · subst hr; exact blkKR 6 _ rfl rfl (by simp [baseC, maxLen])
    · subst hr; exact blkKR 3 _ rfl rfl (by simp [baseC, maxLen])
  · intro d hd
    simp only [baseC, List.mem_cons, List.not_mem_nil, or_false] at hd
    rcases hd with rfl | rfl | rfl | rfl
    · exact nilKR
    · exact blkKR 4 _ rfl rfl (by simp [baseC, maxLen])
    · exact nilKR
    · exact blkKR 1 _ rfl rfl (by simp [baseC, maxLen])
theorem base_small (b2 b3 b4 b5 b6 b7 b8 b9 b10 b11 b12 b13 b14 : Nat) : SmallC (baseC b2 b3 b4 b5 b6 b7 b8 b9 b10 b11 b12 b13 b14) := by
  refine ⟨by simp [baseC], by simp [baseC], ?_, ?_, ?_, ?_⟩
  · intro p hp
    simp only [baseC, List.mem_cons, List.not_mem_nil, or_false] at hp
    rcases hp with rfl | rfl <;> simp
  · intro d hd
    simp only [baseC, List.mem_cons, List.not_mem_nil, or_false] at hd
    rcases hd with rfl | rfl | rfl | rfl <;> simp
  · intro d hd
    simp only [baseC, List.mem_cons, List.not_mem_nil, or_false] at hd
    rcases hd with rfl | rfl | rfl | rfl <;> simp
  · intro d hd r hr
    simp only [baseC, List.mem_cons, List.not_mem_nil, or_false] at hd
    rcases hd with rfl | rfl | rfl | rfl <;> simp only [List.mem_cons, List.not_mem_nil, or_false] at hr
    · rcases hr with rfl | rfl <;> simp
    · subst hr; simp
    · subst hr; simp
theorem base_ok (b2 b3 b4 b5 b6 b7 b8 b9 b10 b11 b12 b13 b14 : Nat) : confErr (baseC b2 b3 b4 b5 b6 b7 b8 b9 b10 b11 b12 b13 b14) = 0 := by kernel_rfl
set_option maxRecDepth 100000 in
theorem base_walk (H : List SP) : ∀ w, Sat w H → Calls Try.prog 20 #[] w (Ret (ι := {p : ConfV × List SP // (∀ w, Sat w p.2 → Sat w H) ∧ KC p.2 p.1 ∧ SmallC p.1 ∧ p.1.frame = 8 ∧ p.1.epoch = 2 ∧ p.1.plans.l.map SV.l = [[2, 2, 2, 2], [5, 1, 1, 1]] ∧ confErr p.1 = 0}) (fun p => p.1.1.v) fun p => p.1.2) := by
  refine enterG (fn := Try.f20) 23 [] Try.func20 (by kernel_rfl) (by kernel_rfl) (by kernel_rfl) ?_
  refine seqR (by kernel_rfl) ?_
  refine regionR 1 (by kernel_rfl) (by kernel_rfl) ?_
  refine (stepR (z := 0) (newS 25 [.int .i64 0, .int .i64 0, .slice none 0 0, .slice none 0 0] (some 0) (fun b => .pointer (some ⟨b, 0, none⟩)) (fun _ _ => by kernel_rfl)) (fun b1 => ?_) : RT _ _ _ _ _ _ 1 _)
  refine endR ?_
  refine seqR (by kernel_rfl) ?_
  refine regionR 23 (by kernel_rfl) (by kernel_rfl) ?_
  refine (stepR (z := 22) (newS 3 [.int .i64 2, .int .i64 2, .int .i64 2, .int .i64 2] (some 1) (fun b => .slice (some ⟨b, 0, none⟩) 4 4) (fun _ _ => by kernel_rfl)) (fun b2 => ?_) : RT _ _ _ _ _ _ 23 _)
  refine (stepR (z := 21) (newS 3 [.int .i64 5, .int .i64 1, .int .i64 1, .int .i64 1] (some 2) (fun b => .slice (some ⟨b, 0, none⟩) 4 4) (fun _ _ => by kernel_rfl)) (fun b3 => ?_) : RT _ _ _ _ _ _ 22 _)
  refine (stepR (z := 20) (newS 26 [.slice (some ⟨b2, 0, none⟩) 4 4, .slice (some ⟨b3, 0, none⟩) 4 4] (some 3) (fun b => .slice (some ⟨b, 0, none⟩) 2 2) (fun _ _ => by kernel_rfl)) (fun b4 => ?_) : RT _ _ _ _ _ _ 21 _)
  refine (run0 (z := 19) 1 [3, 0, 4] [(3, .slice (some ⟨b4, 0, none⟩) 2 2), (0, .pointer (some ⟨b1, 0, none⟩)), (4, .agg #[.int .i64 0, .int .u64 0])] (fun _ => by kernel_rfl) ?_ : RT _ _ _ _ _ _ 20 _)
  refine (stepR (z := 18) (newS 3 [.int .i64 1, .int .i64 3] (some 5) (fun b => .slice (some ⟨b, 0, none⟩) 2 2) (fun _ _ => by kernel_rfl)) (fun b5 => ?_) : RT _ _ _ _ _ _ 19 _)
  refine (stepR (z := 17) (newS 3 [.int .i64 2, .int .i64 3] (some 6) (fun b => .slice (some ⟨b, 0, none⟩) 2 2) (fun _ _ => by kernel_rfl)) (fun b6 => ?_) : RT _ _ _ _ _ _ 18 _)
  refine (stepR (z := 16) (newS 26 [.slice (some ⟨b5, 0, none⟩) 2 2, .slice (some ⟨b6, 0, none⟩) 2 2] (some 7) (fun b => .slice (some ⟨b, 0, none⟩) 2 2) (fun _ _ => by kernel_rfl)) (fun b7 => ?_) : RT _ _ _ _ _ _ 17 _)
  refine (run0 (z := 14) 2 [3, 0, 8, 9] [(3, .slice (some ⟨b4, 0, none⟩) 2 2), (0, .pointer (some ⟨b1, 0, none⟩)), (8, .agg #[.int .i64 0, .int .u64 0, .slice (some ⟨b7, 0, none⟩) 2 2, .slice none 0 0, .int .i64 (-1), .int .i64 4, .int .i64 2, .int .i64 4, .int .i64 3, .int .i64 2]), (9, .agg #[.int .i64 1, .int .u64 1])] (fun _ => by kernel_rfl) ?_ : RT _ _ _ _ _ _ 16 _)
  refine (stepR (z := 13) (newS 3 [.int .i64 3] (some 10) (fun b => .slice (some ⟨b, 0, none⟩) 1 1) (fun _ _ => by kernel_rfl)) (fun b8 => ?_) : RT _ _ _ _ _ _ 14 _)
  refine (stepR (z := 12) (newS 26 [.slice (some ⟨b8, 0, none⟩) 1 1] (some 11) (fun b => .slice (some ⟨b, 0, none⟩) 1 1) (fun _ _ => by kernel_rfl)) (fun b9 => ?_) : RT _ _ _ _ _ _ 13 _)
  refine (stepR (z := 11) (newS 3 [.int .i64 0, .int .i64 1] (some 12) (fun b => .slice (some ⟨b, 0, none⟩) 2 2) (fun _ _ => by kernel_rfl)) (fun b10 => ?_) : RT _ _ _ _ _ _ 12 _)
  refine (run0 (z := 9) 2 [3, 0, 8, 13, 14] [(3, .slice (some ⟨b4, 0, none⟩) 2 2), (0, .pointer (some ⟨b1, 0, none⟩)), (8, .agg #[.int .i64 0, .int .u64 0, .slice (some ⟨b7, 0, none⟩) 2 2, .slice none 0 0, .int .i64 (-1), .int .i64 4, .int .i64 2, .int .i64 4, .int .i64 3, .int .i64 2]), (13, .agg #[.int .i64 1, .int .u64 1, .slice (some ⟨b9, 0, none⟩) 1 1, .slice (some ⟨b10, 0, none⟩) 2 2, .int .i64 0, .int .i64 4, .int .i64 2, .int .i64 4, .int .i64 3, .int .i64 2]), (14, .agg #[.int .i64 1, .int .u64 2])] (fun _ => by kernel_rfl) ?_ : RT _ _ _ _ _ _ 11 _)
  refine (stepR (z := 8) (newS 3 [.int .i64 3] (some 15) (fun b => .slice (some ⟨b, 0, none⟩) 1 1) (fun _ _ => by kernel_rfl)) (fun b11 => ?_) : RT _ _ _ _ _ _ 9 _)
  refine (stepR (z := 7) (newS 26 [.slice (some ⟨b11, 0, none⟩) 1 1] (some 16) (fun b => .slice (some ⟨b, 0, none⟩) 1 1) (fun _ _ => by kernel_rfl)) (fun b12 => ?_) : RT _ _ _ _ _ _ 8 _)
  refine (run0 (z := 5) 2 [3, 0, 8, 13, 17, 18] [(3, .slice (some ⟨b4, 0, none⟩) 2 2), (0, .pointer (some ⟨b1, 0, none⟩)), (8, .agg #[.int .i64 0, .int .u64 0, .slice (some ⟨b7, 0, none⟩) 2 2, .slice none 0 0, .int .i64 (-1), .int .i64 4, .int .i64 2, .int .i64 4, .int .i64 3, .int .i64 2]), (13, .agg #[.int .i64 1, .int .u64 1, .slice (some ⟨b9, 0, none⟩) 1 1, .slice (some ⟨b10, 0, none⟩) 2 2, .int .i64 0, .int .i64 4, .int .i64 2, .int .i64 4, .int .i64 3, .int .i64 2]), (17, .agg #[.int .i64 1, .int .u64 2, .slice (some ⟨b12, 0, none⟩) 1 1, .slice none 0 0, .int .i64 (-1), .int .i64 4, .int .i64 2, .int .i64 4, .int .i64 3, .int .i64 2]), (18, .agg #[.int .i64 2, .int .u64 3])] (fun _ => by kernel_rfl) ?_ : RT _ _ _ _ _ _ 7 _)
  refine (stepR (z := 4) (newS 3 [.int .i64 0, .int .i64 1, .int .i64 2] (some 19) (fun b => .slice (some ⟨b, 0, none⟩) 3 3) (fun _ _ => by kernel_rfl)) (fun b13 => ?_) : RT _ _ _ _ _ _ 5 _)
  refine (run0 (z := 3) 1 [3, 0, 8, 13, 17, 20] [(3, .slice (some ⟨b4, 0, none⟩) 2 2), (0, .pointer (some ⟨b1, 0, none⟩)), (8, .agg #[.int .i64 0, .int .u64 0, .slice (some ⟨b7, 0, none⟩) 2 2, .slice none 0 0, .int .i64 (-1), .int .i64 4, .int .i64 2, .int .i64 4, .int .i64 3, .int .i64 2]), (13, .agg #[.int .i64 1, .int .u64 1, .slice (some ⟨b9, 0, none⟩) 1 1, .slice (some ⟨b10, 0, none⟩) 2 2, .int .i64 0, .int .i64 4, .int .i64 2, .int .i64 4, .int .i64 3, .int .i64 2]), (17, .agg #[.int .i64 1, .int .u64 2, .slice (some ⟨b12, 0, none⟩) 1 1, .slice none 0 0, .int .i64 (-1), .int .i64 4, .int .i64 2, .int .i64 4, .int .i64 3, .int .i64 2]), (20, .agg #[.int .i64 2, .int .u64 3, .slice none 0 0, .slice (some ⟨b13, 0, none⟩) 3 3, .int .i64 1, .int .i64 4, .int .i64 2, .int .i64 4, .int .i64 3, .int .i64 2])] (fun _ => by kernel_rfl) ?_ : RT _ _ _ _ _ _ 4 _)
  refine (stepR (z := 2) (newS 46 [.int .i64 0, .int .u64 0, .slice (some ⟨b7, 0, none⟩) 2 2, .slice none 0 0, .int .i64 (-1), .int .i64 4, .int .i64 2, .int .i64 4, .int .i64 3, .int .i64 2, .int .i64 1, .int .u64 1, .slice (some ⟨b9, 0, none⟩) 1 1, .slice (some ⟨b10, 0, none⟩) 2 2, .int .i64 0, .int .i64 4, .int .i64 2, .int .i64 4, .int .i64 3, .int .i64 2, .int .i64 1, .int .u64 2, .slice (some ⟨b12, 0, none⟩) 1 1, .slice none 0 0, .int .i64 (-1), .int .i64 4, .int .i64 2, .int .i64 4, .int .i64 3, .int .i64 2, .int .i64 2, .int .u64 3, .slice none 0 0, .slice (some ⟨b13, 0, none⟩) 3 3, .int .i64 1, .int .i64 4, .int .i64 2, .int .i64 4, .int .i64 3, .int .i64 2] (some 21) (fun b => .slice (some ⟨b, 0, none⟩) 4 4) (fun _ _ => by kernel_rfl)) (fun b14 => ?_) : RT _ _ _ _ _ _ 3 _)
  refine (run0 (z := 1) 1 [0, 22] [(0, .pointer (some ⟨b1, 0, none⟩)), (22, .agg #[.int .i64 8, .int .i64 2, .slice (some ⟨b4, 0, none⟩) 2 2, .slice (some ⟨b14, 0, none⟩) 4 4])] (fun _ => by kernel_rfl) ?_ : RT _ _ _ _ _ _ 2 _)
  refine RT.pick 13 rfl ?_
  refine (stepR (z := 0) (storeS [(0, .int .i64 8), (1, .int .i64 2), (2, .slice (some ⟨b4, 0, none⟩) 2 2), (3, .slice (some ⟨b14, 0, none⟩) 4 4)] [.int .i64 8, .int .i64 2, .slice (some ⟨b4, 0, none⟩) 2 2, .slice (some ⟨b14, 0, none⟩) 4 4] (fun _ => by kernel_rfl) (by kernel_rfl) (by kernel_rfl)) (fun _ => ?_) : RT _ _ _ _ _ _ 1 _)
  refine endR ?_
  refine retR (by kernel_rfl) ?_
  refine doneG (.agg #[.int .i64 8, .int .i64 2, .slice (some ⟨b4, 0, none⟩) 2 2, .slice (some ⟨b14, 0, none⟩) 4 4]) [(⟨b1, 0, none⟩, .int .i64 8), (⟨b1, 1, none⟩, .int .i64 2), (⟨b1, 2, none⟩, .slice (some ⟨b4, 0, none⟩) 2 2), (⟨b1, 3, none⟩, .slice (some ⟨b14, 0, none⟩) 4 4)] (hasC (blkAt (T := 25) (cs := [.int .i64 8, .int .i64 2, .slice (some ⟨b4, 0, none⟩) 2 2, .slice (some ⟨b14, 0, none⟩) 4 4]) 0 rfl rfl) (hasC (blkAt (T := 25) (cs := [.int .i64 8, .int .i64 2, .slice (some ⟨b4, 0, none⟩) 2 2, .slice (some ⟨b14, 0, none⟩) 4 4]) 0 rfl rfl) (hasC (blkAt (T := 25) (cs := [.int .i64 8, .int .i64 2, .slice (some ⟨b4, 0, none⟩) 2 2, .slice (some ⟨b14, 0, none⟩) 4 4]) 0 rfl rfl) (hasC (blkAt (T := 25) (cs := [.int .i64 8, .int .i64 2, .slice (some ⟨b4, 0, none⟩) 2 2, .slice (some ⟨b14, 0, none⟩) 4 4]) 0 rfl rfl) has0)))) (fun _ => by kernel_rfl) (fun w hs => ?_) .ret (.inr rfl)
  exact ⟨⟨(baseC b2 b3 b4 b5 b6 b7 b8 b9 b10 b11 b12 b13 b14, baseH b2 b3 b4 b5 b6 b7 b8 b9 b10 b11 b12 b13 b14 H), fun w h => h.tail.tail.tail.tail.tail.tail.tail.tail.tail.tail.tail.tail.tail, base_KC b2 b3 b4 b5 b6 b7 b8 b9 b10 b11 b12 b13 b14 H, base_small b2 b3 b4 b5 b6 b7 b8 b9 b10 b11 b12 b13 b14, rfl, rfl, rfl, base_ok b2 b3 b4 b5 b6 b7 b8 b9 b10 b11 b12 b13 b14⟩, rfl, hs.tail⟩
end Go.Proofs.Ytjjbnmlhbbnhcaa
