/- Texts put together: WorldLetters: its walk. Conditions: none. -/
import Derived.Test.YtfhkgohokbkgiaaGreatDoorMgWb6
set_option linter.unusedVariables false
set_option linter.unusedSimpArgs false
namespace Go.Proofs.YtfhkgohokbkgiaaGreatDoor
open Go.RowKit G
def allN (n : Nat) (f : Nat → Bool) : Bool := (List.range n).all f
theorem allN_at {n : Nat} {f : Nat → Bool} (h : allN n f = true) {i : Nat} (hi : i < n) : f i = true := List.all_eq_true.1 h i (List.mem_range.2 hi)
/-- A reply, as told. -/
def says (q : BA) (z : WS) (tick : Int) (d : Nat) (op a b : Int) (r : Int × Int × Int) : Bool := (wAct (bC q) z tick d 1 op a b).1 == (r, true)
theorem says_is {q : BA} {z : WS} {tick : Int} {d : Nat} {op a b : Int} {r : Int × Int × Int} (h : says q z tick d op a b r = true) : wAct (bC q) z tick d 1 op a b = ((r, true), act q z tick d op a b) := Prod.ext (eq_of_beq h) rfl
def leA (q : BA) : Nat → WS
 | 0 => wz q
 | i + 1 => act q (leA q i) i 0 11 3 (IntKind.i64.wrap (10 + i))
def leB (q : BA) (k : Nat) : Nat → WS
 | 0 => leA q k
 | i + 1 => act q (leB q k i) (IntKind.i64.wrap (9 + i)) 2 11 3 (IntKind.i64.wrap (20 + i))
def leC (q : BA) (k j : Nat) : Nat → WS
 | 0 => leB q k j
 | i + 1 => act q (leC q k j i) 30 3 12 0 0
def leD (q : BA) (k j : Nat) : Nat → WS
 | 0 => leC q k j (min k 2)
 | i + 1 => act q (leD q k j i) 31 3 12 0 0
theorem leA_B (q : BA) : ∀ i : Nat, WdB (leA q i) (2 + i)
 | 0 => wz_B q
 | i + 1 => (act_B (q := q) (leA_B q i) (by omega) i 0 11 3 (IntKind.i64.wrap (10 + i))).mono (by omega)
theorem leB_B (q : BA) (k : Nat) : ∀ i : Nat, WdB (leB q k i) (2 + k + i)
 | 0 => (leA_B q k).mono (by omega)
 | i + 1 => (act_B (q := q) (leB_B q k i) (by omega) (IntKind.i64.wrap (9 + i)) 2 11 3 (IntKind.i64.wrap (20 + i))).mono (by omega)
theorem leC_B (q : BA) (k j : Nat) : ∀ i : Nat, WdB (leC q k j i) (2 + k + j + i)
 | 0 => (leB_B q k j).mono (by omega)
 | i + 1 => (act_B (q := q) (leC_B q k j i) (by omega) 30 3 12 0 0).mono (by omega)
theorem leD_B (q : BA) (k j : Nat) : ∀ i : Nat, WdB (leD q k j i) (4 + k + j + i)
 | 0 => (leC_B q k j (min k 2)).mono (by omega)
 | i + 1 => (act_B (q := q) (leD_B q k j i) (by omega) 31 3 12 0 0).mono (by omega)
def leChk (q : BA) : Bool := allN 4 fun k => allN 4 fun j => (allN (min k 2) fun i => says q (leC q k j i) 30 3 12 0 0 (0, 0, IntKind.i64.wrap (10 + i))) && (allN (min j 2) fun i => says q (leD q k j i) 31 3 12 0 0 (0, 2, IntKind.i64.wrap (20 + i))) && says q (leD q k j (min j 2)) 32 3 12 0 0 (13, 0, 0)
theorem leChk_ok (q : BA) : leChk q = true := by kernel_rfl
theorem le_1 (q : BA) {k j : Nat} (hk : k < 4) (hj : j < 4) : (∀ i, i < min k 2 → wAct (bC q) (leC q k j i) 30 3 1 12 0 0 = (((0, 0, IntKind.i64.wrap (10 + i)), true), leC q k j (i + 1))) ∧ (∀ i, i < min j 2 → wAct (bC q) (leD q k j i) 31 3 1 12 0 0 = (((0, 2, IntKind.i64.wrap (20 + i)), true), leD q k j (i + 1))) ∧ wAct (bC q) (leD q k j (min j 2)) 32 3 1 12 0 0 = (((13, 0, 0), true), act q (leD q k j (min j 2)) 32 3 12 0 0) := by
 have h := allN_at (allN_at (leChk_ok q) hk) hj
 simp only [Bool.and_eq_true] at h
 exact ⟨fun i hi => says_is (allN_at h.1.1 hi), fun i hi => says_is (allN_at h.1.2 hi), says_is h.2⟩
set_option maxHeartbeats 1000000 in
set_option maxRecDepth 100000 in
theorem letters21 (H : List SP) (hE : EK H) (n m : Int) (hn : 0 ≤ n ∧ n < 256) (hm : 0 ≤ m ∧ m < 256) : ∀ w, Sat w H → Calls Tryz.prog 5 #[.int .u8 n, .int .u8 m] w (Ret (ι := Unit) (fun _ => .bool true) fun _ => H) := by
 have hn1 := tmod_range hn.1 (m := 4) (by omega)
 have hm1 := tmod_range hm.1 (m := 4) (by omega)
 obtain ⟨c, hc⟩ : ∃ c : Nat, Int.tmod n 4 = (c : Int) := ⟨(Int.tmod n 4).toNat, by omega⟩
 obtain ⟨g, hg⟩ : ∃ g : Nat, Int.tmod m 4 = (g : Int) := ⟨(Int.tmod m 4).toNat, by omega⟩
 have hc4 : c < 4 := by omega
 have hg4 : g < 4 := by omega
 have hmn : ∀ x : Nat, mnI (x : Int) 2 = ((min x 2 : Nat) : Int) := fun x => by unfold mnI; split <;> omega
 refine enterG (fn := Tryz.f5) 94 [.int .u8 n, .int .u8 m] Tryz.func5 (by kernel_rfl) (by kernel_rfl) (by kernel_rfl) ?_
 refine Xq (Xg 1 (Xe [(0,.int .u8 n), (1,.int .u8 m), (4,.bool false)] ?_ 1))
 refine Xq (Xq (Xg 2 (Xs (Xa (some 18) (fun _ => .bool true) (known21 _ hE)) (fun _ => ?_) 1)))
 refine Xe [(0,.int .u8 n), (1,.int .u8 m), (4,.bool false), (19,.bool false)] ?_ 1
 refine Xc false (fun h => by cases h) (fun _ => ?_)
 refine Xk (Xq (Xg 3 (Xs (Xa (some 20) (fun (q : BA) => .agg #[vi 8, vi 2, .slice (some ⟨q.ps, 0, none⟩) 2 2, .slice (some ⟨q.ds, 0, none⟩) 4 4]) (base_walk _)) (fun (q : BA) => ?_) 2)))
 obtain ⟨hr1, hr2, hr3⟩ := le_1 q hc4 hg4
 refine Xs (Xa (some 21) (fun (p : Nat × WP) => .pointer (some ⟨p.1, 0, none⟩)) (wnew_walk _ (bC q) (bKC q _) (by show 4 ≤ 6; omega))) (fun (p : Nat × WP) => ?_) 1
 refine Xe [(0,.int .u8 n), (1,.int .u8 m), (4,.bool false), (5,.pointer (some ⟨p.1, 0, none⟩))] ?_ 1
 refine Xq (Xg 8 (Xe [(4,.bool false), (5,.pointer (some ⟨p.1, 0, none⟩)), (6,vi (IntKind.i64.wrap (Int.tmod n 4))), (7,vi (IntKind.i64.wrap (Int.tmod m 4)))] ?_ 8))
 refine Xq (Xq (Xg 1 (Xe [(4,.bool false), (5,.pointer (some ⟨p.1, 0, none⟩)), (6,vi (IntKind.i64.wrap (Int.tmod n 4))), (7,vi (IntKind.i64.wrap (Int.tmod m 4))), (8,vi 0)] ?_ 1)))
 refine Xb 0 ?_
 rw [show IntKind.i64.wrap (Int.tmod n 4) = (c : Int) by rw [w64 (by omega) (by omega)]; exact hc]
 rw [show IntKind.i64.wrap (Int.tmod m 4) = (g : Int) by rw [w64 (by omega) (by omega)]; exact hg]
 refine Xp [(4,.bool false), (5,.pointer (some ⟨p.1, 0, none⟩)), (6,vi c), (7,vi g), (8,vi 0)] ?_
 refine loopG (fun (i : Nat) => [(4, .bool false), (5, .pointer (some ⟨p.1, 0, none⟩)), (6, vi c), (7, vi g), (8, vi i)]) (fun (i : Nat) => (wdS p.1 (bC q) p.2 (leA q i) :: bS q :: H)) (fun k (i : Nat) => k + i = c) c 0 (by kernel_rfl) (by omega) ?_
 rintro k0 i hki
 refine Xq (Xq (Xg 3 (Xe [(4,.bool false), (5,.pointer (some ⟨p.1, 0, none⟩)), (6,vi c), (7,vi g), (8,vi i), (30,.bool (decide ((i : Int) < (c : Int))))] ?_ 3)))
 refine Xc (decide ((i : Int) < (c : Int))) (fun h1 => ?_) (fun h1 => ?_)
 ·skip
  have hi : i < c := by have := of_decide_eq_true h1; omega
  refine Xk (Xq (Xb 1 (Xg 6 (Xr [(4,.bool false), (5,.pointer (some ⟨p.1, 0, none⟩)), (6,vi c), (7,vi g), (8,vi i), (33,.pointer (some ⟨p.1, 0, none⟩)), (34,vi i), (37,.agg #[vi 11, vi 3, vi (IntKind.i64.wrap (10 + (i : Int)))])] ?_ 1 5))))
  refine Xs (Xa (some 38) (fun _ => ansV (wAct (bC q) (leA q i) i 0 1 11 3 (IntKind.i64.wrap (10 + (i : Int)))).1) (bDoes _ p.1 q p.2 (leA q i) hE.up (bKC q H) (2 + i) (leA_B q i) (by omega) (i : Int) 0 (by omega) 11 3 (IntKind.i64.wrap (10 + (i : Int))))) (fun _ => ?_) 0
  refine endR ?_
  refine Xg 3 (Xe [(4,.bool false), (5,.pointer (some ⟨p.1, 0, none⟩)), (6,vi c), (7,vi g), (8,vi (IntKind.i64.wrap ((i : Int) + 1)))] ?_ 3)
  rw [show IntKind.i64.wrap ((i : Int) + 1) = ((i : Int) + 1) by rw [w64 (by omega) (by omega)]]
  refine Xp [(4,.bool false), (5,.pointer (some ⟨p.1, 0, none⟩)), (6,vi c), (7,vi g), (8,vi ((i : Int) + 1))] ?_
  exact againG (k0 - 1) (i + 1) rfl rfl (by omega) (by omega)
 ·skip
  have hi : c = i := by have := of_decide_eq_false h1; omega
  subst hi
  refine Xx 0 (thenX (thenX (leaveR (Xq (Xq (Xg 1 (Xe [(4,.bool false), (5,.pointer (some ⟨p.1, 0, none⟩)), (6,vi c), (7,vi g), (9,vi 0)] ?_ 1)))))))
  refine Xb 2 (Xp [(4,.bool false), (5,.pointer (some ⟨p.1, 0, none⟩)), (6,vi c), (7,vi g), (9,vi 0)] ?_)
  refine loopG (fun (i : Nat) => [(4, .bool false), (5, .pointer (some ⟨p.1, 0, none⟩)), (6, vi c), (7, vi g), (9, vi i)]) (fun (i : Nat) => (wdS p.1 (bC q) p.2 (leB q c i) :: bS q :: H)) (fun k (i : Nat) => k + i = g) g 0 (by kernel_rfl) (by omega) ?_
  rintro k1 i hki1
  refine Xq (Xq (Xg 3 (Xe [(4,.bool false), (5,.pointer (some ⟨p.1, 0, none⟩)), (6,vi c), (7,vi g), (9,vi i), (41,.bool (decide ((i : Int) < (g : Int))))] ?_ 3)))
  refine Xc (decide ((i : Int) < (g : Int))) (fun h2 => ?_) (fun h2 => ?_)
  ·skip
   have hi : i < g := by have := of_decide_eq_true h2; omega
   refine Xk (Xq (Xb 3 (Xg 7 (Xr [(4,.bool false), (5,.pointer (some ⟨p.1, 0, none⟩)), (6,vi c), (7,vi g), (9,vi i), (44,.pointer (some ⟨p.1, 0, none⟩)), (46,vi (IntKind.i64.wrap (9 + (i : Int)))), (49,.agg #[vi 11, vi 3, vi (IntKind.i64.wrap (20 + (i : Int)))])] ?_ 1 6))))
   refine Xs (Xa (some 50) (fun _ => ansV (wAct (bC q) (leB q c i) (IntKind.i64.wrap (9 + (i : Int))) 2 1 11 3 (IntKind.i64.wrap (20 + (i : Int)))).1) (bDoes _ p.1 q p.2 (leB q c i) hE.up (bKC q H) (2 + c + i) (leB_B q c i) (by omega) (IntKind.i64.wrap (9 + (i : Int))) 2 (by omega) 11 3 (IntKind.i64.wrap (20 + (i : Int))))) (fun _ => ?_) 0
   refine endR ?_
   refine Xg 3 (Xe [(4,.bool false), (5,.pointer (some ⟨p.1, 0, none⟩)), (6,vi c), (7,vi g), (9,vi (IntKind.i64.wrap ((i : Int) + 1)))] ?_ 3)
   rw [show IntKind.i64.wrap ((i : Int) + 1) = ((i : Int) + 1) by rw [w64 (by omega) (by omega)]]
   refine Xp [(4,.bool false), (5,.pointer (some ⟨p.1, 0, none⟩)), (6,vi c), (7,vi g), (9,vi ((i : Int) + 1))] ?_
   exact againG (k1 - 1) (i + 1) rfl rfl (by omega) (by omega)
  ·skip
   have hi : g = i := by have := of_decide_eq_false h2; omega
   subst hi
   refine Xx 2 (thenX (thenX (leaveR (Xq (Xq (Xg 1 (Xe [(4,.bool false), (5,.pointer (some ⟨p.1, 0, none⟩)), (6,vi c), (7,vi g), (10,vi 0)] ?_ 1)))))))
   refine Xb 4 (Xp [(5,.pointer (some ⟨p.1, 0, none⟩)), (6,vi c), (7,vi g), (10,vi 0)] ?_)
   refine loopG (fun (i : Nat) => [(5, .pointer (some ⟨p.1, 0, none⟩)), (6, vi c), (7, vi g), (10, vi i)]) (fun (i : Nat) => (wdS p.1 (bC q) p.2 (leC q c g i) :: bS q :: H)) (fun k (i : Nat) => k + i = min c 2) (min c 2) 0 (by kernel_rfl) (by omega) ?_
   rintro k2 i hki2
   refine Xq (Xq (Xg 4 (Xe [(5,.pointer (some ⟨p.1, 0, none⟩)), (6,vi c), (7,vi g), (10,vi i), (54,.bool (decide ((i : Int) < (mnI (c : Int) 2))))] ?_ 4)))
   refine Xc (decide ((i : Int) < (mnI (c : Int) 2))) (fun h3 => ?_) (fun h3 => ?_)
   ·skip
    have hi : i < min c 2 := by have h0 := of_decide_eq_true h3; rw [hmn] at h0; omega
    refine Xk (Xq (Xb 5 (Xq (Xg 9 (Xr [(5,.pointer (some ⟨p.1, 0, none⟩)), (6,vi c), (7,vi g), (10,vi i), (58,.pointer (some ⟨p.1, 0, none⟩)), (59,.agg #[vi 12, vi 0, vi 0])] ?_ 7 2)))))
    refine Xs (Xa (some 60) (fun _ => .tuple #[.agg #[vi 0, vi 0, vi (IntKind.i64.wrap (10 + (i : Int)))], .bool true]) (bAct _ p.1 q p.2 (leC q c g i) hE.up (bKC q H) (2 + c + g + i) (leC_B q c g i) (by omega) 30 3 (by omega) 1 12 0 0 (hr1 i hi))) (fun _ => ?_) 6
    refine Xr [(5,.pointer (some ⟨p.1, 0, none⟩)), (6,vi c), (7,vi g), (10,vi i), (61,.agg #[vi 0, vi 0, vi (IntKind.i64.wrap (10 + (i : Int)))]), (62,.bool true)] ?_ 3 3
    refine Xs (Xn 31 [vi 0, vi 0, vi 0] (some 11) (fun b => vp b)) (fun b1 => ?_) 2
    refine Xs (Xz [(0,vi 0), (1,vi 0), (2,vi (IntKind.i64.wrap (10 + (i : Int))))]) (fun _ => ?_) 1
    refine Xe [(11,vp b1), (5,.pointer (some ⟨p.1, 0, none⟩)), (6,vi c), (7,vi g), (10,vi i)] ?_ 1
    refine Xq (Xg 5 (Xl [(5,.pointer (some ⟨p.1, 0, none⟩)), (6,vi c), (7,vi g), (10,vi i), (63,.agg #[vi 0, vi 0, vi (IntKind.i64.wrap (10 + (i : Int)))]), (66,.agg #[vi 0, vi 0, vi (IntKind.i64.wrap (10 + (i : Int)))])] [(⟨b1, 0, none⟩, vi 0), (⟨b1, 1, none⟩, vi 0), (⟨b1, 2, none⟩, vi (IntKind.i64.wrap (10 + (i : Int))))] (hasC (ba 0) (hasC (ba 0) (hasC (ba 0) has0))) ?_ 1 4))
    refine Xs (yldS (eqY1 31 31 (.tmp 63) (.tmp 66) [.int .i64 0, .int .i64 0, .int .i64 (IntKind.i64.wrap (10 + (i : Int)))] [.int .i64 0, .int .i64 0, .int .i64 (IntKind.i64.wrap (10 + (i : Int)))] true 67 (hb := by simp [eqCs, eqC]))) (fun _ => ?_) 0
    refine endR ?_
    refine Xc false (fun h => by cases h) (fun _ => ?_)
    refine Xk (Xg 3 (Xe [(5,.pointer (some ⟨p.1, 0, none⟩)), (6,vi c), (7,vi g), (10,vi (IntKind.i64.wrap ((i : Int) + 1)))] ?_ 3))
    rw [show IntKind.i64.wrap ((i : Int) + 1) = ((i : Int) + 1) by rw [w64 (by omega) (by omega)]]
    rw [show IntKind.i64.wrap (10 + (i : Int)) = (10 + (i : Int)) by rw [w64 (by omega) (by omega)]]
    refine PT.drop ?_
    refine Xp [(5,.pointer (some ⟨p.1, 0, none⟩)), (6,vi c), (7,vi g), (10,vi ((i : Int) + 1))] ?_
    exact againG (k2 - 1) (i + 1) rfl rfl (by omega) (by omega)
   ·skip
    have hi : min c 2 = i := by have h0 := of_decide_eq_false h3; rw [hmn] at h0; omega
    subst hi
    refine Xx 4 (thenX (thenX (leaveR (Xq (Xq (Xg 1 (Xe [(5,.pointer (some ⟨p.1, 0, none⟩)), (7,vi g), (13,vi 0)] ?_ 1)))))))
    refine Xb 6 (Xp [(5,.pointer (some ⟨p.1, 0, none⟩)), (7,vi g), (13,vi 0)] ?_)
    refine loopG (fun (i : Nat) => [(5, .pointer (some ⟨p.1, 0, none⟩)), (7, vi g), (13, vi i)]) (fun (i : Nat) => (wdS p.1 (bC q) p.2 (leD q c g i) :: bS q :: H)) (fun k (i : Nat) => k + i = min g 2) (min g 2) 0 (by kernel_rfl) (by omega) ?_
    rintro k3 i hki3
    refine Xq (Xq (Xg 4 (Xe [(5,.pointer (some ⟨p.1, 0, none⟩)), (7,vi g), (13,vi i), (71,.bool (decide ((i : Int) < (mnI (g : Int) 2))))] ?_ 4)))
    refine Xc (decide ((i : Int) < (mnI (g : Int) 2))) (fun h4 => ?_) (fun h4 => ?_)
    ·skip
     have hi : i < min g 2 := by have h0 := of_decide_eq_true h4; rw [hmn] at h0; omega
     refine Xk (Xq (Xb 7 (Xq (Xg 9 (Xr [(5,.pointer (some ⟨p.1, 0, none⟩)), (7,vi g), (13,vi i), (75,.pointer (some ⟨p.1, 0, none⟩)), (76,.agg #[vi 12, vi 0, vi 0])] ?_ 7 2)))))
     refine Xs (Xa (some 77) (fun _ => .tuple #[.agg #[vi 0, vi 2, vi (IntKind.i64.wrap (20 + (i : Int)))], .bool true]) (bAct _ p.1 q p.2 (leD q c g i) hE.up (bKC q H) (4 + c + g + i) (leD_B q c g i) (by omega) 31 3 (by omega) 1 12 0 0 (hr2 i hi))) (fun _ => ?_) 6
     refine Xr [(5,.pointer (some ⟨p.1, 0, none⟩)), (7,vi g), (13,vi i), (78,.agg #[vi 0, vi 2, vi (IntKind.i64.wrap (20 + (i : Int)))]), (79,.bool true)] ?_ 3 3
     refine Xs (Xn 31 [vi 0, vi 0, vi 0] (some 14) (fun b => vp b)) (fun b1 => ?_) 2
     refine Xs (Xz [(0,vi 0), (1,vi 2), (2,vi (IntKind.i64.wrap (20 + (i : Int))))]) (fun _ => ?_) 1
     refine Xe [(14,vp b1), (5,.pointer (some ⟨p.1, 0, none⟩)), (7,vi g), (13,vi i)] ?_ 1
     refine Xq (Xg 5 (Xl [(5,.pointer (some ⟨p.1, 0, none⟩)), (7,vi g), (13,vi i), (80,.agg #[vi 0, vi 2, vi (IntKind.i64.wrap (20 + (i : Int)))]), (83,.agg #[vi 0, vi 2, vi (IntKind.i64.wrap (20 + (i : Int)))])] [(⟨b1, 0, none⟩, vi 0), (⟨b1, 1, none⟩, vi 2), (⟨b1, 2, none⟩, vi (IntKind.i64.wrap (20 + (i : Int))))] (hasC (ba 0) (hasC (ba 0) (hasC (ba 0) has0))) ?_ 1 4))
     refine Xs (yldS (eqY1 31 31 (.tmp 80) (.tmp 83) [.int .i64 0, .int .i64 2, .int .i64 (IntKind.i64.wrap (20 + (i : Int)))] [.int .i64 0, .int .i64 2, .int .i64 (IntKind.i64.wrap (20 + (i : Int)))] true 84 (hb := by simp [eqCs, eqC]))) (fun _ => ?_) 0
     refine endR ?_
     refine Xc false (fun h => by cases h) (fun _ => ?_)
     refine Xk (Xg 3 (Xe [(5,.pointer (some ⟨p.1, 0, none⟩)), (7,vi g), (13,vi (IntKind.i64.wrap ((i : Int) + 1)))] ?_ 3))
     rw [show IntKind.i64.wrap ((i : Int) + 1) = ((i : Int) + 1) by rw [w64 (by omega) (by omega)]]
     rw [show IntKind.i64.wrap (20 + (i : Int)) = (20 + (i : Int)) by rw [w64 (by omega) (by omega)]]
     refine PT.drop ?_
     refine Xp [(5,.pointer (some ⟨p.1, 0, none⟩)), (7,vi g), (13,vi ((i : Int) + 1))] ?_
     exact againG (k3 - 1) (i + 1) rfl rfl (by omega) (by omega)
    ·skip
     have hi : min g 2 = i := by have h0 := of_decide_eq_false h4; rw [hmn] at h0; omega
     subst hi
     refine Xx 6 (thenX (thenX (leaveR (Xq (Xg 9 (Xr [(86,.pointer (some ⟨p.1, 0, none⟩)), (87,.agg #[vi 12, vi 0, vi 0])] ?_ 7 2))))))
     refine Xs (Xa (some 88) (fun _ => .tuple #[.agg #[vi 13, vi 0, vi 0], .bool true]) (bAct _ p.1 q p.2 (leD q c g (min g 2)) hE.up (bKC q H) (4 + c + g + (min g 2 : Nat)) (leD_B q c g (min g 2)) (by omega) 32 3 (by omega) 1 12 0 0 hr3)) (fun _ => ?_) 6
     refine Xr [(89,.agg #[vi 13, vi 0, vi 0]), (90,.bool true)] ?_ 3 3
     refine Xs (Xn 31 [vi 0, vi 0, vi 0] (some 16) (fun b => vp b)) (fun b1 => ?_) 2
     refine Xs (Xz [(0,vi 13), (1,vi 0), (2,vi 0)]) (fun _ => ?_) 1
     refine Xe [(16,vp b1)] ?_ 1
     refine Xq (Xg 4 (Xl [(91,.agg #[vi 13, vi 0, vi 0]), (92,.agg #[vi 13, vi 0, vi 0])] [(⟨b1, 0, none⟩, vi 13), (⟨b1, 1, none⟩, vi 0), (⟨b1, 2, none⟩, vi 0)] (hasC (ba 0) (hasC (ba 0) (hasC (ba 0) has0))) ?_ 2 2))
     refine Xs (yldS (eqY0 31 31 (.tmp 91) (.tmp 92) [.int .i64 13, .int .i64 0, .int .i64 0] [.int .i64 13, .int .i64 0, .int .i64 0] true 93)) (fun _ => ?_) 1
     refine Xe [(4,.bool true)] ?_ 1
     refine Xv (Y0 (.bool true) (fun w hs => ?_))
     exact ⟨(), rfl, Sat.right (R := [_, _, _]) hs⟩
theorem letters_row (W : World) (hE : W.cell? ⟨0, 0, none⟩ = some errT) (n m : Int) (hn : (Lit.int .u8 n).wf = true) (hm : (Lit.int .u8 m).wf = true) : Calls Tryz.prog 5 #[.int .u8 n, .int .u8 m] W (LawPost W) :=
 lawPost (fun _ _ h => h) (letters21 [old W] (EK.old 0 rfl hE) n m (u8_wf hn) (u8_wf hm) W (Sat.start W))
end Go.Proofs.YtfhkgohokbkgiaaGreatDoor
