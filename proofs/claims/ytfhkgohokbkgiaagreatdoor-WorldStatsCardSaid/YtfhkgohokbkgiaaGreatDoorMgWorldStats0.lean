/- Texts put together: WorldStats: its walk. Conditions: none. -/
import Derived.Test.YtfhkgohokbkgiaaGreatDoorMgWb6
set_option linter.unusedVariables false
set_option linter.unusedSimpArgs false
namespace Go.Proofs.YtfhkgohokbkgiaaGreatDoor
open Go.RowKit G
def stL (x : Nat) (i g d : Int) : List Acc := (List.range 4).map fun k => if k = x then ⟨i, g, d, 0⟩ else if k = (x + 1) % 4 then ⟨0, 0, g, 0⟩ else ⟨0, 0, 0, 0⟩
def stW (q : BA) (x : Nat) (i g d : Int) : WS := { wz q with l := stL x i g d }
theorem stW_0 (q : BA) {x : Nat} (h : x < 4) : wz q = stW q x 0 0 0 := by
 have e : (wz q).l = stL x 0 0 0 := by rcases four h with rfl | rfl | rfl | rfl <;> kernel_rfl
 rw [stW, ← e]
theorem st_1 {x : Nat} (h : x < 4) (i : Int) : ldCount (stL x i 0 0) x (-1) x = stL x (i + 1) 0 0 := by
 rcases four h with rfl | rfl | rfl | rfl <;> simp [ldCount, ldMid, ldAdd, ldIs, stL, accP, List.range_succ]
theorem st_2 {x : Nat} (h : x < 4) (i g : Int) : ldCount (stL x i g 0) (((x + 1) % 4 : Nat) : Int) (-1) x = stL x i (g + 1) 0 := by
 rcases four h with rfl | rfl | rfl | rfl <;> simp [ldCount, ldMid, ldAdd, ldIs, stL, accP, List.range_succ]
theorem st_3 {x : Nat} (h : x < 4) (i g d : Int) : ldCount (stL x i g d) x (-1) (-1) = stL x i g (d + 1) := by
 rcases four h with rfl | rfl | rfl | rfl <;> simp [ldCount, ldMid, ldAdd, ldIs, stL, accP, List.range_succ]
theorem st_ok {x : Nat} {i g d : Int} (hi : 0 ≤ i ∧ i ≤ 20) (hg : 0 ≤ g ∧ g ≤ 20) (hd : 0 ≤ d ∧ d ≤ 20) : LdOk (stL x i g d) 1125899906842623 := fun a ha => by
 simp only [stL, List.mem_map] at ha
 obtain ⟨k, _, rfl⟩ := ha
 unfold AccIn acK
 split
 ·simp only; omega
 ·split <;> simp only <;> omega
theorem st_clk (q : BA) {x : Nat} (h : x < 4) (i g d : Int) : wAct (bC q) (stW q x i g d) 6 x 1 8 0 0 = (((0, i + g, 0), true), stW q x i g d) := by
 rcases four h with rfl | rfl | rfl | rfl <;> kernel_rfl
theorem st_stat (q : BA) {x y : Nat} (h : x < 4) (h2 : y < 4) (i g d : Int) : wAct (bC q) (stW q x i g d) 5 y 1 9 x 0 = ((if labLeq (labOf (bC q) x) (labOf (bC q) y) = true then (0, i + g, d) else (15, 0, 0), true), stW q x i g d) := by
 rcases four h with rfl | rfl | rfl | rfl <;> rcases four h2 with rfl | rfl | rfl | rfl <;> kernel_rfl
set_option maxHeartbeats 1000000 in
set_option maxRecDepth 100000 in
theorem stats21 (H : List SP) (hE : EK H) (o b ow gt id : Int) (ho : 0 ≤ o ∧ o < 256) (hb : 0 ≤ b ∧ b < 256) (how : 0 ≤ ow ∧ ow < 256) (hgt : 0 ≤ gt ∧ gt < 256) (hid : 0 ≤ id ∧ id < 256) : ∀ w, Sat w H → Calls Tryz.prog 6 #[.int .u8 o, .int .u8 b, .int .u8 ow, .int .u8 gt, .int .u8 id] w (Ret (ι := Unit) (fun _ => .bool true) fun _ => H) := by
 have ho1 := tmod_range ho.1 (m := 4) (by omega)
 have hb1 := tmod_range hb.1 (m := 4) (by omega)
 have how1 := tmod_range how.1 (m := 20) (by omega)
 have hgt1 := tmod_range hgt.1 (m := 20) (by omega)
 have hid1 := tmod_range hid.1 (m := 20) (by omega)
 obtain ⟨x, hx⟩ : ∃ x : Nat, Int.tmod o 4 = (x : Int) := ⟨(Int.tmod o 4).toNat, by omega⟩
 obtain ⟨y, hy⟩ : ∃ x : Nat, Int.tmod b 4 = (x : Int) := ⟨(Int.tmod b 4).toNat, by omega⟩
 obtain ⟨c1, hc1⟩ : ∃ x : Nat, Int.tmod ow 20 = (x : Int) := ⟨(Int.tmod ow 20).toNat, by omega⟩
 obtain ⟨c2, hc2⟩ : ∃ x : Nat, Int.tmod gt 20 = (x : Int) := ⟨(Int.tmod gt 20).toNat, by omega⟩
 obtain ⟨c3, hc3⟩ : ∃ x : Nat, Int.tmod id 20 = (x : Int) := ⟨(Int.tmod id 20).toNat, by omega⟩
 have hx4 : x < 4 := by omega
 have hy4 : y < 4 := by omega
 have hx5 : IntKind.i64.wrap ((x : Int) + 1) = (x : Int) + 1 := w64 (by omega) (by omega)
 have hw : IntKind.i64.wrap (IntKind.i64.wrap (ow.tmod 20) + IntKind.i64.wrap (gt.tmod 20)) = (c1 : Int) + (c2 : Int) := by rw [w64 (n := ow.tmod 20) (by omega) (by omega), w64 (n := gt.tmod 20) (by omega) (by omega), hc1, hc2, w64 (by omega) (by omega)]
 have hx6 : Int.tmod ((x : Int) + 1) 4 = (((x + 1) % 4 : Nat) : Int) := by rw [Int.tmod_eq_emod_of_nonneg (by omega)]; omega
 refine enterG (fn := Tryz.f6) 130 [.int .u8 o, .int .u8 b, .int .u8 ow, .int .u8 gt, .int .u8 id] Tryz.func6 (by kernel_rfl) (by kernel_rfl) (by kernel_rfl) ?_
 refine Xq (Xg 1 (Xe [(0,.int .u8 o), (1,.int .u8 b), (2,.int .u8 ow), (3,.int .u8 gt), (4,.int .u8 id), (10,.bool false)] ?_ 1))
 refine Xq (Xq (Xg 2 (Xs (Xa (some 23) (fun _ => .bool true) (known21 _ hE)) (fun _ => ?_) 1)))
 refine Xe [(0,.int .u8 o), (1,.int .u8 b), (2,.int .u8 ow), (3,.int .u8 gt), (4,.int .u8 id), (10,.bool false), (24,.bool false)] ?_ 1
 refine Xc false (fun h => by cases h) (fun _ => ?_)
 refine Xk (Xq (Xg 3 (Xs (Xa (some 25) (fun (q : BA) => .agg #[vi 8, vi 2, .slice (some ⟨q.ps, 0, none⟩) 2 2, .slice (some ⟨q.ds, 0, none⟩) 4 4]) (base_walk _)) (fun (q : BA) => ?_) 2)))
 refine Xs (Xn 26 [vi 0, vi 0, .slice none 0 0, .slice none 0 0] (some 11) (fun b => vp b)) (fun b1 => ?_) 1
 refine Xs (Xz [(0,vi 8), (1,vi 2), (2,.slice (some ⟨q.ps, 0, none⟩) 2 2), (3,.slice (some ⟨q.ds, 0, none⟩) 4 4)]) (fun _ => ?_) 0
 refine endR ?_
 refine Xq (Xg 8 (Xe [(11,vp b1), (2,.int .u8 ow), (3,.int .u8 gt), (4,.int .u8 id), (10,.bool false), (12,vi (IntKind.i64.wrap (Int.tmod o 4))), (13,vi (IntKind.i64.wrap (Int.tmod b 4)))] ?_ 8))
 refine Xq (Xg 3 (Xl [(11,vp b1), (2,.int .u8 ow), (3,.int .u8 gt), (4,.int .u8 id), (10,.bool false), (12,vi (IntKind.i64.wrap (Int.tmod o 4))), (13,vi (IntKind.i64.wrap (Int.tmod b 4))), (32,.agg #[vi 8, vi 2, .slice (some ⟨q.ps, 0, none⟩) 2 2, .slice (some ⟨q.ds, 0, none⟩) 4 4])] [(⟨b1, 0, none⟩, vi 8), (⟨b1, 1, none⟩, vi 2), (⟨b1, 2, none⟩, .slice (some ⟨q.ps, 0, none⟩) 2 2), (⟨b1, 3, none⟩, .slice (some ⟨q.ds, 0, none⟩) 4 4)] (hasC (ba 0) (hasC (ba 0) (hasC (ba 0) (hasC (ba 0) has0)))) ?_ 2 1))
 rw [show IntKind.i64.wrap (Int.tmod o 4) = (x : Int) by rw [w64 (by omega) (by omega)]; exact hx]
 rw [show IntKind.i64.wrap (Int.tmod b 4) = (y : Int) by rw [w64 (by omega) (by omega)]; exact hy]
 refine Xs (Xa (some 33) (fun (p : Nat × WP) => .pointer (some ⟨p.1, 0, none⟩)) (bNew _ q (bKC q _).up)) (fun (p : Nat × WP) => ?_) 1
 refine Xe [(11,vp b1), (2,.int .u8 ow), (3,.int .u8 gt), (4,.int .u8 id), (10,.bool false), (12,vi x), (13,vi y), (14,.pointer (some ⟨p.1, 0, none⟩))] ?_ 1
 refine Xq (Xq (Xg 1 (Xe [(11,vp b1), (2,.int .u8 ow), (3,.int .u8 gt), (4,.int .u8 id), (10,.bool false), (12,vi x), (13,vi y), (14,.pointer (some ⟨p.1, 0, none⟩)), (15,vi 0)] ?_ 1)))
 refine Xb 0 ?_
 rw [show wz q = stW q x 0 0 0 by exact stW_0 q hx4]
 refine Xp [(2,.int .u8 ow), (3,.int .u8 gt), (4,.int .u8 id), (10,.bool false), (11,vp b1), (12,vi x), (13,vi y), (14,.pointer (some ⟨p.1, 0, none⟩)), (15,vi 0)] ?_
 refine loopG (fun (i : Nat) => [(2, .int .u8 ow), (3, .int .u8 gt), (4, .int .u8 id), (10, .bool false), (11, vp b1), (12, vi x), (13, vi y), (14, .pointer (some ⟨p.1, 0, none⟩)), (15, vi i)]) (fun (i : Nat) => (wdS p.1 (bC q) p.2 (stW q x i 0 0) :: blk b1 26 [vi 8, vi 2, .slice (some ⟨q.ps, 0, none⟩) 2 2, .slice (some ⟨q.ds, 0, none⟩) 4 4] :: bS q :: H)) (fun k (i : Nat) => k + i = c1) c1 0 (by kernel_rfl) (by omega) ?_
 rintro k0 i hki
 refine Xq (Xq (Xg 5 (Xe [(2,.int .u8 ow), (3,.int .u8 gt), (4,.int .u8 id), (10,.bool false), (11,vp b1), (12,vi x), (13,vi y), (14,.pointer (some ⟨p.1, 0, none⟩)), (15,vi i), (38,.bool (decide ((i : Int) < (IntKind.i64.wrap (Int.tmod ow 20)))))] ?_ 5)))
 rw [show IntKind.i64.wrap (Int.tmod ow 20) = (c1 : Int) by rw [w64 (by omega) (by omega)]; exact hc1]
 refine Xc (decide ((i : Int) < (c1 : Int))) (fun h1 => ?_) (fun h1 => ?_)
 ·skip
  have hi : i < c1 := by have := of_decide_eq_true h1; omega
  refine Xk (Xq (Xb 1 (Xg 5 (Xr [(2,.int .u8 ow), (3,.int .u8 gt), (4,.int .u8 id), (10,.bool false), (11,vp b1), (12,vi x), (13,vi y), (14,.pointer (some ⟨p.1, 0, none⟩)), (15,vi i), (41,.pointer (some ⟨p.1, 0, none⟩))] ?_ 4 1))))
  refine Xs (Xa (some 42) (fun _ => .pointer (some ⟨p.2.l, 0, none⟩)) (wledger_walk _ p.1 (bC q) p.2 (stW q x i 0 0))) (fun _ => ?_) 3
  refine Xr [(42,.pointer (some ⟨p.2.l, 0, none⟩)), (2,.int .u8 ow), (3,.int .u8 gt), (4,.int .u8 id), (10,.bool false), (11,vp b1), (12,vi x), (13,vi y), (14,.pointer (some ⟨p.1, 0, none⟩)), (15,vi i), (43,vi x), (44,vi x)] ?_ 1 2
  refine Xs (Xa (some 45) (fun _ => .tuple #[]) ((by have h := wdLed (ι := Unit) (wb := p.1) (c := bC q) (P := p.2) (w := stW q x i 0 0) (l' := fun _ => stL x (i + 1) 0 0) (fun H => by have h := ldCount_c H p.2.l (stL x i 0 0) x (-1) x (st_ok (by omega) (by omega) (by omega)); rw [st_1 hx4] at h; exact h) (blk b1 26 [.int .i64 8, .int .i64 2, .slice (some ⟨q.ps, 0, none⟩) 2 2, .slice (some ⟨q.ds, 0, none⟩) 4 4] :: bS q :: H); exact h))) (fun _ => ?_) 0
  refine endR ?_
  refine Xg 3 (Xe [(2,.int .u8 ow), (3,.int .u8 gt), (4,.int .u8 id), (10,.bool false), (11,vp b1), (12,vi x), (13,vi y), (14,.pointer (some ⟨p.1, 0, none⟩)), (15,vi (IntKind.i64.wrap ((i : Int) + 1)))] ?_ 3)
  rw [show IntKind.i64.wrap ((i : Int) + 1) = ((i : Int) + 1) by rw [w64 (by omega) (by omega)]]
  refine Xp [(2,.int .u8 ow), (3,.int .u8 gt), (4,.int .u8 id), (10,.bool false), (11,vp b1), (12,vi x), (13,vi y), (14,.pointer (some ⟨p.1, 0, none⟩)), (15,vi ((i : Int) + 1))] ?_
  exact againG (k0 - 1) (i + 1) rfl rfl (by omega) (by omega)
 ·skip
  have hi : c1 = i := by have := of_decide_eq_false h1; omega
  subst hi
  refine Xx 0 (thenX (thenX (leaveR (Xq (Xq (Xg 1 (Xe [(2,.int .u8 ow), (3,.int .u8 gt), (4,.int .u8 id), (10,.bool false), (11,vp b1), (12,vi x), (13,vi y), (14,.pointer (some ⟨p.1, 0, none⟩)), (16,vi 0)] ?_ 1)))))))
  refine Xb 2 (Xp [(2,.int .u8 ow), (3,.int .u8 gt), (4,.int .u8 id), (10,.bool false), (11,vp b1), (12,vi x), (13,vi y), (14,.pointer (some ⟨p.1, 0, none⟩)), (16,vi 0)] ?_)
  refine loopG (fun (i : Nat) => [(2, .int .u8 ow), (3, .int .u8 gt), (4, .int .u8 id), (10, .bool false), (11, vp b1), (12, vi x), (13, vi y), (14, .pointer (some ⟨p.1, 0, none⟩)), (16, vi i)]) (fun (i : Nat) => (wdS p.1 (bC q) p.2 (stW q x c1 i 0) :: blk b1 26 [vi 8, vi 2, .slice (some ⟨q.ps, 0, none⟩) 2 2, .slice (some ⟨q.ds, 0, none⟩) 4 4] :: bS q :: H)) (fun k (i : Nat) => k + i = c2) c2 0 (by kernel_rfl) (by omega) ?_
  rintro k1 i hki1
  refine Xq (Xq (Xg 5 (Xe [(2,.int .u8 ow), (3,.int .u8 gt), (4,.int .u8 id), (10,.bool false), (11,vp b1), (12,vi x), (13,vi y), (14,.pointer (some ⟨p.1, 0, none⟩)), (16,vi i), (50,.bool (decide ((i : Int) < (IntKind.i64.wrap (Int.tmod gt 20)))))] ?_ 5)))
  rw [show IntKind.i64.wrap (Int.tmod gt 20) = (c2 : Int) by rw [w64 (by omega) (by omega)]; exact hc2]
  refine Xc (decide ((i : Int) < (c2 : Int))) (fun h2 => ?_) (fun h2 => ?_)
  ·skip
   have hi : i < c2 := by have := of_decide_eq_true h2; omega
   refine Xk (Xq (Xb 3 (Xg 7 (Xr [(2,.int .u8 ow), (3,.int .u8 gt), (4,.int .u8 id), (10,.bool false), (11,vp b1), (12,vi x), (13,vi y), (14,.pointer (some ⟨p.1, 0, none⟩)), (16,vi i), (53,.pointer (some ⟨p.1, 0, none⟩))] ?_ 6 1))))
   refine Xs (Xa (some 54) (fun _ => .pointer (some ⟨p.2.l, 0, none⟩)) (wledger_walk _ p.1 (bC q) p.2 (stW q x c1 i 0))) (fun _ => ?_) 5
   refine Xr [(54,.pointer (some ⟨p.2.l, 0, none⟩)), (2,.int .u8 ow), (3,.int .u8 gt), (4,.int .u8 id), (10,.bool false), (11,vp b1), (12,vi x), (13,vi y), (14,.pointer (some ⟨p.1, 0, none⟩)), (16,vi i), (57,vi (Int.tmod (IntKind.i64.wrap ((x : Int) + 1)) 4)), (58,vi x)] ?_ 1 4
   rw [show Int.tmod (IntKind.i64.wrap ((x : Int) + 1)) 4 = (((x + 1) % 4 : Nat) : Int) by rw [hx5, hx6]]
   refine Xs (Xa (some 59) (fun _ => .tuple #[]) ((by have h := wdLed (ι := Unit) (wb := p.1) (c := bC q) (P := p.2) (w := stW q x c1 i 0) (l' := fun _ => stL x c1 (i + 1) 0) (fun H => by have h := ldCount_c H p.2.l (stL x c1 i 0) (((x + 1) % 4 : Nat) : Int) (-1) x (st_ok (by omega) (by omega) (by omega)); rw [st_2 hx4] at h; exact h) (blk b1 26 [.int .i64 8, .int .i64 2, .slice (some ⟨q.ps, 0, none⟩) 2 2, .slice (some ⟨q.ds, 0, none⟩) 4 4] :: bS q :: H); exact h))) (fun _ => ?_) 0
   refine endR ?_
   refine Xg 3 (Xe [(2,.int .u8 ow), (3,.int .u8 gt), (4,.int .u8 id), (10,.bool false), (11,vp b1), (12,vi x), (13,vi y), (14,.pointer (some ⟨p.1, 0, none⟩)), (16,vi (IntKind.i64.wrap ((i : Int) + 1)))] ?_ 3)
   rw [show IntKind.i64.wrap ((i : Int) + 1) = ((i : Int) + 1) by rw [w64 (by omega) (by omega)]]
   refine Xp [(2,.int .u8 ow), (3,.int .u8 gt), (4,.int .u8 id), (10,.bool false), (11,vp b1), (12,vi x), (13,vi y), (14,.pointer (some ⟨p.1, 0, none⟩)), (16,vi ((i : Int) + 1))] ?_
   exact againG (k1 - 1) (i + 1) rfl rfl (by omega) (by omega)
  ·skip
   have hi : c2 = i := by have := of_decide_eq_false h2; omega
   subst hi
   refine Xx 2 (thenX (thenX (leaveR (Xq (Xq (Xg 1 (Xe [(2,.int .u8 ow), (3,.int .u8 gt), (4,.int .u8 id), (10,.bool false), (11,vp b1), (12,vi x), (13,vi y), (14,.pointer (some ⟨p.1, 0, none⟩)), (17,vi 0)] ?_ 1)))))))
   refine Xb 4 (Xp [(2,.int .u8 ow), (3,.int .u8 gt), (4,.int .u8 id), (10,.bool false), (11,vp b1), (12,vi x), (13,vi y), (14,.pointer (some ⟨p.1, 0, none⟩)), (17,vi 0)] ?_)
   refine loopG (fun (i : Nat) => [(2, .int .u8 ow), (3, .int .u8 gt), (4, .int .u8 id), (10, .bool false), (11, vp b1), (12, vi x), (13, vi y), (14, .pointer (some ⟨p.1, 0, none⟩)), (17, vi i)]) (fun (i : Nat) => (wdS p.1 (bC q) p.2 (stW q x c1 c2 i) :: blk b1 26 [vi 8, vi 2, .slice (some ⟨q.ps, 0, none⟩) 2 2, .slice (some ⟨q.ds, 0, none⟩) 4 4] :: bS q :: H)) (fun k (i : Nat) => k + i = c3) c3 0 (by kernel_rfl) (by omega) ?_
   rintro k2 i hki2
   refine Xq (Xq (Xg 5 (Xe [(2,.int .u8 ow), (3,.int .u8 gt), (4,.int .u8 id), (10,.bool false), (11,vp b1), (12,vi x), (13,vi y), (14,.pointer (some ⟨p.1, 0, none⟩)), (17,vi i), (64,.bool (decide ((i : Int) < (IntKind.i64.wrap (Int.tmod id 20)))))] ?_ 5)))
   rw [show IntKind.i64.wrap (Int.tmod id 20) = (c3 : Int) by rw [w64 (by omega) (by omega)]; exact hc3]
   refine Xc (decide ((i : Int) < (c3 : Int))) (fun h3 => ?_) (fun h3 => ?_)
   ·skip
    have hi : i < c3 := by have := of_decide_eq_true h3; omega
    refine Xk (Xq (Xb 5 (Xg 4 (Xr [(2,.int .u8 ow), (3,.int .u8 gt), (4,.int .u8 id), (10,.bool false), (11,vp b1), (12,vi x), (13,vi y), (14,.pointer (some ⟨p.1, 0, none⟩)), (17,vi i), (67,.pointer (some ⟨p.1, 0, none⟩))] ?_ 3 1))))
    refine Xs (Xa (some 68) (fun _ => .pointer (some ⟨p.2.l, 0, none⟩)) (wledger_walk _ p.1 (bC q) p.2 (stW q x c1 c2 i))) (fun _ => ?_) 2
    refine Xr [(68,.pointer (some ⟨p.2.l, 0, none⟩)), (2,.int .u8 ow), (3,.int .u8 gt), (4,.int .u8 id), (10,.bool false), (11,vp b1), (12,vi x), (13,vi y), (14,.pointer (some ⟨p.1, 0, none⟩)), (17,vi i), (69,vi x)] ?_ 1 1
    refine Xs (Xa (some 70) (fun _ => .tuple #[]) ((by have h := wdLed (ι := Unit) (wb := p.1) (c := bC q) (P := p.2) (w := stW q x c1 c2 i) (l' := fun _ => stL x c1 c2 (i + 1)) (fun H => by have h := ldCount_c H p.2.l (stL x c1 c2 i) x (-1) (-1) (st_ok (by omega) (by omega) (by omega)); rw [st_3 hx4] at h; exact h) (blk b1 26 [.int .i64 8, .int .i64 2, .slice (some ⟨q.ps, 0, none⟩) 2 2, .slice (some ⟨q.ds, 0, none⟩) 4 4] :: bS q :: H); exact h))) (fun _ => ?_) 0
    refine endR ?_
    refine Xg 3 (Xe [(2,.int .u8 ow), (3,.int .u8 gt), (4,.int .u8 id), (10,.bool false), (11,vp b1), (12,vi x), (13,vi y), (14,.pointer (some ⟨p.1, 0, none⟩)), (17,vi (IntKind.i64.wrap ((i : Int) + 1)))] ?_ 3)
    rw [show IntKind.i64.wrap ((i : Int) + 1) = ((i : Int) + 1) by rw [w64 (by omega) (by omega)]]
    refine Xp [(2,.int .u8 ow), (3,.int .u8 gt), (4,.int .u8 id), (10,.bool false), (11,vp b1), (12,vi x), (13,vi y), (14,.pointer (some ⟨p.1, 0, none⟩)), (17,vi ((i : Int) + 1))] ?_
    exact againG (k2 - 1) (i + 1) rfl rfl (by omega) (by omega)
   ·skip
    have hi : c3 = i := by have := of_decide_eq_false h3; omega
    subst hi
    obtain ⟨dx, hdx, hlx⟩ := lab4 q hx4
    obtain ⟨dy, hdy, hly⟩ := lab4 q hy4
    have hst := st_stat q hx4 hy4 c1 c2 c3
    rw [hlx, hly] at hst
    refine Xx 4 (thenX (thenX (leaveR (Xq (Xg 11 (Xr [(2,.int .u8 ow), (3,.int .u8 gt), (4,.int .u8 id), (10,.bool false), (11,vp b1), (12,vi x), (13,vi y), (14,.pointer (some ⟨p.1, 0, none⟩)), (72,.pointer (some ⟨p.1, 0, none⟩)), (73,vi y), (75,.agg #[vi 9, vi x, vi 0])] ?_ 7 4))))))
    rcases Bool.eq_false_or_eq_true (labLeq dx.lab dy.lab) with hll | hll
    ·skip
     rw [if_pos hll] at hst
     refine Xs (Xa (some 76) (fun _ => .tuple #[.agg #[vi 0, vi ((c1 : Int) + (c2 : Int)), vi c3], .bool true]) (bAct _ p.1 q p.2 (stW q x c1 c2 c3) hE.up.up (bKC q H).up 2 (wz_B q) (by omega) 5 y (by omega) 1 9 x 0 hst)) (fun _ => ?_) 6
     refine Xr [(2,.int .u8 ow), (3,.int .u8 gt), (4,.int .u8 id), (10,.bool false), (11,vp b1), (12,vi x), (13,vi y), (14,.pointer (some ⟨p.1, 0, none⟩)), (77,.agg #[vi 0, vi ((c1 : Int) + (c2 : Int)), vi c3]), (78,.bool true)] ?_ 3 3
     refine Xs (Xn 31 [vi 0, vi 0, vi 0] (some 18) (fun b => vp b)) (fun b2 => ?_) 2
     refine Xs (Xz [(0,vi 0), (1,vi ((c1 : Int) + (c2 : Int))), (2,vi c3)]) (fun _ => ?_) 1
     refine Xe [(18,vp b2), (2,.int .u8 ow), (3,.int .u8 gt), (4,.int .u8 id), (10,.bool false), (11,vp b1), (12,vi x), (13,vi y), (14,.pointer (some ⟨p.1, 0, none⟩)), (19,.bool true)] ?_ 1
     refine Xq (Xg 10 (Xr [(18,vp b2), (2,.int .u8 ow), (3,.int .u8 gt), (4,.int .u8 id), (10,.bool false), (11,vp b1), (12,vi x), (13,vi y), (19,.bool true), (80,.pointer (some ⟨p.1, 0, none⟩)), (81,vi x), (82,.agg #[vi 8, vi 0, vi 0])] ?_ 7 3))
     refine Xs (Xa (some 83) (fun _ => .tuple #[.agg #[vi 0, vi ((c1 : Int) + (c2 : Int)), vi 0], .bool true]) (chg_at 1 rfl (bAct _ p.1 q p.2 (stW q x c1 c2 c3) hE.up.up.up (bKC q H).up.up 2 (wz_B q) (by omega) 6 x (by omega) 1 8 0 0 (st_clk q hx4 c1 c2 c3)))) (fun _ => ?_) 6
     refine Xr [(18,vp b2), (2,.int .u8 ow), (3,.int .u8 gt), (4,.int .u8 id), (10,.bool false), (11,vp b1), (12,vi x), (13,vi y), (19,.bool true), (84,.agg #[vi 0, vi ((c1 : Int) + (c2 : Int)), vi 0]), (85,.bool true)] ?_ 3 3
     refine Xs (Xn 31 [vi 0, vi 0, vi 0] (some 20) (fun b => vp b)) (fun b3 => ?_) 2
     refine Xs (Xz [(0,vi 0), (1,vi ((c1 : Int) + (c2 : Int))), (2,vi 0)]) (fun _ => ?_) 1
     refine Xe [(20,vp b3), (18,vp b2), (2,.int .u8 ow), (3,.int .u8 gt), (4,.int .u8 id), (10,.bool false), (11,vp b1), (12,vi x), (13,vi y), (19,.bool true)] ?_ 1
     refine Xq (Xg 13 (Xr [(20,vp b3), (18,vp b2), (2,.int .u8 ow), (3,.int .u8 gt), (10,.bool false), (11,vp b1), (12,vi x), (13,vi y), (19,.bool true), (96,.agg #[vi 0, vi (IntKind.i64.wrap ((IntKind.i64.wrap (Int.tmod ow 20)) + (IntKind.i64.wrap (Int.tmod gt 20)))), vi (IntKind.i64.wrap (Int.tmod id 20))])] ?_ 2 11))
     refine Xs (Xn 31 [vi 0, vi 0, vi 0] (some 22) (fun b => vp b)) (fun b4 => ?_) 1
     refine Xs (Xz [(0,vi 0), (1,vi (IntKind.i64.wrap ((IntKind.i64.wrap (Int.tmod ow 20)) + (IntKind.i64.wrap (Int.tmod gt 20))))), (2,vi (IntKind.i64.wrap (Int.tmod id 20)))]) (fun _ => ?_) 0
     refine endR ?_
     refine Xq (Xq (Xy0 0 [] 14 ?_))
     refine Xt [0, 1, 2, 6, 7, 8] [(22,vp b4), (20,vp b3), (18,vp b2), (2,.int .u8 ow), (3,.int .u8 gt), (10,.bool false), (19,.bool true), (98,.slice (some ⟨q.ds, 0, none⟩) 4 4), (99,vi x), (104,.slice (some ⟨q.ds, 0, none⟩) 4 4), (105,vi y)] [(⟨b1, 3, none⟩, .slice (some ⟨q.ds, 0, none⟩) 4 4), (⟨b1, 3, none⟩, .slice (some ⟨q.ds, 0, none⟩) 4 4)] (hasC (ba 4) (hasC (ba 4) has0)) ?_
     refine Xu 3 (Xi 24 (.tmp 98) (.tmp 99) q.ds 0 4 4 x 10 44 (x : Int) 100 Tryz.underlying24) ?_
     refine Xt [4, 5] [(22,vp b4), (20,vp b3), (18,vp b2), (2,.int .u8 ow), (3,.int .u8 gt), (10,.bool false), (19,.bool true), (104,.slice (some ⟨q.ds, 0, none⟩) 4 4), (105,vi y), (102,.agg #[vi dx.lab.level, .int .u64 dx.lab.cats])] [(⟨q.ds, 0 + x * 10, none⟩, vi dx.lab.level), (⟨q.ds, 0 + x * 10 + 1, none⟩, .int .u64 dx.lab.cats)] (hasC (up (up (((bKC q H).up.up.up).domains.cell rfl (i := x) (x := dx) hdx (j := 0) rfl))) (hasC (up (up (((bKC q H).up.up.up).domains.cell rfl (i := x) (x := dx) hdx (j := 1) rfl))) has0)) ?_
     refine Xu 9 (Xi 24 (.tmp 104) (.tmp 105) q.ds 0 4 4 y 10 44 (y : Int) 106 Tryz.underlying24) ?_
     refine Xt [10, 11] [(22,vp b4), (20,vp b3), (18,vp b2), (2,.int .u8 ow), (3,.int .u8 gt), (10,.bool false), (19,.bool true), (102,.agg #[vi dx.lab.level, .int .u64 dx.lab.cats]), (108,.agg #[vi dy.lab.level, .int .u64 dy.lab.cats])] [(⟨q.ds, 0 + y * 10, none⟩, vi dy.lab.level), (⟨q.ds, 0 + y * 10 + 1, none⟩, .int .u64 dy.lab.cats)] (hasC (up (up (((bKC q H).up.up.up).domains.cell rfl (i := y) (x := dy) hdy (j := 0) rfl))) (hasC (up (up (((bKC q H).up.up.up).domains.cell rfl (i := y) (x := dy) hdy (j := 1) rfl))) has0)) ?_
     refine Xo 12 (Xa (some 109) (fun _ => .bool (labLeq dx.lab dy.lab)) (rlabLeq_walk _ dx.lab dy.lab)) (fun _ => ?_)
     refine Xt [13] [(22,vp b4), (20,vp b3), (18,vp b2), (2,.int .u8 ow), (3,.int .u8 gt), (10,.bool false), (19,.bool true), (110,.bool (!(labLeq dx.lab dy.lab)))] [] has0 ?_
     refine Xd ?_
     rw [show IntKind.i64.wrap (Int.tmod ow 20) = (c1 : Int) by rw [w64 (by omega) (by omega)]; exact hc1]
     rw [show IntKind.i64.wrap (Int.tmod gt 20) = (c2 : Int) by rw [w64 (by omega) (by omega)]; exact hc2]
     rw [show IntKind.i64.wrap (Int.tmod id 20) = (c3 : Int) by rw [w64 (by omega) (by omega)]; exact hc3]
     rw [show IntKind.i64.wrap ((c1 : Int) + (c2 : Int)) = ((c1 : Int) + (c2 : Int)) by rw [w64 (by omega) (by omega)]]
     rw [show (labLeq dx.lab dy.lab) = true from hll]
     refine Xc false (fun h => by cases h) (fun _ => ?_)
     refine Xk (Xq (Xg 19 (Xl [(20,vp b3), (2,.int .u8 ow), (3,.int .u8 gt), (10,.bool false), (113,.bool true), (114,.agg #[vi 0, vi ((c1 : Int) + (c2 : Int)), vi c3]), (115,.agg #[vi 0, vi ((c1 : Int) + (c2 : Int)), vi c3])] [(⟨b2, 0, none⟩, vi 0), (⟨b2, 1, none⟩, vi ((c1 : Int) + (c2 : Int))), (⟨b2, 2, none⟩, vi c3), (⟨b4, 0, none⟩, vi 0), (⟨b4, 1, none⟩, vi ((c1 : Int) + (c2 : Int))), (⟨b4, 2, none⟩, vi c3)] (hasC (ba 2) (hasC (ba 2) (hasC (ba 2) (hasC (ba 0) (hasC (ba 0) (hasC (ba 0) has0)))))) ?_ 15 4)))
     refine Xs (yldS (eqY0 31 31 (.tmp 114) (.tmp 115) [.int .i64 0, .int .i64 ((c1 : Int) + (c2 : Int)), .int .i64 (c3 : Int)] [.int .i64 0, .int .i64 ((c1 : Int) + (c2 : Int)), .int .i64 (c3 : Int)] true 116 (hb := by simp [eqCs, eqC]))) (fun _ => ?_) 14
     refine Xl [(10,.bool false), (118,.bool true), (119,.agg #[vi 0, vi ((c1 : Int) + (c2 : Int)), vi 0]), (127,.agg #[vi 0, vi (IntKind.i64.wrap ((IntKind.i64.wrap (Int.tmod ow 20)) + (IntKind.i64.wrap (Int.tmod gt 20)))), vi 0])] [(⟨b3, 0, none⟩, vi 0), (⟨b3, 1, none⟩, vi ((c1 : Int) + (c2 : Int))), (⟨b3, 2, none⟩, vi 0)] (hasC (ba 1) (hasC (ba 1) (hasC (ba 1) has0))) ?_ 3 11
     refine Xs (yldS (eqY0 31 31 (.tmp 119) (.tmp 127) [.int .i64 0, .int .i64 ((c1 : Int) + (c2 : Int)), .int .i64 0] [.int .i64 0, .int .i64 (IntKind.i64.wrap ((IntKind.i64.wrap (Int.tmod ow 20)) + (IntKind.i64.wrap (Int.tmod gt 20)))), .int .i64 0] ((((c1 : Int) + (c2 : Int)) == (IntKind.i64.wrap ((IntKind.i64.wrap (Int.tmod ow 20)) + (IntKind.i64.wrap (Int.tmod gt 20))))) && true) 128)) (fun _ => ?_) 2
     refine Xe [(10,.bool ((((c1 : Int) + (c2 : Int)) == (IntKind.i64.wrap ((IntKind.i64.wrap (Int.tmod ow 20)) + (IntKind.i64.wrap (Int.tmod gt 20))))) && true))] ?_ 2
     refine Xv (Y0 (.bool ((((c1 : Int) + (c2 : Int)) == (IntKind.i64.wrap ((IntKind.i64.wrap (Int.tmod ow 20)) + (IntKind.i64.wrap (Int.tmod gt 20))))) && true)) (fun w hs => ?_))
     exact ⟨(), by rw [hw]; simp, Sat.right (R := [_, _, _, _, _, _]) hs⟩
    ·skip
     rw [if_neg (by rw [hll]; simp)] at hst
     refine Xs (Xa (some 76) (fun _ => .tuple #[.agg #[vi 15, vi 0, vi 0], .bool true]) (bAct _ p.1 q p.2 (stW q x c1 c2 c3) hE.up.up (bKC q H).up 2 (wz_B q) (by omega) 5 y (by omega) 1 9 x 0 hst)) (fun _ => ?_) 6
     refine Xr [(2,.int .u8 ow), (3,.int .u8 gt), (4,.int .u8 id), (10,.bool false), (11,vp b1), (12,vi x), (13,vi y), (14,.pointer (some ⟨p.1, 0, none⟩)), (77,.agg #[vi 15, vi 0, vi 0]), (78,.bool true)] ?_ 3 3
     refine Xs (Xn 31 [vi 0, vi 0, vi 0] (some 18) (fun b => vp b)) (fun b2 => ?_) 2
     refine Xs (Xz [(0,vi 15), (1,vi 0), (2,vi 0)]) (fun _ => ?_) 1
     refine Xe [(18,vp b2), (2,.int .u8 ow), (3,.int .u8 gt), (4,.int .u8 id), (10,.bool false), (11,vp b1), (12,vi x), (13,vi y), (14,.pointer (some ⟨p.1, 0, none⟩)), (19,.bool true)] ?_ 1
     refine Xq (Xg 10 (Xr [(18,vp b2), (2,.int .u8 ow), (3,.int .u8 gt), (4,.int .u8 id), (10,.bool false), (11,vp b1), (12,vi x), (13,vi y), (19,.bool true), (80,.pointer (some ⟨p.1, 0, none⟩)), (81,vi x), (82,.agg #[vi 8, vi 0, vi 0])] ?_ 7 3))
     refine Xs (Xa (some 83) (fun _ => .tuple #[.agg #[vi 0, vi ((c1 : Int) + (c2 : Int)), vi 0], .bool true]) (chg_at 1 rfl (bAct _ p.1 q p.2 (stW q x c1 c2 c3) hE.up.up.up (bKC q H).up.up 2 (wz_B q) (by omega) 6 x (by omega) 1 8 0 0 (st_clk q hx4 c1 c2 c3)))) (fun _ => ?_) 6
     refine Xr [(18,vp b2), (2,.int .u8 ow), (3,.int .u8 gt), (4,.int .u8 id), (10,.bool false), (11,vp b1), (12,vi x), (13,vi y), (19,.bool true), (84,.agg #[vi 0, vi ((c1 : Int) + (c2 : Int)), vi 0]), (85,.bool true)] ?_ 3 3
     refine Xs (Xn 31 [vi 0, vi 0, vi 0] (some 20) (fun b => vp b)) (fun b3 => ?_) 2
     refine Xs (Xz [(0,vi 0), (1,vi ((c1 : Int) + (c2 : Int))), (2,vi 0)]) (fun _ => ?_) 1
     refine Xe [(20,vp b3), (18,vp b2), (2,.int .u8 ow), (3,.int .u8 gt), (4,.int .u8 id), (10,.bool false), (11,vp b1), (12,vi x), (13,vi y), (19,.bool true)] ?_ 1
     refine Xq (Xg 13 (Xr [(20,vp b3), (18,vp b2), (2,.int .u8 ow), (3,.int .u8 gt), (10,.bool false), (11,vp b1), (12,vi x), (13,vi y), (19,.bool true), (96,.agg #[vi 0, vi (IntKind.i64.wrap ((IntKind.i64.wrap (Int.tmod ow 20)) + (IntKind.i64.wrap (Int.tmod gt 20)))), vi (IntKind.i64.wrap (Int.tmod id 20))])] ?_ 2 11))
     refine Xs (Xn 31 [vi 0, vi 0, vi 0] (some 22) (fun b => vp b)) (fun b4 => ?_) 1
     refine Xs (Xz [(0,vi 0), (1,vi (IntKind.i64.wrap ((IntKind.i64.wrap (Int.tmod ow 20)) + (IntKind.i64.wrap (Int.tmod gt 20))))), (2,vi (IntKind.i64.wrap (Int.tmod id 20)))]) (fun _ => ?_) 0
     refine endR ?_
     refine Xq (Xq (Xy0 0 [] 14 ?_))
     refine Xt [0, 1, 2, 6, 7, 8] [(22,vp b4), (20,vp b3), (18,vp b2), (2,.int .u8 ow), (3,.int .u8 gt), (10,.bool false), (19,.bool true), (98,.slice (some ⟨q.ds, 0, none⟩) 4 4), (99,vi x), (104,.slice (some ⟨q.ds, 0, none⟩) 4 4), (105,vi y)] [(⟨b1, 3, none⟩, .slice (some ⟨q.ds, 0, none⟩) 4 4), (⟨b1, 3, none⟩, .slice (some ⟨q.ds, 0, none⟩) 4 4)] (hasC (ba 4) (hasC (ba 4) has0)) ?_
     refine Xu 3 (Xi 24 (.tmp 98) (.tmp 99) q.ds 0 4 4 x 10 44 (x : Int) 100 Tryz.underlying24) ?_
     refine Xt [4, 5] [(22,vp b4), (20,vp b3), (18,vp b2), (2,.int .u8 ow), (3,.int .u8 gt), (10,.bool false), (19,.bool true), (104,.slice (some ⟨q.ds, 0, none⟩) 4 4), (105,vi y), (102,.agg #[vi dx.lab.level, .int .u64 dx.lab.cats])] [(⟨q.ds, 0 + x * 10, none⟩, vi dx.lab.level), (⟨q.ds, 0 + x * 10 + 1, none⟩, .int .u64 dx.lab.cats)] (hasC (up (up (((bKC q H).up.up.up).domains.cell rfl (i := x) (x := dx) hdx (j := 0) rfl))) (hasC (up (up (((bKC q H).up.up.up).domains.cell rfl (i := x) (x := dx) hdx (j := 1) rfl))) has0)) ?_
     refine Xu 9 (Xi 24 (.tmp 104) (.tmp 105) q.ds 0 4 4 y 10 44 (y : Int) 106 Tryz.underlying24) ?_
     refine Xt [10, 11] [(22,vp b4), (20,vp b3), (18,vp b2), (2,.int .u8 ow), (3,.int .u8 gt), (10,.bool false), (19,.bool true), (102,.agg #[vi dx.lab.level, .int .u64 dx.lab.cats]), (108,.agg #[vi dy.lab.level, .int .u64 dy.lab.cats])] [(⟨q.ds, 0 + y * 10, none⟩, vi dy.lab.level), (⟨q.ds, 0 + y * 10 + 1, none⟩, .int .u64 dy.lab.cats)] (hasC (up (up (((bKC q H).up.up.up).domains.cell rfl (i := y) (x := dy) hdy (j := 0) rfl))) (hasC (up (up (((bKC q H).up.up.up).domains.cell rfl (i := y) (x := dy) hdy (j := 1) rfl))) has0)) ?_
     refine Xo 12 (Xa (some 109) (fun _ => .bool (labLeq dx.lab dy.lab)) (rlabLeq_walk _ dx.lab dy.lab)) (fun _ => ?_)
     refine Xt [13] [(22,vp b4), (20,vp b3), (18,vp b2), (2,.int .u8 ow), (3,.int .u8 gt), (10,.bool false), (19,.bool true), (110,.bool (!(labLeq dx.lab dy.lab)))] [] has0 ?_
     refine Xd ?_
     rw [show IntKind.i64.wrap (Int.tmod ow 20) = (c1 : Int) by rw [w64 (by omega) (by omega)]; exact hc1]
     rw [show IntKind.i64.wrap (Int.tmod gt 20) = (c2 : Int) by rw [w64 (by omega) (by omega)]; exact hc2]
     rw [show IntKind.i64.wrap (Int.tmod id 20) = (c3 : Int) by rw [w64 (by omega) (by omega)]; exact hc3]
     rw [show IntKind.i64.wrap ((c1 : Int) + (c2 : Int)) = ((c1 : Int) + (c2 : Int)) by rw [w64 (by omega) (by omega)]]
     rw [show (labLeq dx.lab dy.lab) = false from hll]
     refine Xc true (fun _ => ?_) (fun h => by cases h)
     refine Xg 2 (Xr [(22,vp b4), (20,vp b3), (18,vp b2), (2,.int .u8 ow), (3,.int .u8 gt), (10,.bool false), (19,.bool true), (111,.agg #[vi 15, vi 0, vi 0])] ?_ 1 1)
     refine Xs (Xz [(0,vi 15), (1,vi 0), (2,vi 0)]) (fun _ => ?_) 0
     refine endR ?_
     refine Xq (Xg 19 (Xl [(20,vp b3), (2,.int .u8 ow), (3,.int .u8 gt), (10,.bool false), (113,.bool true), (114,.agg #[vi 15, vi 0, vi 0]), (115,.agg #[vi 15, vi 0, vi 0])] [(⟨b2, 0, none⟩, vi 15), (⟨b2, 1, none⟩, vi 0), (⟨b2, 2, none⟩, vi 0), (⟨b4, 0, none⟩, vi 15), (⟨b4, 1, none⟩, vi 0), (⟨b4, 2, none⟩, vi 0)] (hasC (ba 2) (hasC (ba 2) (hasC (ba 2) (hasC (ba 0) (hasC (ba 0) (hasC (ba 0) has0)))))) ?_ 15 4))
     refine Xs (yldS (eqY0 31 31 (.tmp 114) (.tmp 115) [.int .i64 15, .int .i64 0, .int .i64 0] [.int .i64 15, .int .i64 0, .int .i64 0] true 116)) (fun _ => ?_) 14
     refine Xl [(10,.bool false), (118,.bool true), (119,.agg #[vi 0, vi ((c1 : Int) + (c2 : Int)), vi 0]), (127,.agg #[vi 0, vi (IntKind.i64.wrap ((IntKind.i64.wrap (Int.tmod ow 20)) + (IntKind.i64.wrap (Int.tmod gt 20)))), vi 0])] [(⟨b3, 0, none⟩, vi 0), (⟨b3, 1, none⟩, vi ((c1 : Int) + (c2 : Int))), (⟨b3, 2, none⟩, vi 0)] (hasC (ba 1) (hasC (ba 1) (hasC (ba 1) has0))) ?_ 3 11
     refine Xs (yldS (eqY0 31 31 (.tmp 119) (.tmp 127) [.int .i64 0, .int .i64 ((c1 : Int) + (c2 : Int)), .int .i64 0] [.int .i64 0, .int .i64 (IntKind.i64.wrap ((IntKind.i64.wrap (Int.tmod ow 20)) + (IntKind.i64.wrap (Int.tmod gt 20)))), .int .i64 0] ((((c1 : Int) + (c2 : Int)) == (IntKind.i64.wrap ((IntKind.i64.wrap (Int.tmod ow 20)) + (IntKind.i64.wrap (Int.tmod gt 20))))) && true) 128)) (fun _ => ?_) 2
     refine Xe [(10,.bool ((((c1 : Int) + (c2 : Int)) == (IntKind.i64.wrap ((IntKind.i64.wrap (Int.tmod ow 20)) + (IntKind.i64.wrap (Int.tmod gt 20))))) && true))] ?_ 2
     refine Xv (Y0 (.bool ((((c1 : Int) + (c2 : Int)) == (IntKind.i64.wrap ((IntKind.i64.wrap (Int.tmod ow 20)) + (IntKind.i64.wrap (Int.tmod gt 20))))) && true)) (fun w hs => ?_))
     exact ⟨(), by rw [hw]; simp, Sat.right (R := [_, _, _, _, _, _]) hs⟩
theorem stats_row (W : World) (hE : W.cell? ⟨0, 0, none⟩ = some errT) (a b c d e : Int) (ha : (Lit.int .u8 a).wf = true) (hb : (Lit.int .u8 b).wf = true) (hc : (Lit.int .u8 c).wf = true) (hd : (Lit.int .u8 d).wf = true) (he : (Lit.int .u8 e).wf = true) : Calls Tryz.prog 6 #[.int .u8 a, .int .u8 b, .int .u8 c, .int .u8 d, .int .u8 e] W (LawPost W) :=
 lawPost (fun _ _ h => h) (stats21 [old W] (EK.old 0 rfl hE) a b c d e (u8_wf ha) (u8_wf hb) (u8_wf hc) (u8_wf hd) (u8_wf he) W (Sat.start W))
end Go.Proofs.YtfhkgohokbkgiaaGreatDoor
