/- Texts put together: WorldRecords: its walk. Conditions: none. -/
import Derived.Test.YtfhkgohokbkgiaaGreatDoorMgWb6
set_option linter.unusedVariables false
set_option linter.unusedSimpArgs false
namespace Go.Proofs.YtfhkgohokbkgiaaGreatDoor
open Go.RowKit G
theorem sdAt_up (z : WS) (d : Nat) (x : SdS) (e : Nat) : sdAt (wUp z d x) e = if d = e ∧ d < z.s.length then x else sdAt z e := by
 unfold sdAt wUp
 rw [List.getD_eq_getElem?_getD, List.getD_eq_getElem?_getD, List.getElem?_set]
 by_cases h : d = e
 ·subst h
  rw [if_pos rfl]
  by_cases h2 : d < z.s.length
  ·rw [if_pos h2, if_pos ⟨rfl, h2⟩]; rfl
  ·rw [if_neg h2, if_neg (by simp [h2]), List.getElem?_eq_none (by omega)]
 ·rw [if_neg h, if_neg (by simp [h])]
theorem up_r {z : WS} {d : Nat} {x : SdS} (hx : x.r = (sdAt z d).r) (e : Nat) : (sdAt (wUp z d x) e).r = (sdAt z e).r := by
 rw [sdAt_up]
 split
 ·rename_i h; rw [hx, h.1]
 ·rfl
theorem wDoes_r (c : ConfV) (z : WS) (tick : Int) (d : Nat) (th op a b : Int) (e : Nat) : (sdAt (wDoes c z tick d th op a b).2 e).r = (sdAt z e).r := by
 unfold wDoes
 split
 ·rfl
 split
 ·rfl
 split
 ·unfold wAudit; split
  ·split
   ·refine up_r ?_ e; rfl
   ·rfl
  ·rfl
 split
 ·unfold wSend; split
  ·split
   ·rfl
   ·refine (up_r ?_ e).trans (up_r ?_ e) <;> rfl
  ·rfl
 split
 ·unfold wRecv; split
  ·refine up_r ?_ e; rfl
  ·rfl
 split
 ·unfold wLevel; split <;> rfl
 split
 ·unfold wPlan; split <;> rfl
 ·refine up_r ?_ e; rfl
theorem wKeep_r (z : WS) (d : Nat) (tick op code : Int) (e : Nat) (hd : d < z.s.length) : (sdAt (wKeep z d tick op code) e).r = if d = e ∧ isKept op = true then rgAdd (sdAt z e).r tick op code else (sdAt z e).r := by
 unfold wKeep
 by_cases h : isKept op = true
 ·rw [if_pos h, sdAt_up]
  by_cases h2 : d = e
  ·subst h2; rw [if_pos ⟨rfl, hd⟩, if_pos ⟨rfl, h⟩]
  ·rw [if_neg (by simp [h2]), if_neg (by simp [h2])]
 ·rw [if_neg h, if_neg (by simp [h])]
theorem wDoes_op (c : ConfV) (z : WS) (tick : Int) (d : Nat) (th op a b : Int) (h : 14 < op) : (wDoes c z tick d th op a b).1 = ((0, 0), 16) := by
 unfold wDoes kAct
 repeat rw [if_neg (by omega)]
theorem wz_r (q : BA) {e : Nat} (h : e < 4) : (sdAt (wz q) e).r = ⟨[], 4, 0⟩ := by
 rcases four h with rfl | rfl | rfl | rfl <;> rfl
theorem re_all (q : BA) {x : Nat} (hx : x < 4) (o a b : Int) : ∃ r0 r1 r2 z', wAct (bC q) (wz q) 7 x 1 o a b = (((r0, r1, r2), !(o == 0)), z') ∧ WdB z' 3 ∧ (sdAt z' x).r.l = (if isKept o = true then [(1, 7, o, r0)] else []) ∧ (∀ y : Nat, y < 4 → y ≠ x → (sdAt z' y).r.l = []) ∧ (14 < o → r0 = 16 ∧ r1 = 0 ∧ r2 = 0) := by
 refine ⟨_, _, _, (wAct (bC q) (wz q) 7 x 1 o a b).2, Prod.ext (Prod.ext rfl ?_) rfl, wAct_B (wz_B q) (by omega) 7 x 1 o a b, ?_, fun y hy hne => ?_, fun h => ?_⟩
 ·unfold wAct; split
  ·rename_i h; subst h; rfl
  ·rename_i h; rw [beq_eq_false_iff_ne.2 h]; rfl
 ·unfold wAct; split
  ·rename_i h; subst h; rw [if_neg (by decide), wz_r q hx]
  ·show (sdAt (wKeep _ x 7 o _) x).r.l = _
   rw [wKeep_r _ _ _ _ _ _ (by rw [wDoes_len]; exact hx), wDoes_r, wz_r q hx]
   by_cases hk : isKept o = true
   ·rw [if_pos ⟨rfl, hk⟩, if_pos hk]; rfl
   ·rw [if_neg (by simp [hk]), if_neg hk]
 ·unfold wAct; split
  ·rw [wz_r q hy]
  ·show (sdAt (wKeep _ x 7 o _) y).r.l = _
   rw [wKeep_r _ _ _ _ _ _ (by rw [wDoes_len]; exact hx), wDoes_r, wz_r q hy, if_neg (by simp [Ne.symm hne])]
 ·have e : (wAct (bC q) (wz q) 7 x 1 o a b).1.1 = (16, 0, 0) := by
   unfold wAct; rw [if_neg (by omega)]
   show wSays _ = _
   rw [wDoes_op _ _ _ _ _ _ _ _ h]; rfl
  exact ⟨congrArg (·.1) e, congrArg (·.2.1) e, congrArg (·.2.2) e⟩
theorem re_tst {o r0 r1 r2 : Int} (h : 14 < o → r0 = 16 ∧ r1 = 0 ∧ r2 = 0) : (((!(o == 0)) != (o != 0)) || ((decide (o > 14)) && (!((r0 == 16) && ((r1 == 0) && (r2 == 0)))))) = false := by
 have e : (!(o == 0)) = (o != 0) := rfl
 by_cases h1 : 14 < o
 ·obtain ⟨rfl, rfl, rfl⟩ := h h1; simp [e]
 ·simp [h1, e]
set_option maxHeartbeats 1000000 in
set_option maxRecDepth 100000 in
theorem records21 (H : List SP) (hE : EK H) (p0 a b d : Int) (hp : 0 ≤ p0 ∧ p0 < 256) (ha : 0 ≤ a ∧ a < 256) (hb : 0 ≤ b ∧ b < 256) (hd : 0 ≤ d ∧ d < 256) : ∀ w, Sat w H → Calls Tryz.prog 4 #[.int .u8 p0, .int .u8 a, .int .u8 b, .int .u8 d] w (Ret (ι := Unit) (fun _ => .bool true) fun _ => H) := by
 have hd1 := tmod_range hd.1 (m := 4) (by omega)
 have hp1 := tmod_range hp.1 (m := 18) (by omega)
 obtain ⟨x, hx⟩ : ∃ x : Nat, Int.tmod d 4 = (x : Int) := ⟨(Int.tmod d 4).toNat, by omega⟩
 obtain ⟨o, ho⟩ : ∃ o : Int, Int.tmod p0 18 = o := ⟨_, rfl⟩
 have hx4 : x < 4 := by omega
 refine enterG (fn := Tryz.f4) 113 [.int .u8 p0, .int .u8 a, .int .u8 b, .int .u8 d] Tryz.func4 (by kernel_rfl) (by kernel_rfl) (by kernel_rfl) ?_
 refine Xq (Xg 1 (Xe [(0,.int .u8 p0), (1,.int .u8 a), (2,.int .u8 b), (3,.int .u8 d), (8,.bool false)] ?_ 1))
 refine Xq (Xq (Xg 2 (Xs (Xa (some 17) (fun _ => .bool true) (known21 _ hE)) (fun _ => ?_) 1)))
 refine Xe [(0,.int .u8 p0), (1,.int .u8 a), (2,.int .u8 b), (3,.int .u8 d), (8,.bool false), (18,.bool false)] ?_ 1
 refine Xc false (fun h => by cases h) (fun _ => ?_)
 refine Xk (Xq (Xg 3 (Xs (Xa (some 19) (fun (q : BA) => .agg #[vi 8, vi 2, .slice (some ⟨q.ps, 0, none⟩) 2 2, .slice (some ⟨q.ds, 0, none⟩) 4 4]) (base_walk _)) (fun (q : BA) => ?_) 2)))
 refine Xs (Xa (some 20) (fun (p : Nat × WP) => .pointer (some ⟨p.1, 0, none⟩)) (wnew_walk _ (bC q) (bKC q _) (by show 4 ≤ 6; omega))) (fun (p : Nat × WP) => ?_) 1
 obtain ⟨r0, r1, r2, z, hr, hzB, hown, hoth, hop⟩ := re_all q hx4 o a b
 refine Xe [(0,.int .u8 p0), (1,.int .u8 a), (2,.int .u8 b), (3,.int .u8 d), (8,.bool false), (9,.pointer (some ⟨p.1, 0, none⟩))] ?_ 1
 refine Xq (Xg 4 (Xe [(0,.int .u8 p0), (1,.int .u8 a), (2,.int .u8 b), (8,.bool false), (9,.pointer (some ⟨p.1, 0, none⟩)), (10,vi (IntKind.i64.wrap (Int.tmod d 4)))] ?_ 4))
 refine Xq (Xg 4 (Xe [(1,.int .u8 a), (2,.int .u8 b), (8,.bool false), (9,.pointer (some ⟨p.1, 0, none⟩)), (10,vi (IntKind.i64.wrap (Int.tmod d 4))), (11,vi (IntKind.i64.wrap (Int.tmod p0 18)))] ?_ 4))
 refine Xq (Xg 15 (Xr [(8,.bool false), (9,.pointer (some ⟨p.1, 0, none⟩)), (10,vi (IntKind.i64.wrap (Int.tmod d 4))), (11,vi (IntKind.i64.wrap (Int.tmod p0 18))), (28,.pointer (some ⟨p.1, 0, none⟩)), (29,vi (IntKind.i64.wrap (Int.tmod d 4))), (35,.agg #[vi (IntKind.i64.wrap (Int.tmod p0 18)), vi (IntKind.i64.wrap a), vi (IntKind.i64.wrap b)])] ?_ 7 8))
 rw [show IntKind.i64.wrap (Int.tmod d 4) = (x : Int) by rw [w64 (by omega) (by omega)]; exact hx]
 rw [show IntKind.i64.wrap (Int.tmod p0 18) = o by rw [w64 (by omega) (by omega)]; exact ho]
 rw [show IntKind.i64.wrap a = a by rw [w64 (by omega) (by omega)]]
 rw [show IntKind.i64.wrap b = b by rw [w64 (by omega) (by omega)]]
 refine Xs (Xa (some 36) (fun _ => .tuple #[.agg #[vi r0, vi r1, vi r2], .bool (!(o == 0))]) (bAct _ p.1 q p.2 (wz q) hE.up (bKC q H) 2 (wz_B q) (by omega) 7 x hx4 1 o a b hr)) (fun _ => ?_) 6
 refine Xr [(8,.bool false), (9,.pointer (some ⟨p.1, 0, none⟩)), (10,vi x), (11,vi o), (37,.agg #[vi r0, vi r1, vi r2]), (38,.bool (!(o == 0)))] ?_ 3 3
 refine Xs (Xn 31 [vi 0, vi 0, vi 0] (some 12) (fun b => vp b)) (fun b1 => ?_) 2
 refine Xs (Xz [(0,vi r0), (1,vi r1), (2,vi r2)]) (fun _ => ?_) 1
 refine Xe [(12,vp b1), (8,.bool false), (9,.pointer (some ⟨p.1, 0, none⟩)), (10,vi x), (11,vi o), (13,.bool (!(o == 0)))] ?_ 1
 refine Xq (Xg 27 (Xr [(12,vp b1), (8,.bool false), (9,.pointer (some ⟨p.1, 0, none⟩)), (10,vi x), (11,vi o), (13,.bool (!(o == 0))), (41,.bool (o == 1))] ?_ 24 3))
 refine (Xs0 21 3 [(12,vp b1), (8,.bool false), (9,.pointer (some ⟨p.1, 0, none⟩)), (10,vi x), (11,vi o), (13,.bool (!(o == 0))), (44,.bool ((o == 1) || (o == 2)))] ?_ ?_ : RT _ _ _ _ _ _ 24 _)
 ·cases hg3 : (o == 1) with
  | true =>
   refine Xe [(12,vp b1), (8,.bool false), (9,.pointer (some ⟨p.1, 0, none⟩)), (10,vi x), (11,vi o), (13,.bool (!(o == 0))), (44,.bool true)] ?_ 3
   refine Xp [(12,vp b1), (8,.bool false), (9,.pointer (some ⟨p.1, 0, none⟩)), (10,vi x), (11,vi o), (13,.bool (!(o == 0))), (44,.bool (true || (o == 2)))] ?_
   exact midR () rfl rfl
  | false =>
   refine Xe [(12,vp b1), (8,.bool false), (9,.pointer (some ⟨p.1, 0, none⟩)), (10,vi x), (11,vi o), (13,.bool (!(o == 0))), (44,.bool (o == 2))] ?_ 3
   refine Xp [(12,vp b1), (8,.bool false), (9,.pointer (some ⟨p.1, 0, none⟩)), (10,vi x), (11,vi o), (13,.bool (!(o == 0))), (44,.bool (false || (o == 2)))] ?_
   exact midR () rfl rfl
 refine Xr [(12,vp b1), (8,.bool false), (9,.pointer (some ⟨p.1, 0, none⟩)), (10,vi x), (11,vi o), (13,.bool (!(o == 0))), (45,.bool ((o == 1) || (o == 2)))] ?_ 20 1
 refine (Xs0 17 3 [(12,vp b1), (8,.bool false), (9,.pointer (some ⟨p.1, 0, none⟩)), (10,vi x), (11,vi o), (13,.bool (!(o == 0))), (48,.bool (((o == 1) || (o == 2)) || (o == 3)))] ?_ ?_ : RT _ _ _ _ _ _ 20 _)
 ·cases hg7 : ((o == 1) || (o == 2)) with
  | true =>
   refine Xe [(12,vp b1), (8,.bool false), (9,.pointer (some ⟨p.1, 0, none⟩)), (10,vi x), (11,vi o), (13,.bool (!(o == 0))), (48,.bool true)] ?_ 3
   refine Xp [(12,vp b1), (8,.bool false), (9,.pointer (some ⟨p.1, 0, none⟩)), (10,vi x), (11,vi o), (13,.bool (!(o == 0))), (48,.bool (true || (o == 3)))] ?_
   exact midR () rfl rfl
  | false =>
   refine Xe [(12,vp b1), (8,.bool false), (9,.pointer (some ⟨p.1, 0, none⟩)), (10,vi x), (11,vi o), (13,.bool (!(o == 0))), (48,.bool (o == 3))] ?_ 3
   refine Xp [(12,vp b1), (8,.bool false), (9,.pointer (some ⟨p.1, 0, none⟩)), (10,vi x), (11,vi o), (13,.bool (!(o == 0))), (48,.bool (false || (o == 3)))] ?_
   exact midR () rfl rfl
 refine Xr [(12,vp b1), (8,.bool false), (9,.pointer (some ⟨p.1, 0, none⟩)), (10,vi x), (11,vi o), (13,.bool (!(o == 0))), (49,.bool (((o == 1) || (o == 2)) || (o == 3)))] ?_ 16 1
 refine (Xs0 13 3 [(12,vp b1), (8,.bool false), (9,.pointer (some ⟨p.1, 0, none⟩)), (10,vi x), (11,vi o), (13,.bool (!(o == 0))), (52,.bool ((((o == 1) || (o == 2)) || (o == 3)) || (o == 7)))] ?_ ?_ : RT _ _ _ _ _ _ 16 _)
 ·cases hg11 : (((o == 1) || (o == 2)) || (o == 3)) with
  | true =>
   refine Xe [(12,vp b1), (8,.bool false), (9,.pointer (some ⟨p.1, 0, none⟩)), (10,vi x), (11,vi o), (13,.bool (!(o == 0))), (52,.bool true)] ?_ 3
   refine Xp [(12,vp b1), (8,.bool false), (9,.pointer (some ⟨p.1, 0, none⟩)), (10,vi x), (11,vi o), (13,.bool (!(o == 0))), (52,.bool (true || (o == 7)))] ?_
   exact midR () rfl rfl
  | false =>
   refine Xe [(12,vp b1), (8,.bool false), (9,.pointer (some ⟨p.1, 0, none⟩)), (10,vi x), (11,vi o), (13,.bool (!(o == 0))), (52,.bool (o == 7))] ?_ 3
   refine Xp [(12,vp b1), (8,.bool false), (9,.pointer (some ⟨p.1, 0, none⟩)), (10,vi x), (11,vi o), (13,.bool (!(o == 0))), (52,.bool (false || (o == 7)))] ?_
   exact midR () rfl rfl
 refine Xr [(12,vp b1), (8,.bool false), (9,.pointer (some ⟨p.1, 0, none⟩)), (10,vi x), (11,vi o), (13,.bool (!(o == 0))), (53,.bool ((((o == 1) || (o == 2)) || (o == 3)) || (o == 7)))] ?_ 12 1
 refine (Xs0 9 3 [(12,vp b1), (8,.bool false), (9,.pointer (some ⟨p.1, 0, none⟩)), (10,vi x), (11,vi o), (13,.bool (!(o == 0))), (56,.bool (((((o == 1) || (o == 2)) || (o == 3)) || (o == 7)) || (o == 11)))] ?_ ?_ : RT _ _ _ _ _ _ 12 _)
 ·cases hg15 : ((((o == 1) || (o == 2)) || (o == 3)) || (o == 7)) with
  | true =>
   refine Xe [(12,vp b1), (8,.bool false), (9,.pointer (some ⟨p.1, 0, none⟩)), (10,vi x), (11,vi o), (13,.bool (!(o == 0))), (56,.bool true)] ?_ 3
   refine Xp [(12,vp b1), (8,.bool false), (9,.pointer (some ⟨p.1, 0, none⟩)), (10,vi x), (11,vi o), (13,.bool (!(o == 0))), (56,.bool (true || (o == 11)))] ?_
   exact midR () rfl rfl
  | false =>
   refine Xe [(12,vp b1), (8,.bool false), (9,.pointer (some ⟨p.1, 0, none⟩)), (10,vi x), (11,vi o), (13,.bool (!(o == 0))), (56,.bool (o == 11))] ?_ 3
   refine Xp [(12,vp b1), (8,.bool false), (9,.pointer (some ⟨p.1, 0, none⟩)), (10,vi x), (11,vi o), (13,.bool (!(o == 0))), (56,.bool (false || (o == 11)))] ?_
   exact midR () rfl rfl
 refine Xr [(12,vp b1), (8,.bool false), (9,.pointer (some ⟨p.1, 0, none⟩)), (10,vi x), (11,vi o), (13,.bool (!(o == 0))), (57,.bool (((((o == 1) || (o == 2)) || (o == 3)) || (o == 7)) || (o == 11)))] ?_ 8 1
 refine (Xs0 5 3 [(12,vp b1), (8,.bool false), (9,.pointer (some ⟨p.1, 0, none⟩)), (10,vi x), (11,vi o), (13,.bool (!(o == 0))), (60,.bool ((((((o == 1) || (o == 2)) || (o == 3)) || (o == 7)) || (o == 11)) || (o == 13)))] ?_ ?_ : RT _ _ _ _ _ _ 8 _)
 ·cases hg19 : (((((o == 1) || (o == 2)) || (o == 3)) || (o == 7)) || (o == 11)) with
  | true =>
   refine Xe [(12,vp b1), (8,.bool false), (9,.pointer (some ⟨p.1, 0, none⟩)), (10,vi x), (11,vi o), (13,.bool (!(o == 0))), (60,.bool true)] ?_ 3
   refine Xp [(12,vp b1), (8,.bool false), (9,.pointer (some ⟨p.1, 0, none⟩)), (10,vi x), (11,vi o), (13,.bool (!(o == 0))), (60,.bool (true || (o == 13)))] ?_
   exact midR () rfl rfl
  | false =>
   refine Xe [(12,vp b1), (8,.bool false), (9,.pointer (some ⟨p.1, 0, none⟩)), (10,vi x), (11,vi o), (13,.bool (!(o == 0))), (60,.bool (o == 13))] ?_ 3
   refine Xp [(12,vp b1), (8,.bool false), (9,.pointer (some ⟨p.1, 0, none⟩)), (10,vi x), (11,vi o), (13,.bool (!(o == 0))), (60,.bool (false || (o == 13)))] ?_
   exact midR () rfl rfl
 refine Xr [(12,vp b1), (8,.bool false), (9,.pointer (some ⟨p.1, 0, none⟩)), (10,vi x), (11,vi o), (13,.bool (!(o == 0))), (61,.bool ((((((o == 1) || (o == 2)) || (o == 3)) || (o == 7)) || (o == 11)) || (o == 13)))] ?_ 4 1
 refine (Xs0 1 3 [(12,vp b1), (8,.bool false), (9,.pointer (some ⟨p.1, 0, none⟩)), (10,vi x), (11,vi o), (13,.bool (!(o == 0))), (64,.bool (((((((o == 1) || (o == 2)) || (o == 3)) || (o == 7)) || (o == 11)) || (o == 13)) || (o == 14)))] ?_ ?_ : RT _ _ _ _ _ _ 4 _)
 ·cases hg23 : ((((((o == 1) || (o == 2)) || (o == 3)) || (o == 7)) || (o == 11)) || (o == 13)) with
  | true =>
   refine Xe [(12,vp b1), (8,.bool false), (9,.pointer (some ⟨p.1, 0, none⟩)), (10,vi x), (11,vi o), (13,.bool (!(o == 0))), (64,.bool true)] ?_ 3
   refine Xp [(12,vp b1), (8,.bool false), (9,.pointer (some ⟨p.1, 0, none⟩)), (10,vi x), (11,vi o), (13,.bool (!(o == 0))), (64,.bool (true || (o == 14)))] ?_
   exact midR () rfl rfl
  | false =>
   refine Xe [(12,vp b1), (8,.bool false), (9,.pointer (some ⟨p.1, 0, none⟩)), (10,vi x), (11,vi o), (13,.bool (!(o == 0))), (64,.bool (o == 14))] ?_ 3
   refine Xp [(12,vp b1), (8,.bool false), (9,.pointer (some ⟨p.1, 0, none⟩)), (10,vi x), (11,vi o), (13,.bool (!(o == 0))), (64,.bool (false || (o == 14)))] ?_
   exact midR () rfl rfl
 refine Xe [(12,vp b1), (8,.bool false), (9,.pointer (some ⟨p.1, 0, none⟩)), (10,vi x), (11,vi o), (13,.bool (!(o == 0))), (14,.bool (((((((o == 1) || (o == 2)) || (o == 3)) || (o == 7)) || (o == 11)) || (o == 13)) || (o == 14)))] ?_ 1
 refine Xq (Xg 4 (Xr [(12,vp b1), (8,.bool false), (9,.pointer (some ⟨p.1, 0, none⟩)), (10,vi x), (11,vi o), (13,.bool (!(o == 0))), (14,.bool (((((((o == 1) || (o == 2)) || (o == 3)) || (o == 7)) || (o == 11)) || (o == 13)) || (o == 14))), (65,.pointer (some ⟨p.1, 0, none⟩)), (66,vi x)] ?_ 2 2))
 rw [show (((((((o == 1) || (o == 2)) || (o == 3)) || (o == 7)) || (o == 11)) || (o == 13)) || (o == 14)) = (isKept o) by rfl]
 refine Xs (Xa (some 67) (fun (r : Option Addr × Nat) => .slice r.1 (sdAt z x).r.l.length r.2) (new_at (H := (blk b1 31 [.int .i64 r0, .int .i64 r1, .int .i64 r2] :: wdS p.1 (bC q) p.2 z :: bS q :: H)) 1 rfl (wRecords_c _ p.1 (bC q) p.2 z x (by show x < 4; omega)))) (fun (r : Option Addr × Nat) => ?_) 1
 refine Xe [(12,vp b1), (8,.bool false), (9,.pointer (some ⟨p.1, 0, none⟩)), (10,vi x), (11,vi o), (13,.bool (!(o == 0))), (14,.bool (isKept o)), (15,.slice r.1 ((sdAt z x).r.l.length) r.2)] ?_ 1
 refine Xq (Xq (Xg 1 (Xe [(12,vp b1), (8,.bool false), (9,.pointer (some ⟨p.1, 0, none⟩)), (10,vi x), (11,vi o), (13,.bool (!(o == 0))), (14,.bool (isKept o)), (15,.slice r.1 ((sdAt z x).r.l.length) r.2), (16,vi 0)] ?_ 1)))
 refine Xb 0 (Xp [(9,.pointer (some ⟨p.1, 0, none⟩)), (10,vi x), (11,vi o), (12,vp b1), (13,.bool (!(o == 0))), (14,.bool (isKept o)), (15,.slice r.1 ((sdAt z x).r.l.length) r.2), (16,vi 0)] (Xl0 (fun (i : Nat) => [(9,.pointer (some ⟨p.1, 0, none⟩)), (10,vi x), (11,vi o), (12,vp b1), (13,.bool (!(o == 0))), (14,.bool (isKept o)), (15,.slice r.1 ((sdAt z x).r.l.length) r.2), (16,vi i)]) (fun k (i : Nat) => k + i = 4) 4 0 (by kernel_rfl) (by omega) ?_))
 rintro k0 i hki
 refine Xq (Xq (Xg 2 (Xe [(9,.pointer (some ⟨p.1, 0, none⟩)), (10,vi x), (11,vi o), (12,vp b1), (13,.bool (!(o == 0))), (14,.bool (isKept o)), (15,.slice r.1 ((sdAt z x).r.l.length) r.2), (16,vi i), (69,.bool (decide ((i : Int) < 4)))] ?_ 2)))
 refine Xc (decide ((i : Int) < 4)) (fun h1 => ?_) (fun h1 => ?_)
 ·skip
  have hi : i < 4 := by have := of_decide_eq_true h1; omega
  by_cases hix : x = i
  ·skip
   subst hix
   refine Xk (Xq (Xb 1 (Xq (Xg 10 (Xr [(9,.pointer (some ⟨p.1, 0, none⟩)), (10,vi x), (11,vi o), (12,vp b1), (13,.bool (!(o == 0))), (14,.bool (isKept o)), (15,.slice r.1 ((sdAt z x).r.l.length) r.2), (16,vi x), (75,.bool ((x : Int) != (x : Int)))] ?_ 6 4)))))
   rw [show ((x : Int) != (x : Int)) = false from by simp]
   refine Xe [(9,.pointer (some ⟨p.1, 0, none⟩)), (10,vi x), (11,vi o), (12,vp b1), (13,.bool (!(o == 0))), (14,.bool (isKept o)), (15,.slice r.1 ((sdAt z x).r.l.length) r.2), (16,vi x), (81,.bool false)] ?_ 6
   refine Xc false (fun h => by cases h) (fun _ => ?_)
   refine Xk (Xg 3 (Xe [(9,.pointer (some ⟨p.1, 0, none⟩)), (10,vi x), (11,vi o), (12,vp b1), (13,.bool (!(o == 0))), (14,.bool (isKept o)), (15,.slice r.1 ((sdAt z x).r.l.length) r.2), (16,vi (IntKind.i64.wrap ((x : Int) + 1)))] ?_ 3))
   rw [show IntKind.i64.wrap ((x : Int) + 1) = ((x : Int) + 1) by rw [w64 (by omega) (by omega)]]
   refine Xp [(9,.pointer (some ⟨p.1, 0, none⟩)), (10,vi x), (11,vi o), (12,vp b1), (13,.bool (!(o == 0))), (14,.bool (isKept o)), (15,.slice r.1 ((sdAt z x).r.l.length) r.2), (16,vi ((x : Int) + 1))] ?_
   exact againG (k0 - 1) (x + 1) rfl rfl (by omega) (by omega)
  ·skip
   refine Xk (Xq (Xb 1 (Xq (Xg 10 (Xr [(9,.pointer (some ⟨p.1, 0, none⟩)), (10,vi x), (11,vi o), (12,vp b1), (13,.bool (!(o == 0))), (14,.bool (isKept o)), (15,.slice r.1 ((sdAt z x).r.l.length) r.2), (16,vi i), (75,.bool ((i : Int) != (x : Int)))] ?_ 6 4)))))
   rw [show ((i : Int) != (x : Int)) = true from by simp; omega]
   refine Xr [(9,.pointer (some ⟨p.1, 0, none⟩)), (10,vi x), (11,vi o), (12,vp b1), (13,.bool (!(o == 0))), (14,.bool (isKept o)), (15,.slice r.1 ((sdAt z x).r.l.length) r.2), (16,vi i), (75,.bool true), (76,.pointer (some ⟨p.1, 0, none⟩)), (77,vi i)] ?_ 4 2
   refine Xs (Xa (some 78) (fun (rr : Option Addr × Nat) => .slice rr.1 0 rr.2) ((by have h := new_at (H := (row reE 48 (.slice r.1 (sdAt z x).r.l.length r.2) (sdAt z x).r.l :: blk b1 31 [.int .i64 r0, .int .i64 r1, .int .i64 r2] :: wdS p.1 (bC q) p.2 z :: bS q :: H)) 2 rfl (wRecords_c _ p.1 (bC q) p.2 z i hi); rw [hoth i hi (Ne.symm hix)] at h; exact h))) (fun (rr : Option Addr × Nat) => ?_) 3
   refine Xe [(9,.pointer (some ⟨p.1, 0, none⟩)), (10,vi x), (11,vi o), (12,vp b1), (13,.bool (!(o == 0))), (14,.bool (isKept o)), (15,.slice r.1 ((sdAt z x).r.l.length) r.2), (16,vi i), (81,.bool false)] ?_ 3
   refine Xc false (fun h => by cases h) (fun _ => ?_)
   refine Xk (Xg 3 (Xe [(9,.pointer (some ⟨p.1, 0, none⟩)), (10,vi x), (11,vi o), (12,vp b1), (13,.bool (!(o == 0))), (14,.bool (isKept o)), (15,.slice r.1 ((sdAt z x).r.l.length) r.2), (16,vi (IntKind.i64.wrap ((i : Int) + 1)))] ?_ 3))
   refine PT.drop ?_
   rw [show IntKind.i64.wrap ((i : Int) + 1) = ((i : Int) + 1) by rw [w64 (by omega) (by omega)]]
   refine Xp [(9,.pointer (some ⟨p.1, 0, none⟩)), (10,vi x), (11,vi o), (12,vp b1), (13,.bool (!(o == 0))), (14,.bool (isKept o)), (15,.slice r.1 ((sdAt z x).r.l.length) r.2), (16,vi ((i : Int) + 1))] ?_
   exact againG (k0 - 1) (i + 1) rfl rfl (by omega) (by omega)
 ·skip
  refine Xx 0 (thenX (thenX (leaveR (Xq (Xq (Xg 13 (Xr [(11,vi o), (12,vp b1), (14,.bool (isKept o)), (15,.slice r.1 ((sdAt z x).r.l.length) r.2), (86,.bool ((!(o == 0)) != (o != 0)))] ?_ 8 5)))))))
  refine (Xs0 0 8 [(11,vi o), (12,vp b1), (14,.bool (isKept o)), (15,.slice r.1 ((sdAt z x).r.l.length) r.2), (94,.bool (((!(o == 0)) != (o != 0)) || ((decide (o > 14)) && (!((r0 == 16) && ((r1 == 0) && (r2 == 0)))))))] ?_ ?_ : RT _ _ _ _ _ _ 8 _)
  ·cases hg5 : ((!(o == 0)) != (o != 0)) with
   | true =>
    refine Xe [(11,vi o), (12,vp b1), (14,.bool (isKept o)), (15,.slice r.1 ((sdAt z x).r.l.length) r.2), (94,.bool true)] ?_ 8
    refine Xp [(11,vi o), (12,vp b1), (14,.bool (isKept o)), (15,.slice r.1 ((sdAt z x).r.l.length) r.2), (94,.bool (true || ((decide (o > 14)) && (!((r0 == 16) && ((r1 == 0) && (r2 == 0)))))))] ?_
    exact midR () rfl rfl
   | false =>
    refine Xr [(11,vi o), (12,vp b1), (14,.bool (isKept o)), (15,.slice r.1 ((sdAt z x).r.l.length) r.2), (86,.bool false), (89,.bool (decide (o > 14)))] ?_ 5 3
    refine (Xs0 1 4 [(11,vi o), (12,vp b1), (14,.bool (isKept o)), (15,.slice r.1 ((sdAt z x).r.l.length) r.2), (86,.bool false), (93,.bool ((decide (o > 14)) && (!((r0 == 16) && ((r1 == 0) && (r2 == 0))))))] ?_ ?_ : RT _ _ _ _ _ _ 5 _)
    ·cases hg8 : (decide (o > 14)) with
     | true =>
      refine Xl [(11,vi o), (12,vp b1), (14,.bool (isKept o)), (15,.slice r.1 ((sdAt z x).r.l.length) r.2), (86,.bool false), (89,.bool true), (90,.agg #[vi r0, vi r1, vi r2]), (91,.agg #[vi 16, vi 0, vi 0])] [(⟨b1, 0, none⟩, vi r0), (⟨b1, 1, none⟩, vi r1), (⟨b1, 2, none⟩, vi r2)] (hasC (ba 1) (hasC (ba 1) (hasC (ba 1) has0))) ?_ 2 2
      refine Xs (yldS (eqY1 31 31 (.tmp 90) (.tmp 91) [.int .i64 r0, .int .i64 r1, .int .i64 r2] [.int .i64 16, .int .i64 0, .int .i64 0] ((r0 == 16) && ((r1 == 0) && (r2 == 0))) 92)) (fun _ => ?_) 1
      refine Xe [(11,vi o), (12,vp b1), (14,.bool (isKept o)), (15,.slice r.1 ((sdAt z x).r.l.length) r.2), (86,.bool false), (93,.bool (!((r0 == 16) && ((r1 == 0) && (r2 == 0)))))] ?_ 1
      refine Xp [(11,vi o), (12,vp b1), (14,.bool (isKept o)), (15,.slice r.1 ((sdAt z x).r.l.length) r.2), (86,.bool false), (93,.bool (true && (!((r0 == 16) && ((r1 == 0) && (r2 == 0))))))] ?_
      exact midR () rfl rfl
     | false =>
      refine Xe [(11,vi o), (12,vp b1), (14,.bool (isKept o)), (15,.slice r.1 ((sdAt z x).r.l.length) r.2), (86,.bool false), (93,.bool false)] ?_ 4
      refine Xp [(11,vi o), (12,vp b1), (14,.bool (isKept o)), (15,.slice r.1 ((sdAt z x).r.l.length) r.2), (86,.bool false), (93,.bool (false && (!((r0 == 16) && ((r1 == 0) && (r2 == 0))))))] ?_
      exact midR () rfl rfl
    refine Xe [(11,vi o), (12,vp b1), (14,.bool (isKept o)), (15,.slice r.1 ((sdAt z x).r.l.length) r.2), (94,.bool ((decide (o > 14)) && (!((r0 == 16) && ((r1 == 0) && (r2 == 0))))))] ?_ 1
    refine Xp [(11,vi o), (12,vp b1), (14,.bool (isKept o)), (15,.slice r.1 ((sdAt z x).r.l.length) r.2), (94,.bool (false || ((decide (o > 14)) && (!((r0 == 16) && ((r1 == 0) && (r2 == 0)))))))] ?_
    exact midR () rfl rfl
  refine endR ?_
  rw [show (((!(o == 0)) != (o != 0)) || ((decide (o > 14)) && (!((r0 == 16) && ((r1 == 0) && (r2 == 0)))))) = false from re_tst hop]
  refine Xc false (fun h => by cases h) (fun _ => ?_)
  refine Xk (Xq (Xq (Xg 2 (Xe [(11,vi o), (12,vp b1), (15,.slice r.1 ((sdAt z x).r.l.length) r.2), (96,.bool (!(isKept o)))] ?_ 2))))
  cases hk : (isKept o) with
  | true =>
   rw [if_pos hk] at hown
   rw [show (sdAt z x).r.l.length = 1 by rw [hown]; rfl]
   rw [hown]
   refine PT.know (KR.isSome (s := ⟨r.1, r.2, [((1 : Int), (7 : Int), o, r0)]⟩) (rowKRat 0 rfl) (by simp)) ?_
   rintro ⟨sb, so, hA⟩
   dsimp only at hA
   rw [hA]
   refine Xc false (fun h => by cases h) (fun _ => ?_)
   refine Xk (Xq (Xy0 0 [] 14 ?_))
   refine Xt [0, 1, 2, 3, 4, 7, 8, 9, 10] [(103,.bool true), (104,.slice (some ⟨sb, so, none⟩) 1 r.2), (110,.agg #[vi 1, vi 7, vi o, vi r0])] [(⟨b1, 0, none⟩, vi r0)] (hasC (ba 1) has0) ?_
   refine Xu 5 (Xi 36 (.tmp 104) (.const (.int .i64 0)) sb so 1 r.2 0 4 48 0 105 Tryz.underlying36) ?_
   refine Xt [6] [(103,.bool true), (110,.agg #[vi 1, vi 7, vi o, vi r0]), (106,.agg #[vi 1, vi 7, vi o, vi r0])] [(⟨sb, so + 0 * 4, none⟩, vi 1), (⟨sb, so + 0 * 4 + 1, none⟩, vi 7), (⟨sb, so + 0 * 4 + 2, none⟩, vi o), (⟨sb, so + 0 * 4 + 3, none⟩, vi r0)] (hasC (rowCell (E := reE) (xs := [((1 : Int), (7 : Int), o, r0)]) 0 rfl (J := 0) (x := ((1 : Int), (7 : Int), o, r0)) rfl (j := 0) rfl) (hasC (rowCell (E := reE) (xs := [((1 : Int), (7 : Int), o, r0)]) 0 rfl (J := 0) (x := ((1 : Int), (7 : Int), o, r0)) rfl (j := 1) rfl) (hasC (rowCell (E := reE) (xs := [((1 : Int), (7 : Int), o, r0)]) 0 rfl (J := 0) (x := ((1 : Int), (7 : Int), o, r0)) rfl (j := 2) rfl) (hasC (rowCell (E := reE) (xs := [((1 : Int), (7 : Int), o, r0)]) 0 rfl (J := 0) (x := ((1 : Int), (7 : Int), o, r0)) rfl (j := 3) rfl) has0)))) ?_
   refine Xu 11 (eqY0 48 48 (.tmp 106) (.tmp 110) [.int .i64 1, .int .i64 7, .int .i64 o, .int .i64 r0] [.int .i64 1, .int .i64 7, .int .i64 o, .int .i64 r0] true 111 (hb := by simp [eqCs, eqC])) ?_
   refine Xt [12, 13] [(8,.bool true)] [] has0 ?_
   refine Xd (Xv (Y0 (.bool true) (fun w hs => ?_)))
   exact ⟨(), rfl, Sat.right (R := [_, _, _, _]) hs⟩
  | false =>
   rw [if_neg (by rw [hk]; simp)] at hown
   rw [show (sdAt z x).r.l.length = 0 by rw [hown]; rfl]
   rw [hown]
   refine Xc true (fun _ => ?_) (fun h => by cases h)
   refine Xq (Xg 4 (Xe [(11,vi o), (12,vp b1), (15,.slice r.1 0 r.2), (8,.bool true)] ?_ 4))
   refine Xv (thenV (Y0 (.bool true) (fun w hs => ?_)))
   exact ⟨(), rfl, Sat.right (R := [_, _, _, _]) hs⟩
theorem records_row (W : World) (hE : W.cell? ⟨0, 0, none⟩ = some errT) (a b c d : Int) (ha : (Lit.int .u8 a).wf = true) (hb : (Lit.int .u8 b).wf = true) (hc : (Lit.int .u8 c).wf = true) (hd : (Lit.int .u8 d).wf = true) : Calls Tryz.prog 4 #[.int .u8 a, .int .u8 b, .int .u8 c, .int .u8 d] W (LawPost W) :=
 lawPost (fun _ _ h => h) (records21 [old W] (EK.old 0 rfl hE) a b c d (u8_wf ha) (u8_wf hb) (u8_wf hc) (u8_wf hd) W (Sat.start W))
end Go.Proofs.YtfhkgohokbkgiaaGreatDoor
