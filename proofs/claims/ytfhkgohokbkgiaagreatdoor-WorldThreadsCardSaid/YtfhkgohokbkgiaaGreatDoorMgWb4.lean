/- Texts put together: Boxes, purses as parts of memory: their operations. slices.Insert, slices.Delete of one element at rows of int. Rows of numbers: slices.Index, Contains, Delete. Objects as one part of memory: their operations. Objects: New, Wait. Objects: Signal, New. G: slices of slices; stores of whole elements. G: clear of a row's end. Rows of numbers: slices.IndexFunc, DeleteFunc of one number. Objects: Drop. Objects as one part of memory: what its operations make of it. slices.Insert, slices.Delete of one element at rows of timer.sleeper. The program's timers at rows of sleepers (tmE): walks. Timers as one part of memory: their operations. A kernel as one part of memory; thread, Runnable, Run, Sleep, Exit, Wait, Signal. A kernel: Wait, Signal, Weight, Nodes, count. A kernel: count, adds, Spawn, Group. A kernel: Spawn, Group, Wake. A kernel: New. A world's actions, plainly. Sums of whole numbers as floats, as complex numbers. Conditions: none. -/
import Derived.Test.YtfhkgohokbkgiaaGreatDoorMgWb3
set_option linter.unusedVariables false
set_option linter.unusedSimpArgs false
namespace Go.Proofs.YtfhkgohokbkgiaaGreatDoor
open Go.RowKit G
def bxS (b : Nat) (x : BxS) : SP := exS fun p : Option Addr × Nat => two (pureS (x.l.length ≤ 100000)) (two (blk b 181 [.slice p.1 x.l.length p.2, .int .i64 x.room]) (row leE 254 (.slice p.1 x.l.length p.2) x.l))
theorem Sat.openBx {b : Nat} {r : BxS} {H : List SP} {w : World} (h : Sat w (bxS b r :: H)) : ∃ A cap, r.l.length ≤ 100000 ∧ Sat w (blk b 181 [.slice A r.l.length cap, .int .i64 r.room] :: row leE 254 (.slice A r.l.length cap) r.l :: H) := by
 obtain ⟨⟨A, cap⟩, h⟩ := Sat.openEx h
 obtain ⟨h1, h⟩ := Sat.openPure (Sat.openTwo h)
 exact ⟨A, cap, h1, Sat.openTwo h⟩
theorem Sat.closeBx {b : Nat} {r : BxS} {H : List SP} {w : World} {A : Option Addr} {cap : Nat} (h1 : r.l.length ≤ 100000) (h : Sat w (blk b 181 [.slice A r.l.length cap, .int .i64 r.room] :: row leE 254 (.slice A r.l.length cap) r.l :: H)) : Sat w (bxS b r :: H) :=
 Sat.closeEx (A, cap) (Sat.closeTwo (Sat.closePure h1 (Sat.closeTwo h)))
theorem del_le_walk (H : List SP) (v : Value) (xs : List (Int × Int)) (i : Nat) (hi : i < xs.length) (hn : xs.length ≤ 1000000000) :
  ∀ w, Sat w (row leE 254 v xs :: H) → Calls Tryz.prog 176 #[v, .int .i64 i, .int .i64 ((i : Int) + 1)] w (Ret (ι := Option Addr × Nat) (fun p => .slice p.1 (xs.take i ++ xs.drop (i + 1)).length p.2) fun p => row leE 254 (.slice p.1 (xs.take i ++ xs.drop (i + 1)).length p.2) (xs.take i ++ xs.drop (i + 1)) :: H) :=
 rowCall fun w F hr _ => del_le w F v xs hr i hi hn
set_option maxRecDepth 100000 in
theorem bxnew_walk (H : List SP) (m : Int) : ∀ w, Sat w H → Calls Tryz.prog 45 #[vi m] w (Ret (ι := Nat) (fun b => vp b) fun b => bxS b (bx0 m) :: H) := by
 refine enterG (fn := Tryz.f45) 8 [vi m] Tryz.func45 (by kernel_rfl) (by kernel_rfl) (by kernel_rfl) ?_
 refine Xq (Xg 1 (Xe [(0,vi m), (2,.pointer none)] ?_ 1))
 refine Xq (Xg 6 (Xr [(2,.pointer none), (6,.agg #[.slice none 0 0, vi (mnI (mxI m 1) 8)])] ?_ 2 4))
 refine Xs (Xn 181 [.slice none 0 0, vi (mnI (mxI m 1) 8)] (some 7) (fun b => vp b)) (fun b1 => ?_) 1
 refine Xe [(2,vp b1)] ?_ 1
 refine Xv (Y0 (vp b1) (fun w hs => ?_))
 exact ⟨b1, rfl, Sat.closeBx (r := bx0 m) (A := none) (cap := 0) (by simp [bx0]) (SatF.swap (Sat.rowNil hs))⟩
def cntD (l : List (Int × Int)) (d : Int) : Int := ((l.filter fun x => x.1 == d).length : Int)
set_option maxRecDepth 100000 in
theorem bxwaits_walk (H : List SP) (b : Nat) (A : Option Addr) (cap : Nat) (l : List (Int × Int)) (m : Int) (d : Int) (hl : l.length ≤ 1000000) : ∀ w, Sat w (blk b 181 [.slice A l.length cap, vi m] :: row leE 254 (.slice A l.length cap) l :: H) → Calls Tryz.prog 175 #[vp b, vi d] w (Ret (ι := Unit) (fun _ => vi (cntD l d)) fun _ => blk b 181 [.slice A l.length cap, vi m] :: row leE 254 (.slice A l.length cap) l :: H) := by
 refine enterG (fn := Tryz.f175) 29 [vp b, vi d] Tryz.func175 (by kernel_rfl) (by kernel_rfl) (by kernel_rfl) ?_
 refine Xq (Xg 1 (Xe [(0,vp b), (1,vi d), (4,vi 0)] ?_ 1))
 refine scopeG 0 (fun (u : Nat) => [(0, vp b), (1, vi d), (5, vi (cntD (l.take u) d)), (6, vi u)]) (fun _ => (blk b 181 [.slice A l.length cap, vi m] :: row leE 254 (.slice A l.length cap) l :: H)) (fun k (u : Nat) => k + u = l.length) (by kernel_rfl) (by kernel_rfl) (by kernel_rfl) (by kernel_rfl) ?_ ?_
 ·skip
  rintro k u hku K hK
  refine Xq (Xq (Xg 7 (Xm [(0,vp b), (1,vi d), (5,vi (cntD (l.take u) d)), (6,vi u), (13,.bool ((u : Int) == (l.length : Int)))] [(⟨b, 0, none⟩, .slice A l.length cap)] (hasC (ba 0) has0) ?_ 7)))
  refine Xc ((u : Int) == (l.length : Int)) (fun h1 => ?_) (fun h1 => ?_)
  ·skip
   have hu0 : (u : Int) = (l.length : Int) := eq_of_beq h1
   have hu : u = l.length := by omega
   refine Xq (Xg 2 (Xe [(0,vp b), (1,vi d), (5,vi (cntD (l.take u) d)), (6,vi u), (4,vi (cntD (l.take u) d))] ?_ 2))
   refine Xv (thenV (jumpV (Y0 (vi (cntD (l.take u) d)) (fun w hs => ?_))))
   exact ⟨(), by rw [hu, List.take_length], hs⟩
  ·skip
   have hu0 : ¬ (u : Int) = (l.length : Int) := beq_eq_false_iff_ne.1 h1
   have hu : u < l.length := by omega
   obtain ⟨e, he⟩ : ∃ e, l[u]? = some e := ⟨_, by simp [hu]; rfl⟩
   refine PT.know (KR.isSome (s := ⟨A, cap, l⟩) (rowKRat 1 rfl) (List.ne_nil_of_length_pos (by show 0 < l.length; omega))) ?_
   rintro ⟨sb, so, hA⟩
   dsimp only at hA
   subst hA
   have hc0 : 0 ≤ cntD (l.take u) d ∧ cntD (l.take u) d ≤ u := ⟨Int.natCast_nonneg _, by unfold cntD; have := List.length_filter_le (fun x => x.1 == d) (l.take u); simp only [List.length_take] at this; omega⟩
   have hc1 : cntD (l.take (u + 1)) d = cntD (l.take u) d + if e.1 = d then 1 else 0 := by
    unfold cntD
    rw [List.take_add_one, he, List.filter_append]
    by_cases c : e.1 = d <;> simp [c]
   refine Xk (Xq (Xq (Xg 10 (Xl [(0,vp b), (1,vi d), (5,vi (cntD (l.take u) d)), (6,vi u), (18,.slice (some ⟨sb, so, none⟩) l.length cap), (19,vi u)] [(⟨b, 0, none⟩, .slice (some ⟨sb, so, none⟩) l.length cap)] (hasC (ba 0) has0) ?_ 5 5))))
   refine Xs (yldS (Xi 179 (.tmp 18) (.tmp 19) sb so l.length cap u 2 254 (u : Int) 20 Tryz.underlying179)) (fun _ => ?_) 4
   refine Xm [(0,vp b), (1,vi d), (5,vi (cntD (l.take u) d)), (6,vi u), (24,.bool (e.1 == d))] [(⟨sb, so + u * 2, none⟩, vi e.1)] (hasC ((rowKRat (xs := l) (A := some ⟨sb, so, none⟩) (k := cap) (E := leE) (T := 254) 1 rfl).cell rfl (i := u) (x := e) he (j := 0) rfl) has0) ?_ 4
   refine Xc (e.1 == d) (fun h2 => ?_) (fun h2 => ?_)
   ·skip
    rw [if_pos (eq_of_beq h2)] at hc1
    refine Xg 3 (Xe [(0,vp b), (1,vi d), (5,vi (IntKind.i64.wrap ((cntD (l.take u) d) + 1))), (6,vi u)] ?_ 3)
    refine Xq (Xg 3 (Xe [(0,vp b), (1,vi d), (5,vi (IntKind.i64.wrap ((cntD (l.take u) d) + 1))), (6,vi (IntKind.i64.wrap ((u : Int) + 1)))] ?_ 3))
    refine gotoR 0 (by kernel_rfl) (by kernel_rfl) ?_
    rw [show IntKind.i64.wrap ((cntD (l.take u) d) + 1) = ((cntD (l.take u) d) + 1) by rw [w64 (by omega) (by omega)]]
    rw [show IntKind.i64.wrap ((u : Int) + 1) = ((u : Int) + 1) by rw [w64 (by omega) (by omega)]]
    rw [show ((cntD (l.take u) d) + 1) = (cntD (l.take (u + 1)) d) by exact hc1.symm]
    refine Xp [(0,vp b), (1,vi d), (5,vi (cntD (l.take (u + 1)) d)), (6,vi ((u : Int) + 1))] ?_
    exact jumpR (hK (k - 1) (u + 1) (by omega) (by omega))
   ·skip
    rw [if_neg (beq_eq_false_iff_ne.1 h2), Int.add_zero] at hc1
    refine Xk (Xq (Xg 3 (Xe [(0,vp b), (1,vi d), (5,vi (cntD (l.take u) d)), (6,vi (IntKind.i64.wrap ((u : Int) + 1)))] ?_ 3)))
    refine gotoR 0 (by kernel_rfl) (by kernel_rfl) ?_
    rw [show IntKind.i64.wrap ((u : Int) + 1) = ((u : Int) + 1) by rw [w64 (by omega) (by omega)]]
    rw [show (cntD (l.take u) d) = (cntD (l.take (u + 1)) d) by exact hc1.symm]
    refine Xp [(0,vp b), (1,vi d), (5,vi (cntD (l.take (u + 1)) d)), (6,vi ((u : Int) + 1))] ?_
    exact jumpR (hK (k - 1) (u + 1) (by omega) (by omega))
 ·skip
  intro K hK
  refine Xq (Xg 2 (Xe [(0,vp b), (1,vi d), (4,vi 0), (5,vi 0), (6,vi 0)] ?_ 2))
  refine Xq ?_
  refine labelR (by kernel_rfl) ?_
  refine Xp [(0,vp b), (1,vi d), (5,vi 0), (6,vi 0)] ?_
  refine codeR (by kernel_rfl) (hK l.length 0 (by omega))
set_option maxRecDepth 100000 in
theorem bxput_walk (H : List SP) (b : Nat) (A : Option Addr) (cap : Nat) (l : List (Int × Int)) (m : Int) (d x : Int) (hl : l.length ≤ 1000000) : ∀ w, Sat w (blk b 181 [.slice A l.length cap, vi m] :: row leE 254 (.slice A l.length cap) l :: H) → Calls Tryz.prog 123 #[vp b, .agg #[vi d, vi x]] w (Ret (ι := Option Addr × Nat) (fun _ => .bool (!decide (m ≤ cntD l d))) fun p => blk b 181 [.slice p.1 (bxPut ⟨l, m⟩ d x).l.length p.2, vi m] :: row leE 254 (.slice p.1 (bxPut ⟨l, m⟩ d x).l.length p.2) (bxPut ⟨l, m⟩ d x).l :: H) := by
 refine enterG (fn := Tryz.f123) 24 [vp b, .agg #[vi d, vi x]] Tryz.func123 (by kernel_rfl) (by kernel_rfl) (by kernel_rfl) ?_
 refine Xq (Xg 2 (Xs (Xn 254 [vi d, vi x] (some 3) (fun b => vp b)) (fun b1 => ?_) 1))
 refine Xe [(3,vp b1), (0,vp b), (4,.bool false)] ?_ 1
 refine Xq (Xq ?_)
 refine PT.pick 0 rfl ?_
 refine PT.pick 2 rfl ?_
 refine PT.pick 2 rfl ?_
 refine Xy0 0 [] 9 ?_
 refine Xt [0, 1, 2, 4, 5, 6, 7] [(3,vp b1), (0,vp b), (4,.bool false), (5,vp b), (7,vi d), (12,vi m)] [(⟨b1, 0, none⟩, vi d), (⟨b, 1, none⟩, vi m)] (hasC (ba 2) (hasC (ba 0) has0)) ?_
 refine Xo 3 (Xa (some 8) (fun _ => vi (cntD l d)) (bxwaits_walk _ b A cap l m d hl)) (fun _ => ?_)
 refine Xt [8] [(3,vp b1), (0,vp b), (4,.bool false), (13,.bool (decide ((cntD l d) ≥ m)))] [] has0 ?_
 refine Xd (Xc (decide ((cntD l d) ≥ m)) (fun h1 => ?_) (fun h1 => ?_))
 ·skip
  have h1' := of_decide_eq_true h1
  refine Xq (Xg 1 (Xe [(3,vp b1), (0,vp b), (4,.bool false)] ?_ 1))
  refine Xv (thenV (Y0 (.bool false) (fun w hs => ?_)))
  exact ⟨(A, cap), by rw [decide_eq_true (p := m ≤ cntD l d) h1']; rfl, by rw [bxPut]; dsimp only; rw [if_pos (show m ≤ bxCnt ⟨l, m⟩ d from h1')]; exact Sat.erase 2 rfl hs⟩
 ·skip
  have h1' := of_decide_eq_false h1
  refine Xk (Xq ?_)
  refine PT.pick 1 rfl ?_
  refine Xy0 1 [10] 11 ?_
  refine Xt [0, 1, 2, 3, 4, 5] [(4,.bool false), (14,vp b), (18,.slice A l.length cap), (19,.agg #[vi d, vi x])] [(⟨b, 0, none⟩, .slice A l.length cap), (⟨b1, 0, none⟩, vi d), (⟨b1, 1, none⟩, vi x)] (hasC (ba 0) (hasC (ba 1) (hasC (ba 1) has0))) ?_
  refine Xo 6 (Xn 254 [vi d, vi x] (some 20) (fun b => .slice (some ⟨b, 0, none⟩) 1 1)) (fun b2 => ?_)
  refine DT.pick 1 rfl ?_
  refine Xo 7 (Xf (E := leE) 179 (.tmp 18) (.tmp 20) A cap l [(d, x)] (.slice (some ⟨b2, 0, none⟩) 1 1) 21 Tryz.underlying179 (etyLe) (blkRd (x := (d, x)) 1 rfl) (by simp only [List.length_cons, List.length_nil]; omega)) (fun r3 => ?_)
  refine Xt [8, 9] [(21,.slice r3.1 ((l ++ [(d, x)]).length) r3.2), (4,.bool false), (23,vp b)] [] has0 ?_
  refine DT.pick 2 rfl ?_
  refine Xo 10 (Xz [(0,.slice r3.1 ((l ++ [(d, x)]).length) r3.2)]) (fun _ => ?_)
  refine Xd (Xq (Xg 1 (Xe [(4,.bool true)] ?_ 1)))
  refine Xv (Y0 (.bool true) (fun w hs => ?_))
  exact ⟨r3, by rw [decide_eq_false (p := m ≤ cntD l d) h1']; rfl, by rw [bxPut]; dsimp only; rw [if_neg (show ¬ m ≤ bxCnt ⟨l, m⟩ d from h1')]; exact Sat.erase 2 rfl (Sat.erase 2 rfl hs)⟩
theorem bxPut_len (x : BxS) (d v : Int) (h : x.l.length ≤ 100000) (hr : (x.l.length : Int) < 100000) : (bxPut x d v).l.length ≤ 100000 := by
 unfold bxPut
 split
 ·exact h
 ·simp; omega
theorem bxPut_c (H : List SP) (b : Nat) (r : BxS) (d x : Int) (hr : r.l.length < 100000) : ∀ w, Sat w (bxS b r :: H) → Calls Tryz.prog 123 #[vp b, .agg #[vi d, vi x]] w (Ret (ι := Unit) (fun _ => .bool (!decide (r.room ≤ bxCnt r d))) fun _ => bxS b (bxPut r d x) :: H) := fun w hs => by
 obtain ⟨A, cap, h1, hs⟩ := Sat.openBx hs
 refine (bxput_walk H b A cap r.l r.room d x (by omega) w hs).mono fun e w' ⟨p, he, hx⟩ => ⟨(), he, Sat.closeBx (r := bxPut r d x) (A := p.1) (cap := p.2) (bxPut_len r d x h1 (by omega)) ?_⟩
 have e2 : (bxPut r d x).room = r.room := by unfold bxPut; split <;> rfl
 rw [e2]; exact hx
def bxGet (r : BxS) : (Int × Int) × Bool := match r.l with | [] => ((0, 0), false) | x :: _ => (x, true)
set_option maxRecDepth 100000 in
theorem bxtake_walk (H : List SP) (b : Nat) (A : Option Addr) (cap : Nat) (l : List (Int × Int)) (m : Int) (hl : l.length ≤ 1000000) : ∀ w, Sat w (blk b 181 [.slice A l.length cap, vi m] :: row leE 254 (.slice A l.length cap) l :: H) → Calls Tryz.prog 124 #[vp b] w (Ret (ι := Option Addr × Nat) (fun _ => .tuple #[.agg #[vi (bxGet ⟨l, m⟩).1.1, vi (bxGet ⟨l, m⟩).1.2], .bool (bxGet ⟨l, m⟩).2]) fun p => blk b 181 [.slice p.1 (bxTake ⟨l, m⟩).l.length p.2, vi m] :: row leE 254 (.slice p.1 (bxTake ⟨l, m⟩).l.length p.2) (bxTake ⟨l, m⟩).l :: H) := by
 refine enterG (fn := Tryz.f124) 27 [vp b] Tryz.func124 (by kernel_rfl) (by kernel_rfl) (by kernel_rfl) ?_
 refine Xq (Xg 2 (Xs (Xn 254 [vi 0, vi 0] (some 2) (fun b => vp b)) (fun b1 => ?_) 1))
 refine Xe [(2,vp b1), (0,vp b), (3,.bool false)] ?_ 1
 refine Xq (Xq (Xg 6 (Xm [(2,vp b1), (0,vp b), (3,.bool false), (10,.bool ((l.length : Int) == 0))] [(⟨b, 0, none⟩, .slice A l.length cap)] (hasC (ba 1) has0) ?_ 6)))
 refine Xc ((l.length : Int) == 0) (fun h1 => ?_) (fun h1 => ?_)
 ·skip
  have hl0 : (l.length : Int) = 0 := eq_of_beq h1
  obtain rfl : l = [] := List.eq_nil_of_length_eq_zero (by omega)
  refine Xq (Xg 3 (Xr [(2,vp b1), (0,vp b), (3,.bool false), (11,.agg #[vi 0, vi 0])] ?_ 2 1))
  refine Xs (Xz [(0,vi 0), (1,vi 0)]) (fun _ => ?_) 1
  refine Xe [(2,vp b1), (0,vp b), (3,.bool false)] ?_ 1
  refine Xv (thenV ?_)
  refine doneG (.tuple #[.agg #[.int .i64 0, .int .i64 0], .bool false]) [(⟨b1, 0, none⟩, .int .i64 0), (⟨b1, 1, none⟩, .int .i64 0)] (hasC (blkAt (T := 254) (cs := [.int .i64 0, .int .i64 0]) 0 rfl rfl) (hasC (blkAt (T := 254) (cs := [.int .i64 0, .int .i64 0]) 0 rfl rfl) has0)) (fun _ => by kernel_rfl) (fun w hs => ?_) .ret (.inr rfl)
  exact ⟨(A, cap), rfl, hs.tail⟩
 ·skip
  have hl0 : ¬ (l.length : Int) = 0 := beq_eq_false_iff_ne.1 h1
  obtain ⟨e, r, rfl⟩ : ∃ e r, l = e :: r := List.exists_cons_of_length_pos (by omega)
  refine PT.know (KR.isSome (s := ⟨A, cap, e :: r⟩) (rowKRat 2 rfl) (by simp)) ?_
  rintro ⟨sb, so, hA⟩
  dsimp only at hA
  subst hA
  refine Xk (Xq (Xg 8 (Xl [(2,vp b1), (0,vp b), (3,.bool false), (15,.slice (some ⟨sb, so, none⟩) ((e :: r).length) cap)] [(⟨b, 0, none⟩, .slice (some ⟨sb, so, none⟩) ((e :: r).length) cap)] (hasC (ba 1) has0) ?_ 4 4)))
  refine Xs (yldS (Xi 179 (.tmp 15) (.const (.int .i64 0)) sb so ((e :: r).length) cap 0 2 254 0 16 Tryz.underlying179)) (fun _ => ?_) 3
  refine Xl [(2,vp b1), (0,vp b), (3,.bool false), (17,.agg #[vi e.1, vi e.2])] [(⟨sb, so + 0 * 2, none⟩, vi e.1), (⟨sb, so + 0 * 2 + 1, none⟩, vi e.2)] (hasC ((rowKRat (xs := e :: r) (A := some ⟨sb, so, none⟩) (k := cap) (E := leE) (T := 254) 2 rfl).cell rfl (i := 0) (x := e) rfl (j := 0) rfl) (hasC ((rowKRat (xs := e :: r) (A := some ⟨sb, so, none⟩) (k := cap) (E := leE) (T := 254) 2 rfl).cell rfl (i := 0) (x := e) rfl (j := 1) rfl) has0)) ?_ 2 1
  refine Xs (Xn 254 [vi 0, vi 0] (some 4) (fun b => vp b)) (fun b2 => ?_) 1
  refine Xs (Xz [(0,vi e.1), (1,vi e.2)]) (fun _ => ?_) 0
  refine endR ?_
  refine Xq (Xg 9 (Xl [(4,vp b2), (2,vp b1), (3,.bool false), (18,vp b), (22,.slice (some ⟨sb, so, none⟩) ((e :: r).length) cap)] [(⟨b, 0, none⟩, .slice (some ⟨sb, so, none⟩) ((e :: r).length) cap)] (hasC (ba 2) has0) ?_ 4 5))
  refine Xs (Xa (some 23) (fun (p : Option Addr × Nat) => .slice p.1 ((e :: r).take 0 ++ (e :: r).drop (0 + 1)).length p.2) (chg_at 3 rfl (del_le_walk _ (.slice (some ⟨sb, so, none⟩) (e :: r).length cap) (e :: r) 0 (by simp) (by omega)))) (fun (p : Option Addr × Nat) => ?_) 3
  refine Xr [(23,.slice p.1 (((e :: r).take 0 ++ (e :: r).drop (0 + 1)).length) p.2), (4,vp b2), (2,vp b1), (3,.bool false), (25,vp b)] ?_ 1 2
  refine Xh0 ?_ 2 1
  refine Xs (Xz [(0,.slice p.1 (((e :: r).take 0 ++ (e :: r).drop (0 + 1)).length) p.2)]) (fun _ => ?_) 0
  refine endR ?_
  refine Xq (Xg 3 (Xl [(2,vp b1), (3,.bool false), (26,.agg #[vi e.1, vi e.2])] [(⟨b2, 0, none⟩, vi e.1), (⟨b2, 1, none⟩, vi e.2)] (hasC (ba 1) (hasC (ba 1) has0)) ?_ 2 1))
  refine Xh0 ?_ 2 2
  refine Xs (Xz [(0,vi e.1), (1,vi e.2)]) (fun _ => ?_) 1
  refine Xe [(2,vp b1), (3,.bool true)] ?_ 1
  refine Xv ?_
  refine doneG (.tuple #[.agg #[.int .i64 e.1, .int .i64 e.2], .bool true]) [(⟨b1, 0, none⟩, .int .i64 e.1), (⟨b1, 1, none⟩, .int .i64 e.2)] (hasC (blkAt (T := 254) (cs := [.int .i64 e.1, .int .i64 e.2]) 0 rfl rfl) (hasC (blkAt (T := 254) (cs := [.int .i64 e.1, .int .i64 e.2]) 0 rfl rfl) has0)) (fun _ => by kernel_rfl) (fun w hs => ?_) .ret (.inr rfl)
  exact ⟨p, rfl, Sat.erase 1 rfl (Sat.tail hs)⟩
theorem bxTake_c (H : List SP) (b : Nat) (r : BxS) : ∀ w, Sat w (bxS b r :: H) → Calls Tryz.prog 124 #[vp b] w (Ret (ι := Unit) (fun _ => .tuple #[.agg #[vi (bxGet r).1.1, vi (bxGet r).1.2], .bool (bxGet r).2]) fun _ => bxS b (bxTake r) :: H) := fun w hs => by
 obtain ⟨A, cap, h1, hs⟩ := Sat.openBx hs
 exact (bxtake_walk H b A cap r.l r.room (by omega) w hs).mono fun e w' ⟨p, he, hx⟩ => ⟨(), he, Sat.closeBx (r := bxTake r) (A := p.1) (cap := p.2) (by show (r.l.drop 1).length ≤ 100000; rw [List.length_drop]; omega) hx⟩
/-! ## purses -/
def puS (b : Nat) (left all : Int) : SP := blk b 183 [.int .i64 left, .int .i64 all]
set_option maxRecDepth 100000 in
theorem punew_walk (H : List SP) (n : Int) : ∀ w, Sat w H → Calls Tryz.prog 46 #[vi n] w (Ret (ι := Nat) (fun b => vp b) fun b => puS b (sends n) (sends n) :: H) := by
 refine enterG (fn := Tryz.f46) 11 [vi n] Tryz.func46 (by kernel_rfl) (by kernel_rfl) (by kernel_rfl) ?_
 refine Xq (Xg 1 (Xe [(0,vi n), (2,.pointer none)] ?_ 1))
 refine Xq (Xg 4 (Xe [(2,.pointer none), (3,vi (mnI (mxI n 0) 8))] ?_ 4))
 refine Xq (Xg 5 (Xr [(2,.pointer none), (9,.agg #[vi (mnI (mxI n 0) 8), vi (mnI (mxI n 0) 8)])] ?_ 2 3))
 refine Xs (Xn 183 [vi (mnI (mxI n 0) 8), vi (mnI (mxI n 0) 8)] (some 10) (fun b => vp b)) (fun b1 => ?_) 1
 refine Xe [(2,vp b1)] ?_ 1
 refine Xv (Y0 (vp b1) (fun w hs => ?_))
 exact ⟨b1, rfl, hs⟩
set_option maxRecDepth 100000 in
theorem puspend_walk (H : List SP) (b : Nat) (n a : Int) (hn : 0 ≤ n ∧ n ≤ 1000) : ∀ w, Sat w (puS b n a :: H) → Calls Tryz.prog 122 #[vp b] w (Ret (ι := Unit) (fun _ => .bool (!(n == 0))) fun _ => puS b (if n = 0 then n else n - 1) a :: H) := by
 unfold puS
 refine enterG (fn := Tryz.f122) 15 [vp b] Tryz.func122 (by kernel_rfl) (by kernel_rfl) (by kernel_rfl) ?_
 refine Xq (Xg 1 (Xe [(0,vp b), (2,.bool false)] ?_ 1))
 refine Xq (Xq (Xg 5 (Xm [(0,vp b), (2,.bool false), (7,.bool (n == 0))] [(⟨b, 0, none⟩, vi n)] (hasC (ba 0) has0) ?_ 5)))
 refine Xc (n == 0) (fun h1 => ?_) (fun h1 => ?_)
 ·skip
  have h1' : n = 0 := eq_of_beq h1
  refine Xq (Xg 1 (Xe [(0,vp b), (2,.bool false)] ?_ 1))
  refine Xv (thenV (Y0 (.bool false) (fun w hs => ?_)))
  exact ⟨(), by rw [h1]; rfl, by rw [if_pos h1']; exact hs⟩
 ·skip
  have h1' : n ≠ 0 := beq_eq_false_iff_ne.1 h1
  refine Xk (Xq (Xg 8 (Xl [(2,.bool false), (12,vi (IntKind.i64.wrap (n - 1))), (14,vp b)] [(⟨b, 0, none⟩, vi n)] (hasC (ba 0) has0) ?_ 1 7)))
  refine Xs (Xz [(0,vi (IntKind.i64.wrap (n - 1)))]) (fun _ => ?_) 0
  refine endR ?_
  refine Xq (Xg 1 (Xe [(2,.bool true)] ?_ 1))
  refine Xv ?_
  rw [show IntKind.i64.wrap (n - 1) = (n - 1) by rw [w64 (by omega) (by omega)]]
  refine Y0 (.bool true) (fun w hs => ?_)
  exact ⟨(), by rw [h1]; rfl, by rw [if_neg h1']; exact hs⟩
set_option maxRecDepth 100000 in
theorem pufill_walk (H : List SP) (b : Nat) (n a : Int) : ∀ w, Sat w (puS b n a :: H) → Calls Tryz.prog 55 #[vp b] w (Ret (ι := Unit) (fun _ => .tuple #[]) fun _ => puS b a a :: H) := by
 unfold puS
 refine enterG (fn := Tryz.f55) 9 [vp b] Tryz.func55 (by kernel_rfl) (by kernel_rfl) (by kernel_rfl) ?_
 refine Xg 8 (Xl [(6,vi a), (8,vp b)] [(⟨b, 1, none⟩, vi a)] (hasC (ba 0) has0) ?_ 1 7)
 refine Xs (Xz [(0,vi a)]) (fun _ => ?_) 0
 refine endR ?_
 refine Y1 (.tuple #[]) (fun w hs => ?_)
 exact ⟨(), rfl, hs⟩
end Go.Proofs.YtfhkgohokbkgiaaGreatDoor
set_option linter.unusedVariables false
set_option linter.unusedSimpArgs false
namespace Go.Proofs.YtfhkgohokbkgiaaGreatDoor
open Go.RowKit G
theorem infoIn : (Tryz.prog.info? 3).map (fun i => (i.zero, i.size, i.bytes)) = some (some (.int .i64 0), 1, 8) := by kernel_rfl
theorem etyIn : Ety Tryz.prog (kE .i64) 3 (.int .i64 0) := by
  obtain ⟨i, hi, hz, hs, hb⟩ := info_parts infoIn
  exact ⟨⟨i, hi, hz, hs, by omega⟩, rfl⟩
theorem zero_cells_in (n : Nat) : ∀ u ∈ (Builtin.zeroCells (Value.int .i64 0).cells n).toList, u.oneCell' = true := by
  intro u hu
  simp only [Builtin.zeroCells, Value.cells, List.size_toArray, List.length_cons, List.length_nil, Array.toList_map, List.mem_map] at hu
  obtain ⟨k, _, rfl⟩ := hu
  have h : k % 1 = 0 := Nat.mod_one k
  simp [h, Value.oneCell']

set_option maxHeartbeats 1000000 in
set_option maxRecDepth 100000 in
theorem del_in_at (w : World) (b o c n : Nat) (cur : Array Value) (xs zs : List Int) (i : Nat) (hz : zs = xs.take i ++ xs.drop (i + 1)) (hx : xs.length = n) (hb : w.heap[b]? = some (.cells cur 3 (0, 0))) (hc1 : n ≤ c) (hc2 : c ≤ maxLen) (hc3 : o + c * 1 ≤ cur.size) (hcur : (cur.toList.drop o).take (n * 1) = (kE .i64).flat xs)
    (hi : i < n) (hn : n ≤ 1000000000) :
    Calls Tryz.prog 209 #[.slice (some ⟨b, o, none⟩) n c, .int .i64 i, .int .i64 (i + 1)] w (RowPost (kE .i64) 3 (OneB b) w zs) := by
  have hne : ((i : Int) == (i : Int) + 1) = false := by simp; omega
  have hlen : cur.toList.length = cur.size := by simp
  -- the append in place
  have hrow : Row (kE .i64) 3 w.drew (OneB b) (.slice (some ⟨b, o, none⟩) (xs.take i).length c) (xs.take i) := by
    refine .inr ⟨b, o, c, cur, rfl, rfl, hb, by simp; omega, hc2, hc3, ?_⟩
    rw [List.length_take, hx, Nat.min_eq_left (by omega)]
    rw [← (kE .i64).flat_take, ← hcur, List.take_take]
    congr 1
    show i * 1 = min (i * 1) (n * 1); omega
  have hil : (xs.take i).length = i := by rw [List.length_take, hx]; omega
  have hdl : (xs.drop (i + 1)).length = n - (i + 1) := by rw [List.length_drop, hx]
  have hcell : ∀ j u, ((kE .i64).flat (xs.drop (i + 1)))[j]? = some u → w.drew.cell? ⟨b, o + (i + 1) * 1 + j, none⟩ = some u := by
    intro j u hu
    rw [cell_of_row w.drew b _ cur 3 (0, 0) hb]
    rw [← (kE .i64).flat_drop, ← hcur] at hu
    rw [List.getElem?_drop, List.getElem?_take] at hu
    split at hu
    · rw [List.getElem?_drop] at hu
      rw [← Array.getElem?_toList, ← hu]
      show _ = cur.toList[o + ((i + 1) * 1 + j)]?
      congr 1; omega
    · cases hu
  have hap : ∀ (X : Option Addr) (m dc : Nat), m = n - (i + 1) → (¬ c = i + 1 → X = some ⟨b, o + (i + 1) * 1, none⟩ ∧ dc = c - (i + 1)) → (c = i + 1 → X = some ⟨b, o, none⟩ ∧ dc = 0) → ∃ cur1, cur1.size = cur.size ∧ (cur1.toList.drop o).take ((n - 1) * 1) = (kE .i64).flat zs ∧
      (Builtin.append_ #[42, 42] 42 #[.slice (some ⟨b, o, none⟩) i c, .slice X m dc]).run Tryz.prog w.drew = .ok (.slice (some ⟨b, o, none⟩) (n - 1) c) (w.drew.setRow b cur1) := by
    intro X m dc hm hX1 hX2
    subst hm
    obtain ⟨ii, hii, hzz, hss, hbb⟩ := info_parts infoIn
    have hfl : ((kE .i64).flat (xs.drop (i + 1))).length = (n - (i + 1)) * 1 := by rw [(kE .i64).flat_length, hdl]; rfl
    have hfl0 : ((kE .i64).flat (xs.take i)).length = i * 1 := by rw [(kE .i64).flat_length, hil]; rfl
    have hf : (Builtin.firstCells 1 (n - (i + 1)) (.slice X (n - (i + 1)) dc)).run Tryz.prog w.drew = .ok ((kE .i64).flat (xs.drop (i + 1))).toArray w.drew := by
      by_cases hcc : c = i + 1
      · obtain ⟨rfl, rfl⟩ := hX2 hcc
        have e0 : n - (i + 1) = 0 := by omega
        rw [e0] at hfl ⊢
        have : (kE .i64).flat (xs.drop (i + 1)) = [] := List.eq_nil_of_length_eq_zero (by simpa using hfl)
        rw [this]
        exact run_firstCells_some (P := Tryz.prog) w.drew 1 0 _ _ _ [] rfl (by intro j u h; simp at h)
      · obtain ⟨rfl, rfl⟩ := hX1 hcc
        exact run_firstCells_some (P := Tryz.prog) w.drew 1 _ _ _ _ _ hfl (fun j u hu => by rw [Addr.add_lit]; exact hcell j u hu)
    have hst := run_storeCells_at Tryz.prog b (o + i * 1) 3 ((kE .i64).flat (xs.drop (i + 1))) 0 cur w.drew hb (by rw [hfl]; omega) ((kE .i64).flat_one' _)
    simp only [Nat.add_zero, Nat.mul_one] at hst
    refine ⟨(cur.toList.take (o + i * 1) ++ (kE .i64).flat (xs.drop (i + 1)) ++ cur.toList.drop (o + i * 1 + ((kE .i64).flat (xs.drop (i + 1))).length)).toArray, ?_, ?_, ?_⟩
    rotate_left 2
    · have hroom : i + (n - (i + 1)) ≤ c := by omega
      have e1 : i + (n - (i + 1)) = n - 1 := by omega
      simp [Builtin.append_, run_underlying Tryz.underlying42, sizeOf, typeInfo, hii, hss, Builtin.lenOf, hf, Addr.add_lit, hst, e1]
      intro h; omega
    · simp only [List.size_toArray, List.length_append, List.length_take, List.length_drop, hlen, hfl]; omega
    · have htm := take_mid cur.toList o (i * 1) ((kE .i64).flat (xs.drop (i + 1))).length ((kE .i64).flat (xs.drop (i + 1))) rfl (by rw [hlen, hfl]; omega)
      have e2 : (n - 1) * 1 = i * 1 + ((kE .i64).flat (xs.drop (i + 1))).length := by rw [hfl]; omega
      rw [e2]
      show List.take _ (List.drop o (List.take (o + i * 1) cur.toList ++ (kE .i64).flat (xs.drop (i + 1)) ++ List.drop (o + i * 1 + ((kE .i64).flat (xs.drop (i + 1))).length) cur.toList)) = _
      rw [htm, hz, Enc.flat_append]
      congr 1
      rw [← (kE .i64).flat_take, ← hcur, List.take_take]
      congr 1
      show i * 1 = min (i * 1) (n * 1); omega
  -- the clear
  have hclr : ∀ cur1 : Array Value, cur1.size = cur.size → (cur1.toList.drop o).take ((n - 1) * 1) = (kE .i64).flat zs → ∃ cur2, (∀ dc, (Builtin.clear_ #[42] 0 #[.slice (some ⟨b, o + (n - 1) * 1, none⟩) 1 dc]).run Tryz.prog (w.drew.setRow b cur1) = .ok (.tuple #[]) ((w.drew.setRow b cur1).setRow b cur2)) ∧
      RowPost (kE .i64) 3 (OneB b) w zs (.returned (.slice (some ⟨b, o, none⟩) (n - 1) c)) ((w.drew.setRow b cur1).setRow b cur2) := by
    intro cur1 hs1 ht1
    have hb1 : (w.drew.setRow b cur1).heap[b]? = some (.cells cur1 3 (0, 0)) := setRow_heap w.drew b cur cur1 _ _ hb
    have hl1 : cur1.toList.length = cur.size := by simp [hs1]
    have hzl : (Builtin.zeroCells (Value.int .i64 0).cells 1).toList.length = 1 := by rw [Array.length_toList, size_zeroCells]; rfl
    refine ⟨_, fun dc => run_clear_at (P := Tryz.prog) Tryz.underlying42 etyIn hb1 (by omega) (by rw [hs1]; show _ + 1 * 1 ≤ _; omega) (zero_cells_in 1), ?_⟩
    refine ⟨_, OneB b, rfl, .inr ⟨b, o, c, _, ?_, rfl, setRow_heap _ b cur1 _ _ _ hb1, ?_, hc2, ?_, ?_⟩, ⟨rfl, rfl, rfl, by simp [World.setRow], fun k _ hk => (setRow_other _ b k _ (fun e => hk e)).trans (setRow_other w.drew b k _ (fun e => hk e))⟩, fun b hb => .inl hb⟩
    · congr 1; rw [hz]; simp; omega
    · rw [hz]; simp; omega
    · simp only [List.size_toArray, List.length_append, List.length_take, List.length_drop, hl1, hzl]
      show o + c * 1 ≤ _ + (_ - (_ + 1 * 1)); omega
    · have hzn : zs.length = n - 1 := by rw [hz]; simp; omega
      rw [hzn, ← ht1]
      show List.take ((n - 1) * 1) (List.drop o (List.take (o + (n - 1) * 1) cur1.toList ++ (Builtin.zeroCells (Value.int .i64 0).cells 1).toList ++ List.drop (o + (n - 1) * 1 + 1 * 1) cur1.toList)) = _
      rw [List.append_assoc, List.drop_append, List.length_take, hl1, show o - min (o + (n - 1) * 1) cur.size = 0 by omega, List.drop_zero, List.drop_take]
      have e3 : o + (n - 1) * 1 - o = (n - 1) * 1 := by omega
      rw [e3]
      exact List.take_left' (by simp only [List.length_take, List.length_drop, hl1]; omega)
  have HAP := Lib.hid hap
  have HCL := Lib.hid hclr
  clear hap hclr hrow hil hdl hcell hcur hb hx hz hlen hc3
  have hb2 : ¬ (c = i) := by omega
  have hb3 : ¬ (c = n - 1) := by omega
  have hb4 : i + 1 ≤ n := by omega
  have hb5 : (0 : Int) ≤ (i : Int) + 1 := by omega
  have hw1 : IntKind.i64.wrap ((i : Int) + 1) = (i : Int) + 1 := by rw [IntKind.wrap_i64]; omega
  have htn : ((i : Int) + 1).toNat = i + 1 := by omega
  have hb6 : n - (n - 1) = 1 := by omega
  have hb7 : i ≤ n := by omega
  have hb8 : n - 1 ≤ n := by omega
  have hb9 : i ≤ c := by omega
  have hb11 : (i : Int) + 1 ≤ (n : Int) := by omega
  have hb10 : (i : Int) ≤ (i : Int) + 1 := by omega
  by_cases hcc : c = i + 1
  · subst hcc
    obtain ⟨cur1, hs1, ht1, hr1⟩ := HAP.out (some ⟨b, o, none⟩) 0 0 (by omega) (by intro h; exact absurd rfl h) (by intro _; exact ⟨rfl, rfl⟩)
    obtain ⟨cur2, hr2, hp0⟩ := HCL.out cur1 hs1 ht1
    simp only [Nat.mul_one] at hr1 hr2
    have hp := Lib.hid hp0
    have HR := Lib.hid hr1
    clear hs1 ht1 hp0 hr1 HAP HCL
    go_enter Tryz.func209, Tryz.ntmps209
    go_wp2
    go_region_law (refine step_append_by rfl _ _ _ _ rfl (by simp [Act.eval, Act.put]) (by simp [Act.eval, Act.put]) HR.out ?_)
    go_wp2
    go_ret
    exact hp.out
  · obtain ⟨cur1, hs1, ht1, hr1⟩ := HAP.out (some ⟨b, o + (i + 1) * 1, none⟩) (n - (i + 1)) (c - (i + 1)) rfl (by intro _; exact ⟨rfl, rfl⟩) (by intro h; exact absurd h hcc)
    obtain ⟨cur2, hr2, hp0⟩ := HCL.out cur1 hs1 ht1
    simp only [Nat.mul_one] at hr1 hr2
    have hp := Lib.hid hp0
    have HR := Lib.hid hr1
    clear hs1 ht1 hp0 hr1 HAP HCL
    go_enter Tryz.func209, Tryz.ntmps209
    go_wp2
    go_region_law (refine step_append_by rfl _ _ _ _ rfl (by simp [Act.eval, Act.put]) (by simp [Act.eval, Act.put]) HR.out ?_)
    go_wp2
    go_ret
    exact hp.out

/-- slices.Delete of one element at a row of sleepers. -/
theorem del_in (w : World) (F : Nat → Prop) (v : Value) (xs : List Int) (hrow : Row (kE .i64) 3 w F v xs) (i : Nat) (hi : i < xs.length) (hn : xs.length ≤ 1000000000) :
    Calls Tryz.prog 209 #[v, .int .i64 i, .int .i64 (i + 1)] w (RowPost (kE .i64) 3 F w (xs.take i ++ xs.drop (i + 1))) := by
  rcases hrow with ⟨rfl, rfl, rfl⟩ | ⟨b, o, c, cur, rfl, rfl, hb, hc1, hc2, hc3, hcur⟩
  · simp at hi
  · exact del_in_at w b o c _ cur xs _ i rfl rfl hb hc1 hc2 hc3 hcur hi hn
end Go.Proofs.YtfhkgohokbkgiaaGreatDoor
set_option linter.unusedVariables false
set_option linter.unusedSimpArgs false
namespace Go.Proofs.YtfhkgohokbkgiaaGreatDoor
open Go.RowKit G
def idxL (l : List Int) (id : Int) : Int := match l.findIdx? (fun e => e == id) with | none => -1 | some i => (i : Int)
theorem idxL_none {l : List Int} {id : Int} (h : ∀ e ∈ l, e ≠ id) : idxL l id = -1 := by
 rw [idxL, List.findIdx?_eq_none_iff.2 fun e he => by simpa using h e he]
theorem idxL_some {l : List Int} {id : Int} {i : Nat} (he : l[i]? = some id) (hno : ∀ v e, v < i → l[v]? = some e → e ≠ id) : idxL l id = i := by
 have : l.findIdx? (fun e => e == id) = some i := by
  obtain ⟨hi, rfl⟩ := List.getElem?_eq_some_iff.1 he
  refine List.findIdx?_eq_some_iff_getElem.2 ⟨hi, by simp, fun j hj => ?_⟩
  simpa using hno j l[j] hj (List.getElem?_eq_getElem _)
 rw [idxL, this]
theorem idxL_has (l : List Int) (id : Int) : decide (idxL l id ≥ 0) = l.contains id := by
 unfold idxL
 cases h : l.findIdx? (fun e => e == id) with
 | none =>
  have := List.findIdx?_eq_none_iff.1 h
  have h2 : l.contains id = false := by
   cases c : l.contains id with
   | false => rfl
   | true => have := this id (by simpa using c); simp at this
  rw [h2]; rfl
 | some i =>
  obtain ⟨h1, h2, _⟩ := List.findIdx?_eq_some_iff_getElem.1 h
  have h3 : l.contains id = true := by
   have : l[i] = id := by simpa using h2
   simp only [List.contains_iff_mem]
   exact this ▸ List.getElem_mem h1
  rw [h3]; simp
set_option maxRecDepth 100000 in
theorem idxL_walk (H : List SP) (s : SV Int) (hk : KR H (kE .i64) s) (hl : s.l.length ≤ 1000000) (id : Int) : ∀ w, Sat w H → Calls Tryz.prog 247 #[.slice s.a s.l.length s.c, vi id] w (Ret (ι := Unit) (fun _ => vi (idxL s.l id)) fun _ => H) := by
 refine enterG (fn := Tryz.f247) 19 [.slice s.a s.l.length s.c, vi id] Tryz.func247 (by kernel_rfl) (by kernel_rfl) (by kernel_rfl) ?_
 refine Xq (Xg 1 (Xe [(0,.slice s.a s.l.length s.c), (1,vi id), (4,vi 0)] ?_ 1))
 refine Xq (Xq (Xg 3 (Xe [(0,.slice s.a s.l.length s.c), (1,vi id), (4,vi 0), (7,vi (s.l.length : Int)), (8,vi 0)] ?_ 3)))
 refine Xb 0 (Xp [(0,.slice s.a s.l.length s.c), (1,vi id), (7,vi (s.l.length : Int)), (8,vi 0)] (Xl0 (fun (v : Nat) => [(0,.slice s.a s.l.length s.c), (1,vi id), (7,vi (s.l.length : Int)), (8,vi v)]) (fun k (v : Nat) => k + v = s.l.length ∧ ∀ u e, u < v → s.l[u]? = some e → e ≠ id) s.l.length 0 (by kernel_rfl) ⟨by simp, fun u e h => by omega⟩ ?_))
 rintro k v ⟨hkv, hno⟩
 refine Xq (Xg 1 (Xe [(0,.slice s.a s.l.length s.c), (1,vi id), (7,vi (s.l.length : Int)), (8,vi v), (9,.bool (decide ((v : Int) < (s.l.length : Int))))] ?_ 1))
 refine Xq (Xc (decide ((v : Int) < (s.l.length : Int))) (fun h1 => ?_) (fun h1 => ?_))
 ·skip
  have hv := of_decide_eq_true h1
  obtain ⟨x, hx⟩ : ∃ x, s.l[v]? = some x := ⟨_, List.getElem?_eq_getElem (by omega)⟩
  refine PT.know ((hk).isSome (List.ne_nil_of_length_pos (by omega))) ?_
  rintro ⟨sb, so, hA'⟩
  try rw [hA']
  refine Xk (Xq (Xb 1 (Xq (Xg 2 (Xe [(0,.slice (some ⟨sb, so, none⟩) s.l.length s.c), (1,vi id), (7,vi (s.l.length : Int)), (8,vi v), (5,vi v)] ?_ 2)))))
  refine Xq (Xg 6 (Xr [(0,.slice (some ⟨sb, so, none⟩) s.l.length s.c), (1,vi id), (7,vi (s.l.length : Int)), (8,vi v), (5,vi v), (11,vi id), (12,.slice (some ⟨sb, so, none⟩) s.l.length s.c), (13,vi v)] ?_ 3 3))
  refine Xs (yldS (Xi 42 (.tmp 12) (.tmp 13) sb so s.l.length s.c v 1 3 (v : Int) 14 Tryz.underlying42)) (fun _ => ?_) 2
  refine Xm [(0,.slice (some ⟨sb, so, none⟩) s.l.length s.c), (1,vi id), (7,vi (s.l.length : Int)), (8,vi v), (5,vi v), (16,.bool (id == x))] [(⟨sb, so + v * 1, none⟩, vi x)] (hasC (hk.cell hA' (i := v) (x := x) hx (j := 0) rfl) has0) ?_ 2
  refine Xc (id == x) (fun h2 => ?_) (fun h2 => ?_)
  ·skip
   have e2 : id = x := by simpa using h2
   refine Xq (Xg 2 (Xe [(0,.slice (some ⟨sb, so, none⟩) s.l.length s.c), (1,vi id), (7,vi (s.l.length : Int)), (8,vi v), (4,vi v)] ?_ 2))
   refine Xv (blockV (thenV (thenV (blockV (thenV ?_)))))
   try rw [← hA']
   refine Y0 (vi v) (fun w hs => ?_)
   exact ⟨(), by rw [idxL_some (i := v) (by rw [hx, e2]) hno], hs⟩
  ·skip
   have e2 : ¬ id = x := by simpa using h2
   refine Xk (Xg 2 (Xe [(0,.slice (some ⟨sb, so, none⟩) s.l.length s.c), (1,vi id), (7,vi (s.l.length : Int)), (8,vi (IntKind.i64.wrap ((v : Int) + 1)))] ?_ 2))
   try rw [← hA']
   rw [show IntKind.i64.wrap ((v : Int) + 1) = ((v : Int) + 1) by rw [w64 (by omega) (by omega)]]
   refine Xp [(0,.slice s.a s.l.length s.c), (1,vi id), (7,vi (s.l.length : Int)), (8,vi ((v : Int) + 1))] ?_
   exact againG (k - 1) (v + 1) rfl rfl (by omega) ⟨by omega, fun u e hu he => by rcases Nat.lt_succ_iff_lt_or_eq.1 hu with hu | rfl; exact hno u e hu he; rw [hx] at he; cases he; exact fun e => e2 e.symm⟩
 ·skip
  have hv : ¬ (v : Int) < s.l.length := of_decide_eq_false h1
  refine Xx 0 (thenX (thenX (leaveR (Xq (Xg 1 (Xe [(4,vi (-1))] ?_ 1))))))
  refine Xv (Y0 (vi (-1)) (fun w hs => ?_))
  exact ⟨(), by rw [idxL_none fun e he => by obtain ⟨u, hu⟩ := List.getElem?_of_mem he; exact hno u e (by have := (List.getElem?_eq_some_iff.1 hu).1; omega) hu], hs⟩
set_option maxRecDepth 100000 in
theorem contains_walk (H : List SP) (s : SV Int) (hk : KR H (kE .i64) s) (hl : s.l.length ≤ 1000000) (id : Int) : ∀ w, Sat w H → Calls Tryz.prog 227 #[.slice s.a s.l.length s.c, vi id] w (Ret (ι := Unit) (fun _ => .bool (s.l.contains id)) fun _ => H) := by
 refine enterG (fn := Tryz.f227) 9 [.slice s.a s.l.length s.c, vi id] Tryz.func227 (by kernel_rfl) (by kernel_rfl) (by kernel_rfl) ?_
 refine Xq (Xg 1 (Xe [(0,.slice s.a s.l.length s.c), (1,vi id), (4,.bool false)] ?_ 1))
 refine Xq (Xg 5 (Xr [(4,.bool false), (5,.slice s.a s.l.length s.c), (6,vi id)] ?_ 3 2))
 refine Xs (Xa (some 7) (fun _ => vi (idxL s.l id)) (idxL_walk _ s hk hl id)) (fun _ => ?_) 2
 refine Xe [(4,.bool (decide ((idxL s.l id) ≥ 0)))] ?_ 2
 refine Xv (Y0 (.bool (decide ((idxL s.l id) ≥ 0))) (fun w hs => ?_))
 exact ⟨(), by rw [← idxL_has], hs⟩
theorem delI_walk (H : List SP) (v : Value) (xs : List Int) (i : Nat) (hi : i < xs.length) (hn : xs.length ≤ 1000000000) :
  ∀ w, Sat w (row (kE .i64) 3 v xs :: H) → Calls Tryz.prog 209 #[v, .int .i64 i, .int .i64 ((i : Int) + 1)] w (Ret (ι := Option Addr × Nat) (fun p => .slice p.1 (xs.take i ++ xs.drop (i + 1)).length p.2) fun p => row (kE .i64) 3 (.slice p.1 (xs.take i ++ xs.drop (i + 1)).length p.2) (xs.take i ++ xs.drop (i + 1)) :: H) :=
 rowCall fun w F hr _ => del_in w F v xs hr i hi hn
end Go.Proofs.YtfhkgohokbkgiaaGreatDoor
set_option linter.unusedVariables false
set_option linter.unusedSimpArgs false
namespace Go.Proofs.YtfhkgohokbkgiaaGreatDoor
open Go.RowKit G
/-- An object in memory: its count, where its row lies, how much room that has; who waits. -/
structure Oz where
 c : Int
 a : Option Addr
 k : Nat
 l : List Int
def obE : Enc Oz := ⟨2, by decide, fun z => [.int .i64 z.c, .slice z.a z.l.length z.k], fun _ => rfl, by intro a u hu; simp at hu; rcases hu with rfl | rfl <;> rfl⟩
def obF (z : Oz) : Ob := (z.c, z.l)
def ozR (z : Oz) : SP := row (kE .i64) 3 (.slice z.a z.l.length z.k) z.l
def obL (Z : List Oz) : List SP := Z.map ozR
def obX (Z : List Oz) (j : Nat) : List SP := (obL Z).eraseIdx j
def obsS (b : Nat) (O : List Ob) : SP := exS fun Z : List Oz => two (pureS (Z.map obF = O ∧ Z.length = 4)) (manyS (row obE 247 (.slice (some ⟨b, 0, none⟩) 4 4) Z :: obL Z))
theorem Sat.openObs {b : Nat} {O : List Ob} {H : List SP} {w : World} (h : Sat w (obsS b O :: H)) : ∃ Z : List Oz, Z.map obF = O ∧ Z.length = 4 ∧ Sat w (row obE 247 (.slice (some ⟨b, 0, none⟩) 4 4) Z :: (obL Z ++ H)) := by
 obtain ⟨Z, h⟩ := Sat.openEx h
 obtain ⟨⟨h1, h2⟩, h⟩ := Sat.openPure (Sat.openTwo h)
 exact ⟨Z, h1, h2, Sat.openMany h⟩
theorem Sat.closeObs {b : Nat} {O : List Ob} {Z : List Oz} {H : List SP} {w : World} (h1 : Z.map obF = O) (h2 : Z.length = 4) (h : Sat w (row obE 247 (.slice (some ⟨b, 0, none⟩) 4 4) Z :: (obL Z ++ H))) : Sat w (obsS b O :: H) :=
 Sat.closeEx Z (Sat.closeTwo (Sat.closePure ⟨h1, h2⟩ (Sat.closeMany (l := row obE 247 (.slice (some ⟨b, 0, none⟩) 4 4) Z :: obL Z) h)))
theorem idx_perm {α : Type} {a : α} : ∀ {l : List α} {i : Nat}, l[i]? = some a → (a :: l.eraseIdx i).Perm l
 | [], i, h => by simp at h
 | x :: l, 0, h => by simp at h; subst h; exact List.Perm.refl _
 | x :: l, i + 1, h => (List.Perm.swap _ _ _).trans ((idx_perm (l := l) (i := i) (by simpa using h)).cons x)
theorem obL_at {Z : List Oz} {j : Nat} {z : Oz} (hz : Z[j]? = some z) (H : List SP) : (obL Z ++ H)[j]? = some (ozR z) := by
 have h1 : (obL Z)[j]? = some (ozR z) := by rw [obL, List.getElem?_map, hz]; rfl
 obtain ⟨h2, _⟩ := List.getElem?_eq_some_iff.1 h1
 rw [List.getElem?_append_left h2, h1]
theorem obL_kr {Z : List Oz} {j : Nat} {z : Oz} (hz : Z[j]? = some z) (P : SP) (H : List SP) : KR (P :: (obL Z ++ H)) (kE .i64) ⟨z.a, z.k, z.l⟩ := rowKRat (j + 1) (by rw [List.getElem?_cons_succ]; exact obL_at hz H)
theorem obX_set (Z : List Oz) (j : Nat) (z : Oz) : obX (Z.set j z) j = obX Z j := by
 rw [obX, obX, obL, obL, List.map_set, List.eraseIdx_set_eq]
theorem obPick {Z : List Oz} {j : Nat} {z : Oz} (hz : Z[j]? = some z) {P : SP} {H : List SP} {w : World} (h : Sat w (P :: (obL Z ++ H))) : Sat w (ozR z :: P :: (obX Z j ++ H)) := by
 have h1 := Sat.pick (j + 1) (P := ozR z) (by rw [List.getElem?_cons_succ]; exact obL_at hz H) h
 have h2 : (obL Z)[j]? = some (ozR z) := by rw [obL, List.getElem?_map, hz]; rfl
 obtain ⟨h3, _⟩ := List.getElem?_eq_some_iff.1 h2
 rw [List.eraseIdx_cons_succ, List.eraseIdx_append_of_lt_length h3] at h1
 exact h1
theorem obPut {Z : List Oz} {j : Nat} (hj : j < Z.length) (z : Oz) {P : SP} {H : List SP} {w : World} (h : Sat w (ozR z :: P :: (obX Z j ++ H))) : Sat w (P :: (obL (Z.set j z) ++ H)) := by
 have hz : (obL (Z.set j z))[j]? = some (ozR z) := by rw [obL, List.getElem?_map, List.getElem?_set_self hj]; rfl
 obtain ⟨h3, h4⟩ := List.getElem?_eq_some_iff.1 hz
 have hp : (ozR z :: P :: (obX Z j ++ H)).Perm (P :: (obL (Z.set j z) ++ H)) := by
  refine (List.Perm.swap _ _ _).trans (List.Perm.cons _ ?_)
  rw [← List.cons_append]
  refine List.Perm.append_right _ ?_
  rw [← obX_set Z j z, obX]
  exact idx_perm hz
 exact Sat.perm hp h
def wtsZ (Z : List Oz) (id : Int) : Int := match Z.findIdx? (fun z => z.l.contains id) with | none => -1 | some i => (i : Int)
theorem wtsZ_none {Z : List Oz} {id : Int} (h : ∀ z ∈ Z, z.l.contains id = false) : wtsZ Z id = -1 := by
 rw [wtsZ, List.findIdx?_eq_none_iff.2 h]
theorem wtsZ_some {Z : List Oz} {id : Int} {i : Nat} {z : Oz} (hz : Z[i]? = some z) (hc : z.l.contains id = true) (hno : ∀ v z, v < i → Z[v]? = some z → z.l.contains id = false) : wtsZ Z id = i := by
 have : Z.findIdx? (fun z => z.l.contains id) = some i := by
  obtain ⟨hi, rfl⟩ := List.getElem?_eq_some_iff.1 hz
  refine List.findIdx?_eq_some_iff_getElem.2 ⟨hi, hc, fun j hj => ?_⟩
  rw [hno j Z[j] hj (List.getElem?_eq_getElem _)]; decide
 rw [wtsZ, this]
theorem wtsZ_cases (Z : List Oz) (id : Int) : (wtsZ Z id = -1 ∧ obHas (Z.map obF) id = false) ∨ ∃ (i : Nat) (z : Oz), wtsZ Z id = i ∧ Z[i]? = some z ∧ z.l.contains id = true ∧ obHas (Z.map obF) id = true := by
 have hany : obHas (Z.map obF) id = Z.any fun z => z.l.contains id := by rw [obHas, List.any_map]; rfl
 rw [hany]
 unfold wtsZ
 cases h : Z.findIdx? (fun z => z.l.contains id) with
 | none =>
  refine .inl ⟨rfl, ?_⟩
  rw [List.any_eq_false]
  intro z hz
  rw [List.findIdx?_eq_none_iff.1 h z hz]; decide
 | some i =>
  obtain ⟨h1, h2, _⟩ := List.findIdx?_eq_some_iff_getElem.1 h
  exact .inr ⟨i, Z[i], rfl, List.getElem?_eq_getElem h1, h2, List.any_eq_true.2 ⟨Z[i], List.getElem_mem h1, h2⟩⟩
set_option maxRecDepth 100000 in
theorem waits_walk (H : List SP) (b : Nat) (Z : List Oz) (id : Int) (hZ : Z.length = 4) (hl : ∀ z ∈ Z, z.l.length ≤ 1000000) : ∀ w, Sat w (row obE 247 (.slice (some ⟨b, 0, none⟩) 4 4) Z :: (obL Z ++ H)) → Calls Tryz.prog 203 #[vp b, vi id] w (Ret (ι := Unit) (fun _ => vi (wtsZ Z id)) fun _ => row obE 247 (.slice (some ⟨b, 0, none⟩) 4 4) Z :: (obL Z ++ H)) := by
 refine enterG (fn := Tryz.f203) 20 [vp b, vi id] Tryz.func203 (by kernel_rfl) (by kernel_rfl) (by kernel_rfl) ?_
 refine Xq (Xg 1 (Xe [(0,vp b), (1,vi id), (4,vi 0)] ?_ 1))
 refine scopeG 0 (fun (u : Nat) => [(0, vp b), (1, vi id), (5, vi u)]) (fun _ => (row obE 247 (.slice (some ⟨b, 0, none⟩) 4 4) Z :: (obL Z ++ H))) (fun k (u : Nat) => k + u = 4 ∧ ∀ v z, v < u → Z[v]? = some z → z.l.contains id = false) (by kernel_rfl) (by kernel_rfl) (by kernel_rfl) (by kernel_rfl) ?_ ?_
 ·skip
  rintro k u ⟨hku, hno⟩ K hK
  refine Xq (Xq (Xg 2 (Xe [(0,vp b), (1,vi id), (5,vi u), (7,.bool ((u : Int) == 4))] ?_ 2)))
  refine Xc ((u : Int) == 4) (fun h1 => ?_) (fun h1 => ?_)
  ·skip
   have hu0 : (u : Int) = 4 := eq_of_beq h1
   refine Xq (Xg 1 (Xe [(0,vp b), (1,vi id), (5,vi u), (4,vi (-1))] ?_ 1))
   refine Xv (thenV (jumpV (Y0 (vi (-1)) (fun w hs => ?_))))
   exact ⟨(), by rw [wtsZ_none fun z hz => by obtain ⟨v, hv⟩ := List.getElem?_of_mem hz; exact hno v z (by have := (List.getElem?_eq_some_iff.1 hv).1; omega) hv], hs⟩
  ·skip
   have hu0 : ¬ (u : Int) = 4 := beq_eq_false_iff_ne.1 h1
   obtain ⟨z, hz⟩ : ∃ z, Z[u]? = some z := ⟨_, List.getElem?_eq_getElem (by omega)⟩
   refine Xk (Xq (Xq (Xg 9 (Xr [(0,vp b), (1,vi id), (5,vi u), (9,vi u), (11,vp b)] ?_ 5 4))))
   refine Xs (yldS (Xj 245 (.tmp 11) (.tmp 9) b 0 4 u 2 244 (u : Int) 12 Tryz.underlying245)) (fun _ => ?_) 4
   refine Xl [(0,vp b), (1,vi id), (5,vi u), (14,.slice z.a z.l.length z.k), (15,vi id)] [(⟨b, 0 + u * 2 + 1, none⟩, .slice z.a z.l.length z.k)] (hasC (rowCell (E := obE) (xs := Z) 0 rfl (x := z) hz (j := 1) rfl) has0) ?_ 1 3
   refine Xs (Xa (some 16) (fun _ => .bool (z.l.contains id)) (contains_walk (row obE 247 (.slice (some ⟨b, 0, none⟩) 4 4) Z :: (obL Z ++ H)) ⟨z.a, z.k, z.l⟩ (obL_kr hz _ _) (hl z (List.mem_of_getElem? hz)) id)) (fun _ => ?_) 0
   refine endR ?_
   refine Xc (z.l.contains id) (fun h2 => ?_) (fun h2 => ?_)
   ·skip
    refine Xq (Xg 2 (Xe [(0,vp b), (1,vi id), (5,vi u), (4,vi u)] ?_ 2))
    refine Xv (thenV (jumpV (Y0 (vi u) (fun w hs => ?_))))
    exact ⟨(), by rw [wtsZ_some hz h2 hno], hs⟩
   ·skip
    refine Xk (Xq (Xg 3 (Xe [(0,vp b), (1,vi id), (5,vi (IntKind.i64.wrap ((u : Int) + 1)))] ?_ 3)))
    refine gotoR 0 (by kernel_rfl) (by kernel_rfl) ?_
    rw [show IntKind.i64.wrap ((u : Int) + 1) = ((u : Int) + 1) by rw [w64 (by omega) (by omega)]]
    refine Xp [(0,vp b), (1,vi id), (5,vi ((u : Int) + 1))] ?_
    exact jumpR (hK (k - 1) (u + 1) (by omega) ⟨by omega, fun v y hv hy => by rcases Nat.lt_succ_iff_lt_or_eq.1 hv with hv | rfl; exact hno v y hv hy; rw [hz] at hy; cases hy; exact h2⟩)
 ·skip
  intro K hK
  refine Xq (Xg 1 (Xe [(0,vp b), (1,vi id), (4,vi 0), (5,vi 0)] ?_ 1))
  refine Xq ?_
  refine labelR (by kernel_rfl) ?_
  refine Xp [(0,vp b), (1,vi id), (5,vi 0)] ?_
  refine codeR (by kernel_rfl) (hK 4 0 ⟨by omega, fun v z h => by omega⟩)
end Go.Proofs.YtfhkgohokbkgiaaGreatDoor
set_option linter.unusedVariables false
set_option linter.unusedSimpArgs false
namespace Go.Proofs.YtfhkgohokbkgiaaGreatDoor
open Go.RowKit G
set_option maxRecDepth 100000 in
theorem obis_walk (H : List SP) (j : Int) : ∀ w, Sat w H → Calls Tryz.prog 208 #[vi j] w (Ret (ι := Unit) (fun _ => .bool (isOb j)) fun _ => H) := by
 refine enterG (fn := Tryz.f208) 9 [vi j] Tryz.func208 (by kernel_rfl) (by kernel_rfl) (by kernel_rfl) ?_
 refine Xq (Xg 1 (Xe [(0,vi j), (2,.bool false)] ?_ 1))
 refine Xq (Xg 7 (Xr [(0,vi j), (2,.bool false), (5,.bool (decide (j ≥ 0)))] ?_ 4 3))
 refine (Xs0 1 3 [(2,.bool false), (8,.bool ((decide (j ≥ 0)) && (decide (j < 4))))] ?_ ?_ : RT _ _ _ _ _ _ 4 _)
 ·cases hg3 : (decide (j ≥ 0)) with
  | true =>
   refine Xe [(2,.bool false), (8,.bool (decide (j < 4)))] ?_ 3
   refine Xp [(2,.bool false), (8,.bool (true && (decide (j < 4))))] ?_
   exact midR () rfl rfl
  | false =>
   refine Xe [(2,.bool false), (8,.bool false)] ?_ 3
   refine Xp [(2,.bool false), (8,.bool (false && (decide (j < 4))))] ?_
   exact midR () rfl rfl
 refine Xe [(2,.bool ((decide (j ≥ 0)) && (decide (j < 4))))] ?_ 1
 refine Xv (Y0 (.bool ((decide (j ≥ 0)) && (decide (j < 4)))) (fun w hs => ?_))
 exact ⟨(), rfl, hs⟩
theorem isOb_nat {j : Int} (h : isOb j = true) : ∃ u : Nat, u < 4 ∧ j = (u : Int) := by
 simp [isOb] at h
 exact ⟨j.toNat, by omega, by omega⟩
theorem obL_c {Z : List Oz} {u : Nat} {z : Oz} (hz : Z[u]? = some z) (c : Int) : obL (Z.set u { z with c := c }) = obL Z := by
 refine List.ext_getElem? fun i => ?_
 rw [obL, obL, List.getElem?_map, List.getElem?_map, List.getElem?_set]
 split
 ·rename_i h
  subst h
  obtain ⟨h1, h2⟩ := List.getElem?_eq_some_iff.1 hz
  rw [if_pos h1, hz]; rfl
 ·rfl
theorem obAt_Z {Z : List Oz} {u : Nat} {z : Oz} (hz : Z[u]? = some z) : obAt (Z.map obF) (u : Int) = (z.c, z.l) := by
 rw [obAt, List.getD_eq_getElem?_getD, Int.toNat_natCast, List.getElem?_map, hz]; rfl
set_option maxHeartbeats 1000000 in
set_option maxRecDepth 100000 in
theorem wait_walk (H : List SP) (b : Nat) (Z : List Oz) (id j : Int) (hZ : Z.length = 4) (hl : ∀ z ∈ Z, z.l.length ≤ 1000000) (hc : ∀ z ∈ Z, 0 ≤ z.c ∧ z.c ≤ 255) : ∀ w, Sat w (row obE 247 (.slice (some ⟨b, 0, none⟩) 4 4) Z :: (obL Z ++ H)) → Calls Tryz.prog 183 #[vp b, vi id, vi j] w (Ret (ι := { Z' : List Oz // Z'.map obF = (obWait (Z.map obF) id j).2 ∧ Z'.length = 4 }) (fun _ => .tuple #[.bool (obWait (Z.map obF) id j).1.1, pqErr (obWait (Z.map obF) id j).1.2]) fun x => row obE 247 (.slice (some ⟨b, 0, none⟩) 4 4) x.1 :: (obL x.1 ++ H)) := by
 refine enterG (fn := Tryz.f183) 56 [vp b, vi id, vi j] Tryz.func183 (by kernel_rfl) (by kernel_rfl) (by kernel_rfl) ?_
 refine Xq (Xg 2 (Xe [(0,vp b), (1,vi id), (2,vi j), (6,.bool false), (7,.nilIface)] ?_ 2))
 refine Xq (Xb 0 (Xq (Xg 4 (Xr [(0,vp b), (1,vi id), (2,vi j), (6,.bool false), (7,.nilIface), (9,vi j)] ?_ 3 1))))
 refine Xs (Xa (some 10) (fun _ => .bool (isOb j)) (obis_walk _ j)) (fun _ => ?_) 2
 refine Xe [(0,vp b), (1,vi id), (2,vi j), (6,.bool false), (7,.nilIface), (8,.bool (!(isOb j)))] ?_ 2
 cases hj : (isOb j) with
 | true =>
  refine Xc false (fun h => by cases h) (fun _ => ?_)
  refine Xq (Xg 5 (Xr [(0,vp b), (1,vi id), (2,vi j), (6,.bool false), (7,.nilIface), (14,vp b), (15,vi id)] ?_ 3 2))
  refine Xs (Xa (some 16) (fun _ => vi (wtsZ Z id)) (waits_walk _ b Z id hZ hl)) (fun _ => ?_) 2
  refine Xe [(0,vp b), (1,vi id), (2,vi j), (6,.bool false), (7,.nilIface), (13,.bool (decide ((wtsZ Z id) ≥ 0)))] ?_ 2
  obtain ⟨u, hu4, rfl⟩ := isOb_nat hj
  obtain ⟨z, hz⟩ : ∃ z, Z[u]? = some z := ⟨_, List.getElem?_eq_getElem (by omega)⟩
  have hzm := List.mem_of_getElem? hz
  have hat := obAt_Z hz
  refine Xc (decide ((wtsZ Z id) ≥ 0)) (fun h2 => ?_) (fun h2 => ?_)
  ·skip
   have hh : obHas (Z.map obF) id = true := by rcases wtsZ_cases Z id with ⟨e, _⟩ | ⟨i, y, e, _, _, r⟩; rw [e] at h2; simp at h2; exact r
   have he : obWait (Z.map obF) id (u : Int) = ((false, 20), Z.map obF) := by rw [obWait, if_neg (by rw [hj]; simp), if_pos hh]
   refine Xq (Xg 3 (Xe [(0,vp b), (1,vi id), (2,vi u), (6,.bool false), (7,.iface 126 (vi 20))] ?_ 3))
   refine Xv (blockV (thenV (Y0 (.tuple #[.bool false, .iface 126 (vi 20)]) (fun w hs => ?_))))
   exact ⟨⟨Z, by rw [he], hZ⟩, by show Ending.returned _ = Ending.returned (.tuple #[.bool (obWait (Z.map obF) id (u : Int)).1.1, pqErr (obWait (Z.map obF) id (u : Int)).1.2]); rw [he]; rfl, hs⟩
  ·skip
   have hh : ¬ obHas (Z.map obF) id = true := by rcases wtsZ_cases Z id with ⟨_, r⟩ | ⟨i, y, e, _⟩; rw [r]; simp; rw [e] at h2; simp at h2
   refine Xq (Xg 9 (Xr [(0,vp b), (1,vi id), (2,vi u), (6,.bool false), (7,.nilIface), (21,vi u), (23,vp b)] ?_ 5 4))
   refine Xs (yldS (Xj 245 (.tmp 23) (.tmp 21) b 0 4 u 2 244 (u : Int) 24 Tryz.underlying245)) (fun _ => ?_) 4
   refine Xm [(0,vp b), (1,vi id), (2,vi u), (6,.bool false), (7,.nilIface), (19,.bool (decide (z.c > 0)))] [(⟨b, 0 + u * 2, none⟩, vi z.c)] (hasC (rowCell (E := obE) (xs := Z) 0 rfl (x := z) hz (j := 0) rfl) has0) ?_ 4
   refine Xc (decide (z.c > 0)) (fun h3 => ?_) (fun h3 => ?_)
   ·skip
    have hcz := hc z hzm
    have h3' : z.c > 0 := by simpa using h3
    have he : obWait (Z.map obF) id (u : Int) = ((true, 0), (Z.map obF).set u (z.c - 1, z.l)) := by rw [obWait, if_neg (by rw [hj]; simp), if_neg hh, hat, if_pos h3', Int.toNat_natCast]
    refine Xq (Xy0 0 [12] 13 ?_)
    refine Xt [0, 1, 2, 3, 8, 9] [(0,vp b), (1,vi id), (2,vi u), (6,.bool false), (7,.nilIface), (29,vi u), (31,vp b), (37,vp b)] [] has0 ?_
    refine Xu 4 (Xj 245 (.tmp 31) (.tmp 29) b 0 4 u 2 244 (u : Int) 32 Tryz.underlying245) ?_
    refine Xt [5, 6, 7] [(0,vp b), (1,vi id), (2,vi u), (6,.bool false), (7,.nilIface), (29,vi u), (37,vp b), (35,vi (IntKind.i64.wrap (z.c - 1)))] [(⟨b, 0 + u * 2, none⟩, vi z.c)] (hasC (rowCell (E := obE) (xs := Z) 0 rfl (x := z) hz (j := 0) rfl) has0) ?_
    refine Xu 10 (Xj 245 (.tmp 37) (.tmp 29) b 0 4 u 2 244 (u : Int) 38 Tryz.underlying245) ?_
    refine Xt [11] [(0,vp b), (1,vi id), (2,vi u), (6,.bool false), (7,.nilIface), (35,vi (IntKind.i64.wrap (z.c - 1))), (39,.pointer (some ⟨b, 0 + u * 2, none⟩))] [] has0 ?_
    rw [show IntKind.i64.wrap (z.c - 1) = (z.c - 1) by rw [w64 (by omega) (by omega)]]
    refine Xo 12 (setS (E := obE) (J := u) (j := 0) z ({ z with c := z.c - 1 }) (.int .i64 (z.c - 1)) ⟨b, 0 + u * 2, none⟩ (fun _ => by kernel_rfl) (by first | rfl | simp) (hz) (rfl) (by decide)) (fun _ => ?_)
    refine Xd (Xq (Xg 2 (Xe [(0,vp b), (1,vi id), (2,vi u), (6,.bool true), (7,.nilIface)] ?_ 2)))
    refine Xv (blockV (thenV (Y0 (.tuple #[.bool true, .nilIface]) (fun w hs => ?_))))
    exact ⟨⟨Z.set u { z with c := z.c - 1 }, by rw [he, List.map_set]; rfl, by rw [List.length_set, hZ]⟩, by show Ending.returned _ = Ending.returned (.tuple #[.bool (obWait (Z.map obF) id (u : Int)).1.1, pqErr (obWait (Z.map obF) id (u : Int)).1.2]); rw [he]; rfl, by simp only; rw [obL_c hz]; exact hs⟩
   ·skip
    have h3' : ¬ z.c > 0 := by simpa using h3
    have he : obWait (Z.map obF) id (u : Int) = ((false, 0), (Z.map obF).set u (z.c, z.l ++ [id])) := by rw [obWait, if_neg (by rw [hj]; simp), if_neg hh, hat, if_neg h3', Int.toNat_natCast]
    refine PT.sat (fun w hs => obPick hz hs) ?_
    refine Xk (Xq (Xy0 1 [16] 17 ?_))
    refine Xt [0, 1, 2, 3, 4, 5, 9, 12, 13] [(6,.bool false), (7,.nilIface), (41,vi u), (43,vi u), (45,vp b), (49,vi id), (53,vp b)] [] has0 ?_
    refine Xu 6 (Xj 245 (.tmp 45) (.tmp 43) b 0 4 u 2 244 (u : Int) 46 Tryz.underlying245) ?_
    refine Xt [7, 8] [(6,.bool false), (7,.nilIface), (41,vi u), (49,vi id), (53,vp b), (48,.slice z.a z.l.length z.k)] [(⟨b, 0 + u * 2 + 1, none⟩, .slice z.a z.l.length z.k)] (hasC (rowCell (E := obE) (xs := Z) 0 rfl (x := z) hz (j := 1) rfl) has0) ?_
    refine Xo 10 (Xn 3 [vi id] (some 50) (fun b => .slice (some ⟨b, 0, none⟩) 1 1)) (fun b1 => ?_)
    refine DT.pick 1 rfl ?_
    refine Xo 11 (Xf (E := (kE .i64)) 42 (.tmp 48) (.tmp 50) z.a z.k z.l [id] (.slice (some ⟨b1, 0, none⟩) 1 1) 51 Tryz.underlying42 (etyIn) (blkRd (x := id) 1 rfl) (by have := hl z hzm; simp; omega)) (fun r2 => ?_)
    refine Xu 14 (Xj 245 (.tmp 53) (.tmp 41) b 0 4 u 2 244 (u : Int) 54 Tryz.underlying245) ?_
    refine Xt [15] [(51,.slice r2.1 ((z.l ++ [id]).length) r2.2), (6,.bool false), (7,.nilIface), (55,.pointer (some ⟨b, 0 + u * 2 + 1, none⟩))] [] has0 ?_
    refine DT.pick 2 rfl ?_
    refine Xo 16 (setS (E := obE) (J := u) (j := 1) z ({ z with a := r2.1, k := r2.2, l := z.l ++ [id] }) (.slice r2.1 ((z.l ++ [id]).length) r2.2) ⟨b, 0 + u * 2 + 1, none⟩ (fun _ => by kernel_rfl) (by first | rfl | simp) (hz) (rfl) (by decide)) (fun _ => ?_)
    refine Xd (Xq (Xg 2 (Xe [(6,.bool false), (7,.nilIface)] ?_ 2)))
    refine Xv (Y0 (.tuple #[.bool false, .nilIface]) (fun w hs => ?_))
    exact ⟨⟨Z.set u { z with a := r2.1, k := r2.2, l := z.l ++ [id] }, by rw [he, List.map_set]; rfl, by rw [List.length_set, hZ]⟩, by show Ending.returned _ = Ending.returned (.tuple #[.bool (obWait (Z.map obF) id (u : Int)).1.1, pqErr (obWait (Z.map obF) id (u : Int)).1.2]); rw [he]; rfl, obPut (Z := Z) (j := u) (by omega) { z with a := r2.1, k := r2.2, l := z.l ++ [id] } (P := row obE 247 (.slice (some ⟨b, 0, none⟩) 4 4) (Z.set u { z with a := r2.1, k := r2.2, l := z.l ++ [id] })) (H := H) (SatF.swap (Sat.erase 2 rfl hs))⟩
 | false =>
  have he : obWait (Z.map obF) id j = ((false, 10), Z.map obF) := by rw [obWait, if_pos hj]
  refine Xc true (fun _ => ?_) (fun h => by cases h)
  refine Xq (Xg 3 (Xe [(0,vp b), (1,vi id), (2,vi j), (6,.bool false), (7,.iface 126 (vi 10))] ?_ 3))
  refine Xv (blockV (thenV (Y0 (.tuple #[.bool false, .iface 126 (vi 10)]) (fun w hs => ?_))))
  exact ⟨⟨Z, by rw [he], hZ⟩, by show Ending.returned _ = Ending.returned (.tuple #[.bool (obWait (Z.map obF) id j).1.1, pqErr (obWait (Z.map obF) id j).1.2]); rw [he]; rfl, hs⟩
end Go.Proofs.YtfhkgohokbkgiaaGreatDoor
set_option linter.unusedVariables false
set_option linter.unusedSimpArgs false
namespace Go.Proofs.YtfhkgohokbkgiaaGreatDoor
open Go.RowKit G
set_option maxHeartbeats 1000000 in
set_option maxRecDepth 100000 in
theorem signal_walk (H : List SP) (b : Nat) (Z : List Oz) (j : Int) (hZ : Z.length = 4) (hl : ∀ z ∈ Z, z.l.length ≤ 1000000) (hc : ∀ z ∈ Z, 0 ≤ z.c ∧ z.c ≤ 255) : ∀ w, Sat w (row obE 247 (.slice (some ⟨b, 0, none⟩) 4 4) Z :: (obL Z ++ H)) → Calls Tryz.prog 184 #[vp b, vi j] w (Ret (ι := { Z' : List Oz // Z'.map obF = (obSig (Z.map obF) j).2 ∧ Z'.length = 4 }) (fun _ => .tuple #[vi (obSig (Z.map obF) j).1.1, .bool (obSig (Z.map obF) j).1.2.1, pqErr (obSig (Z.map obF) j).1.2.2]) fun x => row obE 247 (.slice (some ⟨b, 0, none⟩) 4 4) x.1 :: (obL x.1 ++ H)) := by
 refine enterG (fn := Tryz.f184) 48 [vp b, vi j] Tryz.func184 (by kernel_rfl) (by kernel_rfl) (by kernel_rfl) ?_
 refine Xq (Xg 3 (Xe [(0,vp b), (1,vi j), (4,vi 0), (5,.bool false), (6,.nilIface)] ?_ 3))
 refine Xq (Xq (Xg 3 (Xr [(0,vp b), (1,vi j), (4,vi 0), (5,.bool false), (6,.nilIface), (9,vi j)] ?_ 2 1)))
 refine Xs (Xa (some 10) (fun _ => .bool (isOb j)) (obis_walk _ j)) (fun _ => ?_) 1
 refine Xe [(0,vp b), (1,vi j), (4,vi 0), (5,.bool false), (6,.nilIface), (11,.bool (!(isOb j)))] ?_ 1
 cases hj : (isOb j) with
 | true =>
  obtain ⟨u, hu4, rfl⟩ := isOb_nat hj
  obtain ⟨z, hz⟩ : ∃ z, Z[u]? = some z := ⟨_, List.getElem?_eq_getElem (by omega)⟩
  have hzm := List.mem_of_getElem? hz
  have hat := obAt_Z hz
  have hcz := hc z hzm
  refine Xc false (fun h => by cases h) (fun _ => ?_)
  refine Xk (Xq (Xg 6 (Xr [(4,vi 0), (5,.bool false), (6,.nilIface), (14,vi u), (16,vp b)] ?_ 2 4)))
  refine Xs (yldS (Xj 245 (.tmp 16) (.tmp 14) b 0 4 u 2 244 (u : Int) 17 Tryz.underlying245)) (fun _ => ?_) 1
  refine Xe [(4,vi 0), (5,.bool false), (6,.nilIface), (7,.pointer (some ⟨b, 0 + u * 2, none⟩))] ?_ 1
  refine Xq (Xq (Xg 6 (Xm [(4,vi 0), (5,.bool false), (6,.nilIface), (7,.pointer (some ⟨b, 0 + u * 2, none⟩)), (23,.bool ((z.l.length : Int) == 0))] [(⟨b, 0 + u * 2 + 1, none⟩, .slice z.a z.l.length z.k)] (hasC (rowCell (E := obE) (xs := Z) 0 rfl (x := z) hz (j := 1) rfl) has0) ?_ 6)))
  refine Xc ((z.l.length : Int) == 0) (fun h2 => ?_) (fun h2 => ?_)
  ·skip
   have hl0 : z.l = [] := List.eq_nil_of_length_eq_zero (by have := eq_of_beq h2; omega)
   have he : obSig (Z.map obF) (u : Int) = ((0, false, 0), (Z.map obF).set u (mnI (z.c + 1) 255, [])) := by rw [obSig, if_neg (by rw [hj]; simp), hat, hl0]; simp
   refine Xq (Xg 10 (Xl [(4,vi 0), (5,.bool false), (6,.nilIface), (7,.pointer (some ⟨b, 0 + u * 2, none⟩)), (30,vi (mnI (IntKind.i64.wrap (z.c + 1)) 255)), (32,.pointer (some ⟨b, 0 + u * 2, none⟩))] [(⟨b, 0 + u * 2, none⟩, vi z.c)] (hasC (rowCell (E := obE) (xs := Z) 0 rfl (x := z) hz (j := 0) rfl) has0) ?_ 1 9))
   rw [show IntKind.i64.wrap (z.c + 1) = (z.c + 1) by rw [w64 (by omega) (by omega)]]
   refine Xs (setS (E := obE) (J := u) (j := 0) z ({ z with c := mnI (z.c + 1) 255 }) (.int .i64 (mnI (z.c + 1) 255)) ⟨b, 0 + u * 2, none⟩ (fun _ => by kernel_rfl) (by first | rfl | simp) (hz) (rfl) (by decide)) (fun _ => ?_) 0
   refine endR ?_
   refine Xq (Xg 3 (Xe [(4,vi 0), (5,.bool false), (6,.nilIface), (7,.pointer (some ⟨b, 0 + u * 2, none⟩))] ?_ 3))
   refine Xv (thenV (Y0 (.tuple #[vi 0, .bool false, .nilIface]) (fun w hs => ?_)))
   exact ⟨⟨Z.set u { z with c := mnI (z.c + 1) 255 }, by rw [he, List.map_set]; simp [obF, hl0], by rw [List.length_set, hZ]⟩, by show Ending.returned _ = Ending.returned (.tuple #[.int .i64 (obSig (Z.map obF) (u : Int)).1.1, .bool (obSig (Z.map obF) (u : Int)).1.2.1, pqErr (obSig (Z.map obF) (u : Int)).1.2.2]); rw [he]; rfl, by simp only; rw [obL_c hz]; exact hs⟩
  ·skip
   have hl0 : ¬ (z.l.length : Int) = 0 := beq_eq_false_iff_ne.1 h2
   have hlz := hl z hzm
   obtain ⟨zc, za, zk, zl⟩ := z
   dsimp only at hl0 hlz hat
   dsimp only
   obtain ⟨x, r, hxr⟩ : ∃ x r, zl = x :: r := List.exists_cons_of_length_pos (by omega)
   have hx0 : zl[0]? = some x := by rw [hxr]; rfl
   have he : obSig (Z.map obF) (u : Int) = ((x, true, 0), (Z.map obF).set u (zc, zl.take 0 ++ zl.drop (0 + 1))) := by rw [obSig, if_neg (by rw [hj]; simp), hat, hxr]; simp
   refine PT.know (KR.isSome (obL_kr hz _ _) (List.ne_nil_of_length_pos (by show 0 < zl.length; omega))) ?_
   rintro ⟨sb, so, hA⟩
   dsimp only at hA
   subst hA
   refine PT.sat (fun w hs => obPick hz hs) ?_
   refine Xk (Xq (Xg 7 (Xl [(4,vi 0), (5,.bool false), (6,.nilIface), (7,.pointer (some ⟨b, 0 + u * 2, none⟩)), (36,.slice (some ⟨sb, so, none⟩) zl.length zk)] [(⟨b, 0 + u * 2 + 1, none⟩, .slice (some ⟨sb, so, none⟩) zl.length zk)] (hasC (rowCell (E := obE) (xs := Z) 1 rfl (x := ⟨zc, some ⟨sb, so, none⟩, zk, zl⟩) hz (j := 1) rfl) has0) ?_ 3 4)))
   refine Xs (yldS (Xi 42 (.tmp 36) (.const (.int .i64 0)) sb so zl.length zk 0 1 3 0 37 Tryz.underlying42)) (fun _ => ?_) 2
   refine Xm [(4,vi 0), (5,.bool false), (6,.nilIface), (7,.pointer (some ⟨b, 0 + u * 2, none⟩)), (8,vi x)] [(⟨sb, so + 0 * 1, none⟩, vi x)] (hasC ((rowKRat (xs := zl) (A := some ⟨sb, so, none⟩) (k := zk) (E := kE .i64) (T := 3) 0 rfl).cell rfl (i := 0) (x := x) hx0 (j := 0) rfl) has0) ?_ 2
   refine Xq (Xg 9 (Xl [(4,vi 0), (5,.bool false), (6,.nilIface), (8,vi x), (39,.pointer (some ⟨b, 0 + u * 2, none⟩)), (43,.slice (some ⟨sb, so, none⟩) zl.length zk)] [(⟨b, 0 + u * 2 + 1, none⟩, .slice (some ⟨sb, so, none⟩) zl.length zk)] (hasC (rowCell (E := obE) (xs := Z) 1 rfl (x := ⟨zc, some ⟨sb, so, none⟩, zk, zl⟩) hz (j := 1) rfl) has0) ?_ 4 5))
   refine Xs (Xa (some 44) (fun (r : Option Addr × Nat) => .slice r.1 (zl.take 0 ++ zl.drop (0 + 1)).length r.2) (delI_walk (row obE 247 (.slice (some ⟨b, 0, none⟩) 4 4) Z :: (obX Z u ++ H)) (.slice (some ⟨sb, so, none⟩) zl.length zk) zl 0 (by omega) (by omega))) (fun (r : Option Addr × Nat) => ?_) 3
   refine Xr [(44,.slice r.1 ((zl.take 0 ++ zl.drop (0 + 1)).length) r.2), (4,vi 0), (5,.bool false), (6,.nilIface), (8,vi x), (46,.pointer (some ⟨b, 0 + u * 2 + 1, none⟩))] ?_ 1 2
   refine Xh0 ?_ 1 1
   refine Xs (setS (E := obE) (J := u) (j := 1) ⟨zc, some ⟨sb, so, none⟩, zk, zl⟩ ⟨zc, r.1, r.2, zl.take 0 ++ zl.drop (0 + 1)⟩ (.slice r.1 ((zl.take 0 ++ zl.drop (0 + 1)).length) r.2) ⟨b, 0 + u * 2 + 1, none⟩ (fun _ => by kernel_rfl) (by first | rfl | simp) (hz) (rfl) (by decide)) (fun _ => ?_) 0
   refine endR ?_
   refine Xq (Xg 4 (Xe [(4,vi x), (5,.bool true), (6,.nilIface)] ?_ 4))
   refine Xv (Y0 (.tuple #[vi x, .bool true, .nilIface]) (fun w hs => ?_))
   exact ⟨⟨Z.set u ⟨zc, r.1, r.2, zl.take 0 ++ zl.drop (0 + 1)⟩, by rw [he, List.map_set]; rfl, by rw [List.length_set, hZ]⟩, by show Ending.returned _ = Ending.returned (.tuple #[.int .i64 (obSig (Z.map obF) (u : Int)).1.1, .bool (obSig (Z.map obF) (u : Int)).1.2.1, pqErr (obSig (Z.map obF) (u : Int)).1.2.2]); rw [he]; rfl, obPut (Z := Z) (j := u) (by omega) ⟨zc, r.1, r.2, zl.take 0 ++ zl.drop (0 + 1)⟩ (P := row obE 247 (.slice (some ⟨b, 0, none⟩) 4 4) (Z.set u ⟨zc, r.1, r.2, zl.take 0 ++ zl.drop (0 + 1)⟩)) (H := H) (SatF.swap hs)⟩
 | false =>
  have he : obSig (Z.map obF) j = ((0, false, 10), Z.map obF) := by rw [obSig, if_pos hj]
  refine Xc true (fun _ => ?_) (fun h => by cases h)
  refine Xq (Xg 4 (Xe [(0,vp b), (1,vi j), (4,vi 0), (5,.bool false), (6,.iface 126 (vi 10))] ?_ 4))
  refine Xv (thenV (Y0 (.tuple #[vi 0, .bool false, .iface 126 (vi 10)]) (fun w hs => ?_)))
  exact ⟨⟨Z, by rw [he], hZ⟩, by show Ending.returned _ = Ending.returned (.tuple #[.int .i64 (obSig (Z.map obF) j).1.1, .bool (obSig (Z.map obF) j).1.2.1, pqErr (obSig (Z.map obF) j).1.2.2]); rw [he]; rfl, hs⟩
end Go.Proofs.YtfhkgohokbkgiaaGreatDoor
set_option linter.unusedVariables false
set_option linter.unusedSimpArgs false
namespace Go.Proofs.YtfhkgohokbkgiaaGreatDoor
open Go.RowKit G
namespace G
section
variable {α : Type} {E : Enc α} {T : TypeId} {H : List SP} {P : Program} {n : Nat} {L : List (Nat × Value)} {c : Code}
/-- x[l:h]. -/
theorem slcY {S : World → Prop} {i : Nat} (t : TypeId) (x : Operand) (lo hi : Option Operand) (A : Option Addr) (len cap l h sz : Nat) (e : TypeId) (d : Option Tmp) (hg : ∀ rest, goes n c i L rest = true) (hd : (opAt c i).dst = d) (hop : (opAt c i).op = .slice t x lo hi none)
    (hx : ∀ rest, evalL L rest x = .slice A len cap) (hl : (lo = none ∧ l = 0) ∨ ∃ o k j, lo = some o ∧ (∀ rest, evalL L rest o = .int k j) ∧ j = (l : Int)) (hh : (hi = none ∧ h = len) ∨ ∃ o k j, hi = some o ∧ (∀ rest, evalL L rest o = .int k j) ∧ j = (h : Int))
    (hu : P.underlying t = some (.slice e)) (hsz : (P.info? e).map (·.size) = some sz) (h1 : l ≤ h) (h2 : h ≤ cap) : Yld P n L S c i d (.slice (cutA A cap l sz) (h - l) (cap - l)) := by
  refine ⟨hg, hd, fun rest w _ _ => ?_⟩
  have hi' : ∃ q, P.info? e = some q ∧ q.size = sz := by
    cases hq : P.info? e with
    | none => rw [hq] at hsz; cases hsz
    | some q => rw [hq] at hsz; exact ⟨q, rfl, by simpa using hsz⟩
  obtain ⟨q, hq, hqs⟩ := hi'
  unfold execOp
  rcases hl with ⟨rfl, rfl⟩ | ⟨o, k, j, rfl, ho, rfl⟩ <;> rcases hh with ⟨rfl, rfl⟩ | ⟨o', k', j', rfl, ho', rfl⟩
  · simp only [hop, Option.map_none, hx rest]
    simp [cutA, Instr.sliceAt, Instr.slice, Instr.sliceBounds, Instr.sliceBound, asIntOf, run_underlying hu, sizeOf, typeInfo, hq, hqs, h1, h2]
  · simp only [hop, Option.map_none, Option.map_some, hx rest, ho' rest]
    simp [cutA, Instr.sliceAt, Instr.slice, Instr.sliceBounds, Instr.sliceBound, asIntOf, run_underlying hu, sizeOf, typeInfo, hq, hqs, h1, h2]
  · simp only [hop, Option.map_none, Option.map_some, hx rest, ho rest]
    simp [cutA, Instr.sliceAt, Instr.slice, Instr.sliceBounds, Instr.sliceBound, asIntOf, run_underlying hu, sizeOf, typeInfo, hq, hqs, h1, h2]
  · simp only [hop, Option.map_none, Option.map_some, hx rest, ho rest, ho' rest]
    simp [cutA, Instr.sliceAt, Instr.slice, Instr.sliceBounds, Instr.sliceBound, asIntOf, run_underlying hu, sizeOf, typeInfo, hq, hqs, h1, h2]
theorem subRd {A : Option Addr} {cap : Nat} {xs : List α} (h : KR H E ⟨A, cap, xs⟩) {l hh : Nat} (h1 : l ≤ hh) (h2 : hh ≤ xs.length) : ∀ w, Sat w H → Rd E w (.slice (cutA A cap l E.k) (hh - l) (cap - l)) ((xs.take hh).drop l) := by
  intro w hs
  obtain ⟨ao, c', hv, a1, a2, a3, a4⟩ := h w hs
  unfold SV.v at hv
  simp only at hv
  injection hv with e1 _ e3
  subst e1 e3
  have hlen : ((xs.take hh).drop l).length = hh - l := by simp; omega
  refine ⟨cutA A cap l E.k, cap - l, by rw [hlen], by rw [hlen]; simp only at a1; omega, by omega, fun hn => ?_, fun a ha j u hu => ?_⟩
  · cases A with
    | none => obtain ⟨b1, b2⟩ := a3 rfl; simp only at b1; subst b1; exact ⟨by simp, by omega⟩
    | some a => unfold cutA at hn; split at hn <;> cases hn
  · cases A with
    | none => unfold cutA at ha; split at ha <;> cases ha
    | some a0 =>
      have hlt : j < (E.flat ((xs.take hh).drop l)).length := (List.getElem?_eq_some_iff.1 hu).1
      rw [E.flat_length, hlen] at hlt
      have hne : cap ≠ l := fun e => by
        simp only at a1
        have : hh - l = 0 := by omega
        rw [this] at hlt; omega
      unfold cutA at ha
      rw [if_neg hne] at ha
      simp only [Option.map_some, Option.some.injEq] at ha
      subst ha
      rw [add_add]
      refine a4 a0 rfl _ u ?_
      simp only
      rw [← Enc.flat_drop, List.getElem?_drop, ← Enc.flat_take, List.getElem?_take] at hu
      split at hu
      · exact hu
      · cases hu
theorem dropRd {A : Option Addr} {cap : Nat} {xs : List α} (h : KR H E ⟨A, cap, xs⟩) {l : Nat} (h1 : l ≤ xs.length) : ∀ w, Sat w H → Rd E w (.slice (cutA A cap l E.k) (xs.length - l) (cap - l)) (xs.drop l) := by
  have := subRd h h1 (Nat.le_refl _)
  rwa [List.take_length] at this
/-- Cell by cell. -/
def Chain (E : Enc α) : α → List (Nat × Value) → α → Prop
  | x, [], x' => x = x'
  | x, q :: ws, x' => ∃ y, (E.enc y = (E.enc x).set q.1 q.2 ∧ Nat.ble (q.1 + 1) E.k = true) ∧ Chain E y ws x'
/-- Cells of an element of a row are stored. -/
theorem setsS {i b o m k J : Nat} {xs : List α} (x x' : α) (ws : List (Nat × Value)) (h : ∀ rest, storesOk P n c i L rest = some (ws.map fun q => (⟨b, o + J * E.k + q.1, none⟩, q.2))) (hx : xs[J]? = some x) (he : Chain E x ws x') :
    Step (ι := Unit) P n L (row E T (.slice (some ⟨b, o, none⟩) m k) xs :: H) c i none (fun _ => undef) (fun _ => row E T (.slice (some ⟨b, o, none⟩) m k) (xs.set J x') :: H) := by
  refine skipS _ (fun rest => (storesOk_spec (h rest)).1) (storesOk_spec (h fun _ => undef)).2.1 ?_
  intro rest w _ hs
  obtain ⟨G, hG⟩ := hs.head
  have hme : m = xs.length := hG.lenEq
  subst hme
  have hlx : J < xs.length := (List.getElem?_eq_some_iff.1 hx).1
  have hks : ∀ (ws : List (Nat × Value)) (x : α), Chain E x ws x' → ∀ q ∈ ws, q.1 < E.k := by
    intro ws
    induction ws with
    | nil => intro x _ q hq; cases hq
    | cons z ws ih =>
      rintro x ⟨y, ⟨_, h2⟩, h3⟩ q hq
      rcases List.mem_cons.1 hq with rfl | hq
      · exact Nat.le_of_ble_eq_true h2
      · exact ih y h3 q hq
  refine ⟨_, writesL_run _ (storesOk_spec (h rest)).2.2 ?_, ?_⟩
  · intro q hq
    obtain ⟨z, hz, rfl⟩ := List.mem_map.1 hq
    refine ⟨?_, hG.frozen rfl _⟩
    have hr : Rd E w _ xs := hG.rd
    obtain ⟨b', o', k', hv, _, _, hc⟩ := hr.at (i := J) hlx
    cases hv
    have hjl : z.1 < (E.enc x).length := by rw [E.len]; exact hks ws x he z hz
    simp only
    rw [hc J z.1 x _ hx (List.getElem?_eq_getElem hjl)]
    rfl
  · have key : ∀ (ws : List (Nat × Value)) (w : World) (x : α) (ys : List α), Sat w (row E T (.slice (some ⟨b, o, none⟩) ys.length k) ys :: H) → ys[J]? = some x → Chain E x ws x' → Sat (setAll w (ws.map fun q => (⟨b, o + J * E.k + q.1, none⟩, q.2))) (row E T (.slice (some ⟨b, o, none⟩) ys.length k) (ys.set J x') :: H) := by
      intro ws
      induction ws with
      | nil =>
        intro w x ys hs hy he
        have e : x = x' := he
        subst e
        have : ys.set J x = ys := by
          apply List.ext_getElem?
          intro i
          rw [List.getElem?_set]
          split
          · rename_i e; subst e; rw [if_pos (List.getElem?_eq_some_iff.1 hy).1, hy]
          · rfl
        rw [this]; exact hs
      | cons q ws ih =>
        rintro w x ys hs hy ⟨y, ⟨h1, h2⟩, h3⟩
        have hjl : J < ys.length := (List.getElem?_eq_some_iff.1 hy).1
        have hs2 : Sat (w.setCell ⟨b, o + J * E.k + q.1, none⟩ q.2) (row E T (.slice (some ⟨b, o, none⟩) ys.length k) (ys.set J y) :: H) := by
          refine Sat.change hs fun G' hG' => ?_
          refine ⟨?_, G', Row.set hG' hy h1 (Nat.le_of_ble_eq_true h2), fun x hx => .inl hx⟩
          rcases hG' with ⟨hv, _, _⟩ | ⟨b', o', c', cur, hv, hF, _⟩
          · cases hv
          · cases hv
            exact Upd.setCell w _ _ (by rw [hF]; rfl)
        have hl : ys.length = (ys.set J y).length := by rw [List.length_set]
        have := ih (w.setCell ⟨b, o + J * E.k + q.1, none⟩ q.2) y (ys.set J y) (by rw [← hl]; exact hs2) (by rw [List.getElem?_set_self hjl]) h3
        rw [List.set_set, ← hl] at this
        exact this
    exact key ws w x xs hs hx he
end
end G
end Go.Proofs.YtfhkgohokbkgiaaGreatDoor
set_option linter.unusedVariables false
set_option linter.unusedSimpArgs false
namespace Go.Proofs.YtfhkgohokbkgiaaGreatDoor
open Go.RowKit G
namespace G
section
variable {α : Type} {E : Enc α} {T : TypeId} {H : List SP} {P : Program} {n : Nat} {L : List (Nat × Value)} {c : Code}
theorem row_cleared {w : World} {b o k : Nat} {cur : Array Value} {xs : List α} {zs : List Value} (hb : w.heap[b]? = some (.cells cur T (0, 0))) (hk : xs.length ≤ k) (hm : k ≤ maxLen) (hfit : o + k * E.k ≤ cur.size) (hcur : (cur.toList.drop o).take (xs.length * E.k) = E.flat xs)
    {j : Nat} (hj : j ≤ xs.length) (hz : zs.length = (xs.length - j) * E.k) : Row E T (w.setRow b (cur.toList.take (o + j * E.k) ++ zs ++ cur.toList.drop (o + j * E.k + (xs.length - j) * E.k)).toArray) (OneB b) (.slice (some ⟨b, o, none⟩) j k) (xs.take j) := by
  have hl : (xs.take j).length = j := by simp; omega
  have hjk : j * E.k ≤ xs.length * E.k := Nat.mul_le_mul_right _ hj
  have hkk : xs.length * E.k ≤ k * E.k := Nat.mul_le_mul_right _ hk
  have hsub : (xs.length - j) * E.k = xs.length * E.k - j * E.k := Nat.sub_mul _ _ _
  have hcl : cur.toList.length = cur.size := by simp
  refine .inr ⟨b, o, k, _, by rw [hl], rfl, setRow_heap w b cur _ _ _ hb, by rw [hl]; omega, hm, ?_, ?_⟩
  · simp only [List.size_toArray, List.length_append, List.length_take, List.length_drop, hcl, hz]; omega
  · rw [hl]
    show List.take (j * E.k) (List.drop o (List.take (o + j * E.k) cur.toList ++ zs ++ List.drop (o + j * E.k + (xs.length - j) * E.k) cur.toList)) = _
    rw [List.append_assoc, List.drop_append, List.length_take, hcl, show o - min (o + j * E.k) cur.size = 0 by omega, List.drop_zero, List.drop_take, show o + j * E.k - o = j * E.k by omega]
    rw [List.take_left' (by simp only [List.length_take, List.length_drop, hcl]; omega), ← E.flat_take, ← hcur, List.take_take]
    congr 1; omega
theorem clrS {z : Value} {i : Nat} (t : TypeId) (s : Operand) (b o cap j : Nat) (xs : List α) (hg : ∀ rest, goes n c i L rest = true) (hd : (opAt c i).dst = none) (hop : (opAt c i).op = .call { callee := .builtin .clear, args := #[s], argTypes := #[t] })
    (hs : ∀ rest, evalL L rest s = .slice (cutA (some ⟨b, o, none⟩) cap j E.k) (xs.length - j) (cap - j)) (ht : P.underlying t = some (.slice T)) (hE : Ety P E T z) (hj : j < xs.length)
    (h1 : ∀ u ∈ (Builtin.zeroCells z.cells (xs.length - j)).toList, u.oneCell' = true) :
    Step (ι := Unit) P n L (row E T (.slice (some ⟨b, o, none⟩) xs.length cap) xs :: H) c i none (fun _ => .tuple #[]) (fun _ => row E T (.slice (some ⟨b, o, none⟩) j cap) (xs.take j) :: H) := by
  refine valueS none _ _ hg hd ?_
  intro rest w _ hsat
  obtain ⟨G, hG⟩ := hsat.head
  have hG' := hG
  rcases hG with ⟨h0, h0', _⟩ | ⟨b', o', k', cur, hv, rfl, hb, hk, hm, hfit, hcur⟩
  · cases h0
  cases hv
  have hjk : j * E.k ≤ xs.length * E.k := Nat.mul_le_mul_right _ (by omega)
  have hkk : xs.length * E.k ≤ cap * E.k := Nat.mul_le_mul_right _ hk
  have hsub : (xs.length - j) * E.k = xs.length * E.k - j * E.k := Nat.sub_mul _ _ _
  have hzl : (Builtin.zeroCells z.cells (xs.length - j)).toList.length = (xs.length - j) * E.k := by rw [Array.length_toList, size_zeroCells, hE.zero]
  have hcl : cur.toList.length = cur.size := by simp
  have hrun := run_clear_at (P := P) (w := w) (ty := (opAt c i).type) (o := o + j * E.k) (n := xs.length - j) (c := cap - j) ht hE hb (by omega) (by omega) h1
  refine ⟨(), w.setRow b (cur.toList.take (o + j * E.k) ++ (Builtin.zeroCells z.cells (xs.length - j)).toList ++ cur.toList.drop (o + j * E.k + (xs.length - j) * E.k)).toArray, ?_, Sat.change hsat fun G' hG2 => ?_⟩
  rotate_left
  · have := Row.uniq hG2 hG'
    subst this
    exact ⟨⟨rfl, rfl, rfl, by simp [World.setRow], fun x _ hx => setRow_other w b x _ (fun e => hx e)⟩, OneB b, row_cleared hb hk hm hfit hcur (by omega) hzl, fun x hx => .inl hx⟩
  · rw [show execOp (evalL L rest) (opAt c i) = _ from rfl]
    unfold execOp
    have hc : cutA (some ⟨b, o, none⟩) cap j E.k = some ⟨b, o + j * E.k, none⟩ := by
      unfold cutA
      rw [if_neg (by omega)]
      simp [Addr.add_lit]
    simp only [hop, resolve, invoke, builtin, Sem.run_bind, Sem.run_pure, Result.andThen_ok, List.map_toArray, List.map_cons, List.map_nil, hs, hc, hrun]
end
end G
end Go.Proofs.YtfhkgohokbkgiaaGreatDoor
set_option linter.unusedVariables false
set_option linter.unusedSimpArgs false
namespace Go.Proofs.YtfhkgohokbkgiaaGreatDoor
open Go.RowKit G
set_option maxRecDepth 100000 in
theorem isid_walk (H : List SP) (n id : Int) (tb j : Nat) (hj : H[j]? = some (blk tb 3 [vi id])) : ∀ w, Sat w H → Calls Tryz.prog 205 #[vi n, vp tb] w (Ret (ι := Unit) (fun _ => .bool (n == id)) fun _ => H) := by
 refine enterG (fn := Tryz.f205) 7 [vi n, vp tb] Tryz.func205 (by kernel_rfl) (by kernel_rfl) (by kernel_rfl) ?_
 refine Xq (Xg 1 (Xe [(0,vi n), (1,vp tb), (3,.bool false)] ?_ 1))
 refine Xq (Xg 4 (Xm [(3,.bool (n == id))] [(⟨tb, 0, none⟩, vi id)] (hasC ((blkAt j hj (j := 0) rfl)) has0) ?_ 4))
 refine Xv (Y0 (.bool (n == id)) (fun w hs => ?_))
 exact ⟨(), rfl, hs⟩
set_option maxRecDepth 100000 in
theorem ixf_walk (H : List SP) (s : SV Int) (hk : KR H (kE .i64) s) (hl : s.l.length ≤ 1000000) (id : Int) (tb j : Nat) (hj : H[j]? = some (blk tb 3 [vi id])) : ∀ w, Sat w H → Calls Tryz.prog 228 #[.slice s.a s.l.length s.c, .func (.func 205) #[] #[vp tb]] w (Ret (ι := Unit) (fun _ => vi (idxL s.l id)) fun _ => H) := by
 refine enterG (fn := Tryz.f228) 19 [.slice s.a s.l.length s.c, .func (.func 205) #[] #[vp tb]] Tryz.func228 (by kernel_rfl) (by kernel_rfl) (by kernel_rfl) ?_
 refine Xq (Xg 1 (Xe [(0,.slice s.a s.l.length s.c), (1,.func (.func 205) #[] #[vp tb]), (4,vi 0)] ?_ 1))
 refine Xq (Xq (Xg 3 (Xe [(0,.slice s.a s.l.length s.c), (1,.func (.func 205) #[] #[vp tb]), (4,vi 0), (7,vi (s.l.length : Int)), (8,vi 0)] ?_ 3)))
 refine Xb 0 (Xp [(0,.slice s.a s.l.length s.c), (1,.func (.func 205) #[] #[vp tb]), (7,vi (s.l.length : Int)), (8,vi 0)] (Xl0 (fun (v : Nat) => [(0,.slice s.a s.l.length s.c), (1,.func (.func 205) #[] #[vp tb]), (7,vi (s.l.length : Int)), (8,vi v)]) (fun k (v : Nat) => k + v = s.l.length ∧ ∀ u e, u < v → s.l[u]? = some e → e ≠ id) s.l.length 0 (by kernel_rfl) ⟨by simp, fun u e h => by omega⟩ ?_))
 rintro k v ⟨hkv, hno⟩
 refine Xq (Xg 1 (Xe [(0,.slice s.a s.l.length s.c), (1,.func (.func 205) #[] #[vp tb]), (7,vi (s.l.length : Int)), (8,vi v), (9,.bool (decide ((v : Int) < (s.l.length : Int))))] ?_ 1))
 refine Xq (Xc (decide ((v : Int) < (s.l.length : Int))) (fun h1 => ?_) (fun h1 => ?_))
 ·skip
  have hv := of_decide_eq_true h1
  obtain ⟨x, hx⟩ : ∃ x, s.l[v]? = some x := ⟨_, List.getElem?_eq_getElem (by omega)⟩
  refine PT.know ((hk).isSome (List.ne_nil_of_length_pos (by omega))) ?_
  rintro ⟨sb, so, hA'⟩
  try rw [hA']
  refine Xk (Xq (Xb 1 (Xq (Xg 2 (Xe [(0,.slice (some ⟨sb, so, none⟩) s.l.length s.c), (1,.func (.func 205) #[] #[vp tb]), (7,vi (s.l.length : Int)), (8,vi v), (5,vi v)] ?_ 2)))))
  refine Xq (Xg 6 (Xr [(0,.slice (some ⟨sb, so, none⟩) s.l.length s.c), (1,.func (.func 205) #[] #[vp tb]), (7,vi (s.l.length : Int)), (8,vi v), (5,vi v), (11,.func (.func 205) #[] #[vp tb]), (12,.slice (some ⟨sb, so, none⟩) s.l.length s.c), (13,vi v)] ?_ 3 3))
  refine Xs (yldS (Xi 42 (.tmp 12) (.tmp 13) sb so s.l.length s.c v 1 3 (v : Int) 14 Tryz.underlying42)) (fun _ => ?_) 2
  refine Xl [(0,.slice (some ⟨sb, so, none⟩) s.l.length s.c), (1,.func (.func 205) #[] #[vp tb]), (7,vi (s.l.length : Int)), (8,vi v), (5,vi v), (11,.func (.func 205) #[] #[vp tb]), (15,vi x)] [(⟨sb, so + v * 1, none⟩, vi x)] (hasC (hk.cell hA' (i := v) (x := x) hx (j := 0) rfl) has0) ?_ 1 1
  refine Xs (Xa (some 16) (fun _ => .bool (x == id)) (isid_walk (H) x id tb j hj)) (fun _ => ?_) 0
  refine endR ?_
  refine Xc (x == id) (fun h2 => ?_) (fun h2 => ?_)
  ·skip
   have e2 : x = id := by simpa using h2
   refine Xq (Xg 2 (Xe [(0,.slice (some ⟨sb, so, none⟩) s.l.length s.c), (1,.func (.func 205) #[] #[vp tb]), (7,vi (s.l.length : Int)), (8,vi v), (4,vi v)] ?_ 2))
   refine Xv (blockV (thenV (thenV (blockV (thenV ?_)))))
   try rw [← hA']
   refine Y0 (vi v) (fun w hs => ?_)
   exact ⟨(), by rw [idxL_some (i := v) (by rw [hx, e2]) hno], hs⟩
  ·skip
   have e2 : ¬ x = id := by simpa using h2
   refine Xk (Xg 2 (Xe [(0,.slice (some ⟨sb, so, none⟩) s.l.length s.c), (1,.func (.func 205) #[] #[vp tb]), (7,vi (s.l.length : Int)), (8,vi (IntKind.i64.wrap ((v : Int) + 1)))] ?_ 2))
   try rw [← hA']
   rw [show IntKind.i64.wrap ((v : Int) + 1) = ((v : Int) + 1) by rw [w64 (by omega) (by omega)]]
   refine Xp [(0,.slice s.a s.l.length s.c), (1,.func (.func 205) #[] #[vp tb]), (7,vi (s.l.length : Int)), (8,vi ((v : Int) + 1))] ?_
   exact againG (k - 1) (v + 1) rfl rfl (by omega) ⟨by omega, fun u e hu he => by rcases Nat.lt_succ_iff_lt_or_eq.1 hu with hu | rfl; exact hno u e hu he; rw [hx] at he; cases he; exact e2⟩
 ·skip
  have hv : ¬ (v : Int) < s.l.length := of_decide_eq_false h1
  refine Xx 0 (thenX (thenX (leaveR (Xq (Xg 1 (Xe [(4,vi (-1))] ?_ 1))))))
  refine Xv (Y0 (vi (-1)) (fun w hs => ?_))
  exact ⟨(), by rw [idxL_none fun e he => by obtain ⟨u, hu⟩ := List.getElem?_of_mem he; exact hno u e (by have := (List.getElem?_eq_some_iff.1 hu).1; omega) hu], hs⟩
def cutId (xs : List Int) (id : Int) : List Int := xs.filter fun n => !(n == id)
theorem cutId_snoc (xs : List Int) (id x : Int) : cutId (xs ++ [x]) id = if x = id then cutId xs id else cutId xs id ++ [x] := by
 unfold cutId
 rw [List.filter_append]
 by_cases c : x = id <;> simp [c]
theorem cutId_none {xs : List Int} {id : Int} (h : ∀ e ∈ xs, e ≠ id) : cutId xs id = xs := List.filter_eq_self.2 fun e he => by simpa using h e he
theorem idxL_at {xs : List Int} {id : Int} (h : id ∈ xs) : ∃ i : Nat, idxL xs id = i ∧ xs[i]? = some id ∧ ∀ u e, u < i → xs[u]? = some e → e ≠ id := by
 unfold idxL
 cases hf : xs.findIdx? (fun e => e == id) with
 | none => have := List.findIdx?_eq_none_iff.1 hf id h; simp at this
 | some i =>
  obtain ⟨h1, h2, h3⟩ := List.findIdx?_eq_some_iff_getElem.1 hf
  refine ⟨i, rfl, by rw [List.getElem?_eq_getElem h1]; simpa using h2, fun u e hu he => ?_⟩
  obtain ⟨h4, rfl⟩ := List.getElem?_eq_some_iff.1 he
  have := h3 u hu
  simpa using this
theorem cutA_zero (b o c k : Nat) : cutA (some ⟨b, o, none⟩) c 0 k = some ⟨b, o, none⟩ := by
 unfold cutA; split <;> simp [Addr.add_lit]
theorem row_cap {α : Type} {E : Enc α} {T : TypeId} {H : List SP} {A : Option Addr} {m k : Nat} {xs : List α} : ∀ w, Sat w (row E T (.slice A m k) xs :: H) → xs.length ≤ k := fun w hs => by
 obtain ⟨G, hG⟩ := hs.head
 rcases hG with ⟨h1, rfl, _⟩ | ⟨b, o, c, cur, h1, _, _, h2, _⟩
 ·simp
 ·cases h1; exact h2
theorem take_snoc {xs : List Int} {j : Nat} {x : Int} (h : xs[j]? = some x) : xs.take (j + 1) = xs.take j ++ [x] := by rw [List.take_add_one, h]; rfl
set_option maxHeartbeats 1000000 in
set_option maxRecDepth 100000 in
theorem delf_walk (H : List SP) (sb so cap : Nat) (xs : List Int) (id : Int) (tb : Nat) (hin : id ∈ xs) (hl : xs.length ≤ 1000000) : ∀ w, Sat w (row (kE .i64) 3 (.slice (some ⟨sb, so, none⟩) xs.length cap) xs :: blk tb 3 [vi id] :: H) → Calls Tryz.prog 204 #[.slice (some ⟨sb, so, none⟩) xs.length cap, .func (.func 205) #[] #[vp tb]] w (Ret (ι := Unit) (fun _ => .slice (some ⟨sb, so, none⟩) (cutId xs id).length cap) fun _ => row (kE .i64) 3 (.slice (some ⟨sb, so, none⟩) (cutId xs id).length cap) (cutId xs id) :: blk tb 3 [vi id] :: H) := by
 obtain ⟨i0, hi0, hx0, hno⟩ := idxL_at hin
 have hi0l := (List.getElem?_eq_some_iff.1 hx0).1
 have hpre : ∀ e ∈ xs.take i0, e ≠ id := fun e he => by
  obtain ⟨u, hu⟩ := List.getElem?_of_mem he
  rw [List.getElem?_take] at hu
  split at hu
  ·exact hno u e (by assumption) hu
  ·cases hu
 refine enterG (fn := Tryz.f204) 42 [.slice (some ⟨sb, so, none⟩) xs.length cap, .func (.func 205) #[] #[vp tb]] Tryz.func204 (by kernel_rfl) (by kernel_rfl) (by kernel_rfl) ?_
 refine PT.know (p := xs.length ≤ cap) row_cap ?_
 intro hcap
 refine Xq (Xg 1 (Xe [(0,.slice (some ⟨sb, so, none⟩) xs.length cap), (1,.func (.func 205) #[] #[vp tb]), (4,.slice none 0 0)] ?_ 1))
 refine Xq (Xg 4 (Xr [(0,.slice (some ⟨sb, so, none⟩) xs.length cap), (1,.func (.func 205) #[] #[vp tb]), (4,.slice none 0 0), (8,.slice (some ⟨sb, so, none⟩) xs.length cap), (9,.func (.func 205) #[] #[vp tb])] ?_ 2 2))
 refine Xs (Xa (some 10) (fun _ => vi (idxL xs id)) (ixf_walk (row (kE .i64) 3 (.slice (some ⟨sb, so, none⟩) xs.length cap) xs :: blk tb 3 [.int .i64 id] :: H) ⟨some ⟨sb, so, none⟩, cap, xs⟩ (rowKRat 0 rfl) hl id tb 1 rfl)) (fun _ => ?_) 1
 rw [show idxL xs id = (i0 : Int) by exact hi0]
 refine Xe [(0,.slice (some ⟨sb, so, none⟩) xs.length cap), (1,.func (.func 205) #[] #[vp tb]), (4,.slice none 0 0), (5,vi i0)] ?_ 1
 refine Xq (Xq (Xg 2 (Xe [(0,.slice (some ⟨sb, so, none⟩) xs.length cap), (1,.func (.func 205) #[] #[vp tb]), (4,.slice none 0 0), (5,vi i0), (12,.bool ((i0 : Int) == (-1)))] ?_ 2)))
 rw [show ((i0 : Int) == (-1)) = false from by simp]
 refine Xc false (fun h => by cases h) (fun _ => ?_)
 refine Xk (Xq (Xq (Xg 3 (Xe [(0,.slice (some ⟨sb, so, none⟩) xs.length cap), (1,.func (.func 205) #[] #[vp tb]), (4,.slice none 0 0), (5,vi i0), (6,vi (IntKind.i64.wrap ((i0 : Int) + 1)))] ?_ 3))))
 refine Xb 0 ?_
 rw [show IntKind.i64.wrap ((i0 : Int) + 1) = ((i0 : Int) + 1) by rw [w64 (by omega) (by omega)]]
 refine Xp [(0,.slice (some ⟨sb, so, none⟩) xs.length cap), (1,.func (.func 205) #[] #[vp tb]), (4,.slice none 0 0), (5,vi i0), (6,vi ((i0 : Int) + 1))] ?_
 refine loopG (fun (q : List Int × Nat × Nat) => [(0, .slice (some ⟨sb, so, none⟩) xs.length cap), (1, .func (.func 205) #[] #[vp tb]), (4, .slice none 0 0), (5, vi (q.2.1 : Int)), (6, vi (q.2.2 : Int))]) (fun (q : List Int × Nat × Nat) => (row (kE .i64) 3 (.slice (some ⟨sb, so, none⟩) xs.length cap) q.1 :: blk tb 3 [vi id] :: H)) (fun k (q : List Int × Nat × Nat) => k + q.2.2 = xs.length ∧ q.1.length = xs.length ∧ q.2.1 < q.2.2 ∧ q.1.take q.2.1 = cutId (xs.take q.2.2) id ∧ q.1.drop q.2.2 = xs.drop q.2.2) (xs.length - (i0 + 1)) (xs, i0, i0 + 1) (by kernel_rfl) ⟨by simp only; omega, rfl, by simp, by simp only; rw [take_snoc hx0, cutId_snoc, if_pos rfl, cutId_none hpre], rfl⟩ ?_
 rintro k ⟨ys, i, j⟩ ⟨hkj, hyl, hij, hyt, hyd⟩
 simp only at hkj hyl hij hyt hyd
 refine Xq (Xq (Xg 4 (Xe [(0,.slice (some ⟨sb, so, none⟩) xs.length cap), (1,.func (.func 205) #[] #[vp tb]), (4,.slice none 0 0), (5,vi i), (6,vi j), (19,.bool (decide ((j : Int) < (xs.length : Int))))] ?_ 4)))
 refine Xc (decide ((j : Int) < (xs.length : Int))) (fun h1 => ?_) (fun h1 => ?_)
 ·skip
  have hj := of_decide_eq_true h1
  obtain ⟨x, hx⟩ : ∃ x, xs[j]? = some x := ⟨_, List.getElem?_eq_getElem (by omega)⟩
  have hyj : ys[j]? = some x := by have h := congrArg (fun l => l[0]?) hyd; simp only [List.getElem?_drop, Nat.add_zero] at h; rw [h, hx]
  obtain ⟨y, hyi⟩ : ∃ y, ys[i]? = some y := ⟨_, List.getElem?_eq_getElem (by omega)⟩
  refine Xk (Xq (Xb 1 (Xq (Xg 5 (Xr [(0,.slice (some ⟨sb, so, none⟩) xs.length cap), (1,.func (.func 205) #[] #[vp tb]), (4,.slice none 0 0), (5,vi i), (6,vi j), (22,.slice (some ⟨sb, so, none⟩) xs.length cap), (23,vi j)] ?_ 3 2)))))
  refine Xs (yldS (Xi 42 (.tmp 22) (.tmp 23) sb so xs.length cap j 1 3 (j : Int) 24 Tryz.underlying42)) (fun _ => ?_) 2
  refine Xm [(0,.slice (some ⟨sb, so, none⟩) xs.length cap), (1,.func (.func 205) #[] #[vp tb]), (4,.slice none 0 0), (5,vi i), (6,vi j), (7,vi x)] [(⟨sb, so + j * 1, none⟩, vi x)] (hasC (rowCell (E := kE .i64) (xs := ys) 0 rfl (x := x) hyj (j := 0) rfl) has0) ?_ 2
  refine Xq (Xg 4 (Xr [(0,.slice (some ⟨sb, so, none⟩) xs.length cap), (1,.func (.func 205) #[] #[vp tb]), (4,.slice none 0 0), (5,vi i), (6,vi j), (7,vi x), (26,.func (.func 205) #[] #[vp tb]), (27,vi x)] ?_ 2 2))
  refine Xs (Xa (some 28) (fun _ => .bool (x == id)) (isid_walk (row (kE .i64) 3 (.slice (some ⟨sb, so, none⟩) xs.length cap) ys :: blk tb 3 [.int .i64 id] :: H) x id tb 1 rfl)) (fun _ => ?_) 1
  refine Xe [(0,.slice (some ⟨sb, so, none⟩) xs.length cap), (1,.func (.func 205) #[] #[vp tb]), (4,.slice none 0 0), (5,vi i), (6,vi j), (7,vi x), (29,.bool (!(x == id)))] ?_ 1
  cases h2 : ((x == id)) with
  | true =>
   have e2 : x = id := by simpa using h2
   refine Xc false (fun h => by cases h) (fun _ => ?_)
   refine Xk (Xg 3 (Xe [(0,.slice (some ⟨sb, so, none⟩) xs.length cap), (1,.func (.func 205) #[] #[vp tb]), (4,.slice none 0 0), (5,vi i), (6,vi (IntKind.i64.wrap ((j : Int) + 1)))] ?_ 3))
   rw [show IntKind.i64.wrap ((j : Int) + 1) = ((j : Int) + 1) by rw [w64 (by omega) (by omega)]]
   refine Xp [(0,.slice (some ⟨sb, so, none⟩) xs.length cap), (1,.func (.func 205) #[] #[vp tb]), (4,.slice none 0 0), (5,vi i), (6,vi ((j : Int) + 1))] ?_
   exact againG (k - 1) (ys, i, j + 1) rfl rfl (by omega) ⟨by simp only; omega, hyl, by simp only; omega, by simp only; rw [take_snoc hx, cutId_snoc, if_pos e2, hyt], by simp only; rw [← List.drop_drop, ← List.drop_drop, hyd]⟩
  | false =>
   have e2 : ¬ x = id := by simpa using h2
   refine Xc true (fun _ => ?_) (fun h => by cases h)
   refine Xq (Xg 5 (Xr [(0,.slice (some ⟨sb, so, none⟩) xs.length cap), (1,.func (.func 205) #[] #[vp tb]), (4,.slice none 0 0), (5,vi i), (6,vi j), (30,.slice (some ⟨sb, so, none⟩) xs.length cap), (31,vi i), (32,vi x)] ?_ 2 3))
   refine Xs (yldS (Xi 42 (.tmp 30) (.tmp 31) sb so xs.length cap i 1 3 (i : Int) 33 Tryz.underlying42)) (fun _ => ?_) 1
   refine Xs (setS (E := (kE .i64)) (J := i) (j := 0) y x (.int .i64 x) ⟨sb, so + i * 1, none⟩ (fun _ => by kernel_rfl) (by first | rfl | simp) (hyi) (rfl) (by decide)) (fun _ => ?_) 0
   refine endR ?_
   refine Xg 3 (Xe [(0,.slice (some ⟨sb, so, none⟩) xs.length cap), (1,.func (.func 205) #[] #[vp tb]), (4,.slice none 0 0), (5,vi (IntKind.i64.wrap ((i : Int) + 1))), (6,vi j)] ?_ 3)
   refine Xg 3 (Xe [(0,.slice (some ⟨sb, so, none⟩) xs.length cap), (1,.func (.func 205) #[] #[vp tb]), (4,.slice none 0 0), (5,vi (IntKind.i64.wrap ((i : Int) + 1))), (6,vi (IntKind.i64.wrap ((j : Int) + 1)))] ?_ 3)
   rw [show IntKind.i64.wrap ((i : Int) + 1) = ((i : Int) + 1) by rw [w64 (by omega) (by omega)]]
   rw [show IntKind.i64.wrap ((j : Int) + 1) = ((j : Int) + 1) by rw [w64 (by omega) (by omega)]]
   refine Xp [(0,.slice (some ⟨sb, so, none⟩) xs.length cap), (1,.func (.func 205) #[] #[vp tb]), (4,.slice none 0 0), (5,vi ((i : Int) + 1)), (6,vi ((j : Int) + 1))] ?_
   exact againG (k - 1) (ys.set i x, i + 1, j + 1) rfl rfl (by omega) ⟨by simp only; omega, by simp only [List.length_set]; exact hyl, by simp only; omega, by simp only; rw [take_snoc hx, cutId_snoc, if_neg e2, ← hyt, take_snoc (x := x) (by rw [List.getElem?_set_self (by omega)]), List.take_set_of_le (by omega)], by simp only; rw [List.drop_set_of_lt (by omega), ← List.drop_drop, ← List.drop_drop, hyd]⟩
 ·skip
  have hj : j = xs.length := by have := of_decide_eq_false h1; omega
  have hres : ys.take i = cutId xs id := by rw [hyt, hj, List.take_length]
  have hlen : i = (cutId xs id).length := by rw [← hres, List.length_take]; omega
  rw [show xs.length = ys.length by exact hyl.symm]
  refine Xx 0 (thenX (thenX (leaveR (Xq (Xg 4 (Xr [(0,.slice (some ⟨sb, so, none⟩) ys.length cap), (4,.slice none 0 0), (5,vi i), (36,.slice (some ⟨sb, so, none⟩) ys.length cap), (37,vi i)] ?_ 2 2))))))
  refine Xs (yldS (slcY 42 (.tmp 36) (some (.tmp 37)) none (some ⟨sb, so, none⟩) ys.length cap i ys.length 1 3 (some 38) (fun _ => by kernel_rfl) (by kernel_rfl) (by kernel_rfl) (fun _ => by kernel_rfl) (.inr ⟨_, .i64, (i : Int), rfl, fun _ => by kernel_rfl, by first | rfl | omega⟩) (.inl ⟨rfl, rfl⟩) Tryz.underlying42 (by kernel_rfl) (by omega) (by omega))) (fun _ => ?_) 1
  refine Xs (clrS (E := (kE .i64)) 42 (.tmp 38) sb so cap i ys (fun _ => by kernel_rfl) (by kernel_rfl) (by kernel_rfl) (fun _ => by kernel_rfl) Tryz.underlying42 (etyIn) (by omega) (zero_cells_in _)) (fun _ => ?_) 0
  refine endR ?_
  refine Xq (Xg 4 (Xr [(4,.slice none 0 0), (39,.slice (some ⟨sb, so, none⟩) ys.length cap), (40,vi i)] ?_ 2 2))
  refine Xs (yldS (slcY 42 (.tmp 39) none (some (.tmp 40)) (some ⟨sb, so, none⟩) ys.length cap 0 i 1 3 (some 41) (fun _ => by kernel_rfl) (by kernel_rfl) (by kernel_rfl) (fun _ => by kernel_rfl) (.inl ⟨rfl, rfl⟩) (.inr ⟨_, .i64, (i : Int), rfl, fun _ => by kernel_rfl, by first | rfl | omega⟩) Tryz.underlying42 (by kernel_rfl) (by omega) (by omega))) (fun _ => ?_) 1
  refine Xe [(4,.slice (cutA (some ⟨sb, so, none⟩) cap 0 1) (i - 0) (cap - 0))] ?_ 1
  refine Xv (Y0 (.slice (cutA (some ⟨sb, so, none⟩) cap 0 1) (i - 0) (cap - 0)) (fun w hs => ?_))
  rw [cutA_zero, hlen.symm, ← hres]; exact ⟨(), rfl, hs⟩
end Go.Proofs.YtfhkgohokbkgiaaGreatDoor
set_option linter.unusedVariables false
set_option linter.unusedSimpArgs false
namespace Go.Proofs.YtfhkgohokbkgiaaGreatDoor
open Go.RowKit G
theorem obPick2 {Z : List Oz} {j : Nat} {z : Oz} (hz : Z[j]? = some z) {B P : SP} {H : List SP} {w : World} (h : Sat w (B :: P :: (obL Z ++ H))) : Sat w (ozR z :: B :: P :: (obX Z j ++ H)) := by
 have h1 := Sat.pick (j + 2) (P := ozR z) (by rw [List.getElem?_cons_succ, List.getElem?_cons_succ]; exact obL_at hz H) h
 have h2 : (obL Z)[j]? = some (ozR z) := by rw [obL, List.getElem?_map, hz]; rfl
 obtain ⟨h3, _⟩ := List.getElem?_eq_some_iff.1 h2
 rw [List.eraseIdx_cons_succ, List.eraseIdx_cons_succ, List.eraseIdx_append_of_lt_length h3] at h1
 exact h1
def ObD (O : List Ob) : Prop := ∀ (i j : Nat) (a b : Ob), i ≠ j → O[i]? = some a → O[j]? = some b → ∀ x ∈ a.2, x ∉ b.2
theorem obCut_no {O : List Ob} {id : Int} (h : obHas O id = false) : obCut O id = O := by
 have hno := obHas_no (O := O) (id := id) (by rw [h]; simp)
 unfold obCut
 refine (List.map_congr_left (g := fun o => o) fun o ho => ?_).trans (List.map_id' O)
 have : o.2.filter (fun n => !(n == id)) = o.2 := List.filter_eq_self.2 fun e he => by
  have : e ≠ id := fun c => hno o ho (c ▸ he)
  simpa using this
 rw [this]
theorem obCut_at {O : List Ob} {id : Int} {u : Nat} {o : Ob} (hd : ObD O) (ho : O[u]? = some o) (hm : id ∈ o.2) : obCut O id = O.set u (o.1, cutId o.2 id) := by
 refine List.ext_getElem? fun i => ?_
 rw [obCut, List.getElem?_map, List.getElem?_set]
 split
 ·rename_i h
  subst h
  obtain ⟨h1, _⟩ := List.getElem?_eq_some_iff.1 ho
  rw [if_pos h1, ho]; rfl
 ·rename_i h
  cases hg : O[i]? with
  | none => rfl
  | some a =>
   have hno := hd u i o a h ho hg id hm
   have : a.2.filter (fun n => !(n == id)) = a.2 := List.filter_eq_self.2 fun e he => by
    have : e ≠ id := fun c => hno (c ▸ he)
    simpa using this
   show some (a.1, a.2.filter _) = some a
   rw [this]
set_option maxHeartbeats 1000000 in
set_option maxRecDepth 100000 in
theorem odrop_walk (H : List SP) (b : Nat) (Z : List Oz) (id : Int) (hZ : Z.length = 4) (hl : ∀ z ∈ Z, z.l.length ≤ 1000000) (hd : ObD (Z.map obF)) : ∀ w, Sat w (row obE 247 (.slice (some ⟨b, 0, none⟩) 4 4) Z :: (obL Z ++ H)) → Calls Tryz.prog 180 #[vp b, vi id] w (Ret (ι := { Z' : List Oz // Z'.map obF = obCut (Z.map obF) id ∧ Z'.length = 4 }) (fun _ => .bool (obHas (Z.map obF) id)) fun x => row obE 247 (.slice (some ⟨b, 0, none⟩) 4 4) x.1 :: (obL x.1 ++ H)) := by
 refine enterG (fn := Tryz.f180) 26 [vp b, vi id] Tryz.func180 (by kernel_rfl) (by kernel_rfl) (by kernel_rfl) ?_
 refine Xq (Xg 2 (Xs (Xn 3 [vi id] (some 3) (fun b => vp b)) (fun b1 => ?_) 1))
 refine Xe [(3,vp b1), (0,vp b), (4,.bool false)] ?_ 1
 refine Xq (Xg 4 (Xl [(3,vp b1), (0,vp b), (4,.bool false), (6,vp b), (7,vi id)] [(⟨b1, 0, none⟩, vi id)] (hasC (ba 0) has0) ?_ 2 2))
 refine Xh0 ?_ 0 2
 refine Xh0 ?_ 1 2
 refine Xs (Xa1 (some 8) (fun _ => vi (wtsZ Z id)) (fun _ => (row obE 247 (.slice (some ⟨b, 0, none⟩) 4 4) Z :: blk b1 3 [vi id] :: (obL Z ++ H))) ((by have h := waits_walk (blk b1 3 [.int .i64 id] :: H) b Z id hZ hl; exact fun w hs => (h w (Sat.perm (by exact ((List.perm_middle (a := blk b1 3 [.int .i64 id]) (l₁ := row obE 247 (.slice (some ⟨b, 0, none⟩) 4 4) Z :: obL Z) (l₂ := H)).trans (List.Perm.swap _ _ _)).symm) hs)).mono fun e w' ⟨_, he, hx⟩ => ⟨(), he, Sat.perm (by exact ((List.perm_middle (a := blk b1 3 [.int .i64 id]) (l₁ := row obE 247 (.slice (some ⟨b, 0, none⟩) 4 4) Z :: obL Z) (l₂ := H)).trans (List.Perm.swap _ _ _))) hx⟩))) (fun _ => ?_) 1
 refine Xe [(3,vp b1), (0,vp b), (4,.bool false), (5,vi (wtsZ Z id))] ?_ 1
 refine Xq (Xq (Xg 2 (Xe [(3,vp b1), (0,vp b), (4,.bool false), (5,vi (wtsZ Z id)), (10,.bool (decide ((wtsZ Z id) < 0)))] ?_ 2)))
 refine Xc (decide ((wtsZ Z id) < 0)) (fun h2 => ?_) (fun h2 => ?_)
 ·skip
  have hh : obHas (Z.map obF) id = false := by rcases wtsZ_cases Z id with ⟨_, r⟩ | ⟨i, y, e, _⟩; exact r; rw [e] at h2; have := of_decide_eq_true h2; omega
  refine Xq (Xg 1 (Xe [(3,vp b1), (0,vp b), (4,.bool false), (5,vi (wtsZ Z id))] ?_ 1))
  refine Xv (thenV (Y0 (.bool false) (fun w hs => ?_)))
  exact ⟨⟨Z, (obCut_no hh).symm, hZ⟩, by simp only; rw [hh], Sat.erase 1 rfl hs⟩
 ·skip
  obtain ⟨u, z, hu, hz, hzc, hh⟩ : ∃ (i : Nat) (z : Oz), wtsZ Z id = i ∧ Z[i]? = some z ∧ z.l.contains id = true ∧ obHas (Z.map obF) id = true := by rcases wtsZ_cases Z id with ⟨e, _⟩ | h; rw [e] at h2; simp at h2; exact h
  have hul := (List.getElem?_eq_some_iff.1 hz).1
  have hzm := List.mem_of_getElem? hz
  have hlz := hl z hzm
  have hin : id ∈ z.l := by simpa using hzc
  have hcut := obCut_at hd (u := u) (o := (z.c, z.l)) (by rw [List.getElem?_map, hz]; rfl) hin
  rw [show wtsZ Z id = (u : Int) by exact hu]
  obtain ⟨zc, za, zk, zl⟩ := z
  dsimp only at hlz hin hcut
  refine PT.know (KR.isSome (KR.up (obL_kr hz _ _)) (List.ne_nil_of_mem hin)) ?_
  rintro ⟨sb, so, hA⟩
  dsimp only at hA
  subst hA
  refine PT.pick 0 rfl ?_
  refine PT.pick 1 rfl ?_
  refine PT.sat (fun w hs => obPick2 hz hs) ?_
  refine Xk (Xq (Xy0 2 [15] 16 ?_))
  refine Xt [0, 1, 2, 3, 4, 5, 9, 11, 12] [(4,.bool false), (12,vi u), (14,vi u), (16,vp b), (20,.func (.func 205) #[] #[vp b1]), (23,vp b)] [] has0 ?_
  refine Xu 6 (Xj 245 (.tmp 16) (.tmp 14) b 0 4 u 2 244 (u : Int) 17 Tryz.underlying245) ?_
  refine Xt [7, 8] [(4,.bool false), (12,vi u), (20,.func (.func 205) #[] #[vp b1]), (23,vp b), (19,.slice (some ⟨sb, so, none⟩) zl.length zk)] [(⟨b, 0 + u * 2 + 1, none⟩, .slice (some ⟨sb, so, none⟩) zl.length zk)] (hasC (rowCell (E := obE) (xs := Z) 0 rfl (x := ⟨zc, some ⟨sb, so, none⟩, zk, zl⟩) hz (j := 1) rfl) has0) ?_
  refine Xo 10 (Xa (some 21) (fun _ => .slice (some ⟨sb, so, none⟩) (cutId zl id).length zk) (delf_walk _ sb so zk zl id b1 hin hlz)) (fun _ => ?_)
  refine Xu 13 (Xj 245 (.tmp 23) (.tmp 12) b 0 4 u 2 244 (u : Int) 24 Tryz.underlying245) ?_
  refine Xt [14] [(21,.slice (some ⟨sb, so, none⟩) ((cutId zl id).length) zk), (4,.bool false), (25,.pointer (some ⟨b, 0 + u * 2 + 1, none⟩))] [] has0 ?_
  refine DT.pick 2 rfl ?_
  refine Xo 15 (setS (E := obE) (J := u) (j := 1) ⟨zc, some ⟨sb, so, none⟩, zk, zl⟩ ⟨zc, some ⟨sb, so, none⟩, zk, cutId zl id⟩ (.slice (some ⟨sb, so, none⟩) ((cutId zl id).length) zk) ⟨b, 0 + u * 2 + 1, none⟩ (fun _ => by kernel_rfl) (by first | rfl | simp) (hz) (rfl) (by decide)) (fun _ => ?_)
  refine Xd (Xq (Xg 1 (Xe [(4,.bool true)] ?_ 1)))
  refine Xv (Y0 (.bool true) (fun w hs => ?_))
  exact ⟨⟨Z.set u ⟨zc, some ⟨sb, so, none⟩, zk, cutId zl id⟩, by rw [hcut, List.map_set]; rfl, by rw [List.length_set, hZ]⟩, by simp only; rw [hh], obPut (Z := Z) (j := u) (by omega) ⟨zc, some ⟨sb, so, none⟩, zk, cutId zl id⟩ (P := row obE 247 (.slice (some ⟨b, 0, none⟩) 4 4) (Z.set u ⟨zc, some ⟨sb, so, none⟩, zk, cutId zl id⟩)) (H := H) (SatF.swap (Sat.erase 2 rfl hs))⟩
end Go.Proofs.YtfhkgohokbkgiaaGreatDoor
set_option linter.unusedVariables false
set_option linter.unusedSimpArgs false
namespace Go.Proofs.YtfhkgohokbkgiaaGreatDoor
open Go.RowKit G
def ObB (O : List Ob) : Prop := ∀ o ∈ O, 0 ≤ o.1 ∧ o.1 ≤ 255 ∧ o.2.length ≤ 1000000
theorem ObB.of {O : List Ob} (h : ObB O) {Z : List Oz} (hZ : Z.map obF = O) : (∀ z ∈ Z, z.l.length ≤ 1000000) ∧ ∀ z ∈ Z, 0 ≤ z.c ∧ z.c ≤ 255 := by
 subst hZ
 exact ⟨fun z hz => (h _ (List.mem_map.2 ⟨z, hz, rfl⟩)).2.2, fun z hz => ⟨(h _ (List.mem_map.2 ⟨z, hz, rfl⟩)).1, (h _ (List.mem_map.2 ⟨z, hz, rfl⟩)).2.1⟩⟩
section
variable (H : List SP) (b : Nat) (O : List Ob)
theorem obgWait (hO : ObB O) (id j : Int) : ∀ w, Sat w (obsS b O :: H) → Calls Tryz.prog 183 #[vp b, vi id, vi j] w (Ret (ι := Unit) (fun _ => .tuple #[.bool (obWait O id j).1.1, pqErr (obWait O id j).1.2]) fun _ => obsS b (obWait O id j).2 :: H) := fun w hs => by
 obtain ⟨Z, hZ, h4, hs2⟩ := Sat.openObs hs
 obtain ⟨h1, h2⟩ := hO.of hZ
 subst hZ
 exact (wait_walk H b Z id j h4 h1 h2 w hs2).mono fun e w' ⟨x, he, hx⟩ => ⟨(), he, Sat.closeObs x.2.1 x.2.2 hx⟩
theorem obgSig (hO : ObB O) (j : Int) : ∀ w, Sat w (obsS b O :: H) → Calls Tryz.prog 184 #[vp b, vi j] w (Ret (ι := Unit) (fun _ => .tuple #[vi (obSig O j).1.1, .bool (obSig O j).1.2.1, pqErr (obSig O j).1.2.2]) fun _ => obsS b (obSig O j).2 :: H) := fun w hs => by
 obtain ⟨Z, hZ, h4, hs2⟩ := Sat.openObs hs
 obtain ⟨h1, h2⟩ := hO.of hZ
 subst hZ
 exact (signal_walk H b Z j h4 h1 h2 w hs2).mono fun e w' ⟨x, he, hx⟩ => ⟨(), he, Sat.closeObs x.2.1 x.2.2 hx⟩
theorem obgDrop (hO : ObB O) (hd : ObD O) (id : Int) : ∀ w, Sat w (obsS b O :: H) → Calls Tryz.prog 180 #[vp b, vi id] w (Ret (ι := Unit) (fun _ => .bool (obHas O id)) fun _ => obsS b (obCut O id) :: H) := fun w hs => by
 obtain ⟨Z, hZ, h4, hs2⟩ := Sat.openObs hs
 obtain ⟨h1, h2⟩ := hO.of hZ
 subst hZ
 exact (odrop_walk H b Z id h4 h1 hd w hs2).mono fun e w' ⟨x, he, hx⟩ => ⟨(), he, Sat.closeObs x.2.1 x.2.2 hx⟩
end
def oz0 : Oz := ⟨0, none, 0, []⟩
def ob0 : List Ob := [(0, []), (0, []), (0, []), (0, [])]
set_option maxRecDepth 100000 in
theorem obgNew (H : List SP) : ∀ w, Sat w H → Calls Tryz.prog 79 #[] w (Ret (ι := Nat) (fun b => vp b) fun b => obsS b ob0 :: H) := by
 refine enterG (fn := Tryz.f79) 3 [] Tryz.func79 (by kernel_rfl) (by kernel_rfl) (by kernel_rfl) ?_
 refine Xq (Xg 1 (Xe [(0,.pointer none)] ?_ 1))
 refine Xq (Xg 3 (Xr [(0,.pointer none), (1,.agg #[vi 0, .slice none 0 0, vi 0, .slice none 0 0, vi 0, .slice none 0 0, vi 0, .slice none 0 0])] ?_ 2 1))
 refine Xs (Xn 247 [vi 0, .slice none 0 0, vi 0, .slice none 0 0, vi 0, .slice none 0 0, vi 0, .slice none 0 0] (some 2) (fun b => vp b)) (fun b1 => ?_) 1
 refine Xe [(0,vp b1)] ?_ 1
 refine Xv (Y0 (vp b1) (fun w hs => ?_))
 exact ⟨b1, rfl, Sat.closeObs (Z := [oz0, oz0, oz0, oz0]) rfl rfl (by
  have h1 := Sat.blkRows (E := obE) (T := 247) (xs := [oz0, oz0, oz0, oz0]) (by decide) hs
  have r := fun (H : List SP) (w : World) (h : Sat w H) => (Sat.rowNil (E := kE .i64) (T := 3) h : Sat w (ozR oz0 :: H))
  have h2 := r _ _ (r _ _ (r _ _ (r _ _ h1)))
  exact Sat.perm (by exact ((List.perm_middle (a := row obE 247 (.slice (some ⟨b1, 0, none⟩) 4 4) [oz0, oz0, oz0, oz0]) (l₁ := [ozR oz0, ozR oz0, ozR oz0, ozR oz0]) (l₂ := H)))) h2)⟩
end Go.Proofs.YtfhkgohokbkgiaaGreatDoor
set_option linter.unusedVariables false
set_option linter.unusedSimpArgs false
namespace Go.Proofs.YtfhkgohokbkgiaaGreatDoor
open Go.RowKit
def tmE : Enc (Int × Int) := ⟨2, by decide, fun p => [.int .i64 p.1, .int .i64 p.2], fun _ => rfl, by intro a u hu; simp at hu; rcases hu with rfl | rfl <;> rfl⟩
theorem infoTm : (Tryz.prog.info? 219).map (fun i => (i.zero, i.size, i.bytes)) = some (some (.agg #[.int .i64 0, .int .i64 0]), 2, 16) := by kernel_rfl
theorem etyTm : Ety Tryz.prog tmE 219 (.agg #[.int .i64 0, .int .i64 0]) := by
  obtain ⟨i, hi, hz, hs, hb⟩ := info_parts infoTm
  exact ⟨⟨i, hi, hz, hs, by omega⟩, rfl⟩
set_option maxHeartbeats 1000000 in
set_option maxRecDepth 100000 in
theorem ins_tm_end (w : World) (F : Nat → Prop) (v : Value) (xs zs : List (Int × Int)) (x : Int × Int) (hz : zs = xs ++ [x]) (hrow : Row tmE 219 w F v xs) (yb : Nat) (T' : TypeId) (hyb : Blk w yb T' (tmE.enc x)) (hn : xs.length ≤ 1000000000) :
    Calls Tryz.prog 207 #[v, .int .i64 xs.length, .slice (some ⟨yb, 0, none⟩) 1 1] w (RowPost tmE 219 F w zs) := by
  obtain ⟨v', w', F', hr, h1, h2, h3, _⟩ := run_append_row (ty := 215) Tryz.underlying215 etyTm hrow (Rd.one hyb) (by simp; omega)
  have hpost : RowPost tmE 219 F w zs (.returned v') w' := ⟨v', F', rfl, by rw [hz]; exact h1, h2, h3⟩
  have hp := Lib.hid hpost
  have hrr := Lib.hid hr
  clear hr h1 h2 h3 hpost hz
  rcases hrow with ⟨rfl, rfl, rfl⟩ | ⟨b, o, c, cur, rfl, rfl, hb, hc1, hc2, hc3, hcur⟩
  · go_enter Tryz.func207, Tryz.ntmps207
    go_wp2_with (at_builtin; refine wpList_append_by ⟨rfl, rfl, rfl, rfl⟩ hrr.out ?_)
    go_ret
    exact hp.out
  · generalize xs.length = n at *
    clear hb hc3 hcur
    have hc : (n : Int) ≤ (c : Int) := by omega
    go_enter Tryz.func207, Tryz.ntmps207
    go_wp2_with (at_builtin; refine wpList_append_by ⟨rfl, rfl, rfl, rfl⟩ hrr.out ?_)
    all_goals (go_ret; exact hp.out)

set_option maxHeartbeats 1000000 in
set_option maxRecDepth 100000 in
theorem ins_tm_shift (w : World) (b o c n : Nat) (cur : Array Value) (xs zs : List (Int × Int)) (x : Int × Int) (i : Nat) (hz : zs = xs.take i ++ x :: xs.drop i) (hx : xs.length = n) (hb : w.heap[b]? = some (.cells cur 219 (0, 0))) (hc2 : c ≤ maxLen) (hc3 : o + c * 2 ≤ cur.size) (hcur : (cur.toList.drop o).take (n * 2) = tmE.flat xs)
    (yb : Nat) (T' : TypeId) (hyb : Blk w yb T' (tmE.enc x)) (hyF : yb ≠ b) (hi : i < n) (hroom : n + 1 ≤ c) (hn : n ≤ 1000000000) :
    Calls Tryz.prog 207 #[.slice (some ⟨b, o, none⟩) n c, .int .i64 i, .slice (some ⟨yb, 0, none⟩) 1 1] w (RowPost tmE 219 (OneB b) w zs) := by
  have hov : ∀ (o2 l2 c2 : Nat), (callFunc 229 #[.slice (some ⟨yb, 0, none⟩) 1 1, .slice (some ⟨b, o2, none⟩) l2 c2]).run Tryz.prog w = .ok (.value (.bool false)) w := fun o2 l2 c2 => by
    rw [run_callFunc_extern Tryz.func229 (by kernel_rfl) (by kernel_rfl) (by kernel_rfl) (e := Extern.SlicesOverlaps.overlaps #[215, 215] #[4]) (by kernel_rfl), run_overlaps_no Tryz.underlying215 (ety_size etyTm) hyb hb hyF (by omega)]
    rfl
  have hne : ((i : Int) == (n : Int)) = false := by simp; omega
  have hg : decide ((c : Int) < (n : Int) + 1) = false := by simp; omega
  have hw0 : IntKind.i64.wrap ((n : Int) + 1) = (n : Int) + 1 := by rw [IntKind.wrap_i64]; omega
  have hw1 : IntKind.i64.wrap ((i : Int) + 1) = (i : Int) + 1 := by rw [IntKind.wrap_i64]; omega
  have hb1 : (0 : Int) ≤ (i : Int) + 1 := by omega
  have htn : ((i : Int) + 1).toNat = i + 1 := by omega
  have hb2 : ¬ (c = i + 1) := by omega
  have hb3 : (i : Int) ≤ (n : Int) + 1 := by omega
  have hb4 : ¬ (c = i) := by omega
  have hb5 : i ≤ n := by omega
  -- the two copies
  have hlen : cur.toList.length = cur.size := by simp
  have hcp1 := fun dc sc => run_copy_at (P := Tryz.prog) (w := w.drew) (dT := 215) (sT := 215) (ty := 3) Tryz.underlying215 (ety_size etyTm) (b := b) (o := o + (i + 1) * 2) (dl := n - i) (dc := dc) (sl := n + 1 - i) (sc := sc) hb (ao := some ⟨b, o + i * 2, none⟩) (cs := tmE.flat (xs.drop i))
    (m := n - i) (by show min _ _ = _; omega) (by rw [tmE.flat_length, List.length_drop, hx]) (by intro h; cases h)
    (by
      intro a ha j u hu
      cases ha
      rw [Addr.add_lit, cell_of_row w.drew b _ cur 219 (0, 0) hb]
      rw [← tmE.flat_drop, ← hcur] at hu
      rw [List.getElem?_drop, List.getElem?_take] at hu
      split at hu
      · rw [List.getElem?_drop] at hu
        rw [← Array.getElem?_toList, ← hu]
        show _ = cur.toList[o + (i * 2 + j)]?
        congr 1; omega
      · cases hu)
    (tmE.flat_one' _) (by rw [tmE.flat_length, List.length_drop, hx]; show _ + (n - i) * 2 ≤ _; omega)
  obtain ⟨cur1, hcur1⟩ : ∃ cur1, cur1 = (cur.toList.take (o + (i + 1) * 2) ++ tmE.flat (xs.drop i) ++ cur.toList.drop (o + (i + 1) * 2 + (tmE.flat (xs.drop i)).length)).toArray := ⟨_, rfl⟩
  rw [← hcur1] at hcp1
  have hfl1 : (tmE.flat (xs.take i)).length = i * 2 := by rw [tmE.flat_length, List.length_take, hx, Nat.min_eq_left (by omega)]; rfl
  have hfl2 : (tmE.flat (xs.drop i)).length = (n - i) * 2 := by rw [tmE.flat_length, List.length_drop, hx]; rfl
  have hsplit : (cur.toList.drop o).take (i * 2 + (n - i) * 2) = tmE.flat (xs.take i) ++ tmE.flat (xs.drop i) := by
    rw [← Enc.flat_append, List.take_append_drop, ← hcur]; congr 1; omega
  have hsh := shift_list cur.toList (tmE.flat (xs.take i)) (tmE.flat (xs.drop i)) (tmE.enc x) o (i * 2) ((n - i) * 2) 2 hfl1 hfl2 rfl (by rw [hlen]; omega) hsplit
  have eo : o + i * 2 + 2 = o + (i + 1) * 2 := by omega
  simp only [eo] at hsh
  rw [← hfl2] at hsh
  have hc1l : cur1.toList = cur.toList.take (o + (i + 1) * 2) ++ tmE.flat (xs.drop i) ++ cur.toList.drop (o + (i + 1) * 2 + (tmE.flat (xs.drop i)).length) := by rw [hcur1]
  rw [← hc1l] at hsh
  have hb1' : (w.drew.setRow b cur1).heap[b]? = some (.cells cur1 219 (0, 0)) := setRow_heap w.drew b cur cur1 _ _ hb
  have hyb1 : Blk (w.drew.setRow b cur1) yb T' (tmE.enc x) := (setRow_other w.drew b yb cur1 hyF).trans hyb
  have hsz1 : cur1.size = cur.size := by rw [hcur1]; simp only [List.size_toArray, List.length_append, List.length_take, List.length_drop, hlen, hfl2]; omega
  obtain ⟨W1, hW1⟩ : ∃ W1, W1 = w.drew.setRow b cur1 := ⟨_, rfl⟩
  rw [← hW1] at hcp1 hb1' hyb1
  have hcp2 := fun dc => run_copy_at (P := Tryz.prog) (w := W1) (dT := 215) (sT := 215) (ty := 3) Tryz.underlying215 (ety_size etyTm) (b := b) (o := o + i * 2) (dl := n + 1 - i) (dc := dc) (sl := 1) (sc := 1) hb1' (ao := some ⟨yb, 0, none⟩) (cs := tmE.enc x) (m := 1)
    (by show min _ _ = _; omega) rfl (by intro h; cases h)
    (by intro a ha j u hu; cases ha; rw [Addr.add_lit, Nat.zero_add, hyb1.cell]; exact hu) (tmE.one _) (by rw [hsz1]; show _ + 2 ≤ _; omega)
  obtain ⟨cur2, hcur2⟩ : ∃ cur2, cur2 = (cur1.toList.take (o + i * 2) ++ tmE.enc x ++ cur1.toList.drop (o + i * 2 + (tmE.enc x).length)).toArray := ⟨_, rfl⟩
  rw [← hcur2] at hcp2
  have hc2l : cur2.toList = cur1.toList.take (o + i * 2) ++ tmE.enc x ++ cur1.toList.drop (o + (i + 1) * 2) := by rw [hcur2, show o + i * 2 + (tmE.enc x).length = o + (i + 1) * 2 by show _ + 2 = _; omega]
  rw [← hc2l] at hsh
  have hpost : RowPost tmE 219 (OneB b) w zs (.returned (.slice (some ⟨b, o, none⟩) (n + 1) c)) (W1.setRow b cur2) := by
    refine ⟨_, OneB b, rfl, .inr ⟨b, o, c, cur2, ?_, rfl, setRow_heap W1 b cur1 cur2 _ _ hb1', ?_, hc2, ?_, ?_⟩, ?_, fun b hb => .inl hb⟩
    · congr 1; rw [hz]; simp; omega
    · rw [hz]; simp; omega
    · have := hsh.1; simp only [Array.length_toList] at this; rw [this]; exact hc3
    · rw [hz]
      have := hsh.2
      rw [Enc.flat_append, Enc.flat_cons, ← List.append_assoc, ← this]
      congr 1
      simp; show (_ + (_ + 1)) * 2 = _; omega
    · rw [hW1]
      exact ⟨rfl, rfl, rfl, by simp [World.setRow], fun k _ hk => (setRow_other _ b k _ (fun e => hk e)).trans (setRow_other w.drew b k _ (fun e => hk e))⟩
  subst hW1
  have hp := Lib.hid hpost
  have HC1 := Lib.hid hcp1
  have HC2 := Lib.hid hcp2
  clear hpost hcp1 hcp2 hsh hc1l hc2l hcur1 hcur2 hsplit hfl1 hfl2 hb1' hyb1 hcur hb hsz1 hz hx hlen eo hc3 hyb
  go_enter Tryz.func207, Tryz.ntmps207
  go_wp2_with (simp only [hov])
  go_region_law (refine step_copy_by rfl _ _ _ _ rfl (by simp [Act.eval, Act.put]; rfl) (by simp [Act.eval, Act.put]; rfl) (HC1.out _ _) ?_)
  have hcp2 := HC2.out
  go_wp2
  go_ret
  exact hp.out

set_option maxHeartbeats 1000000 in
set_option maxRecDepth 100000 in
theorem ins_tm_grow (w : World) (b o c n : Nat) (cur : Array Value) (xs zs : List (Int × Int)) (x : Int × Int) (i : Nat) (hz : zs = xs.take i ++ x :: xs.drop i) (hx : xs.length = n) (hb : w.heap[b]? = some (.cells cur 219 (0, 0))) (hc1 : n ≤ c) (hc3 : o + c * 2 ≤ cur.size) (hcur : (cur.toList.drop o).take (n * 2) = tmE.flat xs)
    (yb : Nat) (T' : TypeId) (hyb : Blk w yb T' (tmE.enc x)) (hi : i < n) (hroom : c < n + 1) (hn : n ≤ 1000000000) :
    Calls Tryz.prog 207 #[.slice (some ⟨b, o, none⟩) n c, .int .i64 i, .slice (some ⟨yb, 0, none⟩) 1 1] w (RowPost tmE 219 (OneB b) w zs) := by
  have hne : ((i : Int) == (n : Int)) = false := by simp; omega
  have hg : decide ((c : Int) < (n : Int) + 1) = true := by simp; omega
  have hfl1 : (tmE.flat (xs.take i)).length = i * 2 := by rw [tmE.flat_length, List.length_take, hx, Nat.min_eq_left (by omega)]; rfl
  have hfl2 : (tmE.flat (xs.drop i)).length = (n - i) * 2 := by rw [tmE.flat_length, List.length_drop, hx]; rfl
  have hsrc : ∀ k j u, (tmE.flat (xs.drop k))[j]? = some u → w.cell? ⟨b, o + k * 2 + j, none⟩ = some u := by
    intro k j u hu
    rw [cell_of_row w b _ cur 219 (0, 0) hb]
    rw [← tmE.flat_drop, ← hcur] at hu
    rw [List.getElem?_drop, List.getElem?_take] at hu
    split at hu
    · rw [List.getElem?_drop] at hu
      rw [← Array.getElem?_toList, ← hu]
      show _ = cur.toList[o + (k * 2 + j)]?
      congr 1; omega
    · cases hu
  obtain ⟨cap, hcap1, hcap2, hr⟩ := run_append_zeros (P := Tryz.prog) (w := w) (ty := 215) (tn := 3) Tryz.underlying215 Tryz.underlying3 etyTm (xs := xs.take i) (ao := some ⟨b, o, none⟩) (n := i) (c := c) (l := n + 1 - i) (by rw [List.length_take, hx]; omega)
    (by
      intro a ha j u hu
      cases ha
      have h0 := hsrc 0 j u
      rw [Nat.zero_mul, Nat.add_zero, List.drop_zero] at h0
      rw [Addr.add_lit]
      refine h0 ?_
      rw [← tmE.flat_take, List.getElem?_take] at hu
      split at hu
      · exact hu
      · cases hu)
    (by intro h; cases h) (by omega) (by omega) (by omega) (L := (n : Int) + 1 - (i : Int)) (by omega)
  have e1 : i + (n + 1 - i) = n + 1 := by omega
  rw [e1] at hr hcap1
  obtain ⟨cur0, hcur0⟩ : ∃ cur0, cur0 = (tmE.flat (xs.take i)).toArray ++ Builtin.zeroCells (Value.agg #[.int .i64 0, .int .i64 0]).cells (n + 1 - i) ++ Builtin.zeroCells (Value.agg #[.int .i64 0, .int .i64 0]).cells (cap - (n + 1)) := ⟨_, rfl⟩
  rw [← hcur0] at hr
  have hs0 : cur0.size = cap * 2 := by
    rw [hcur0]; simp only [Array.size_append, List.size_toArray, size_zeroCells, hfl1]
    show _ + _ * 2 + _ * 2 = _
    omega
  have ht0 : cur0.toList.take (i * 2) = tmE.flat (xs.take i) := by
    rw [hcur0]; simp only [Array.toList_append, List.append_assoc]
    exact List.take_left' hfl1
  obtain ⟨W0, hW0⟩ : ∃ W0, W0 = w.drew.alloc (.cells cur0 219) := ⟨_, rfl⟩
  have hb0 : W0.heap[w.heap.size]? = some (.cells cur0 219 (0, 0)) := by rw [hW0]; exact heap_alloc_new w.drew _
  have hold : ∀ k, k < w.heap.size → W0.heap[k]? = w.heap[k]? := by intro k hk; rw [hW0]; exact Below.heap_alloc w.drew _ k hk
  have hcp1 := fun dc => run_copy_at (P := Tryz.prog) (w := W0) (dT := 215) (sT := 215) (ty := 3) Tryz.underlying215 (ety_size etyTm) (b := w.heap.size) (o := i * 2) (dl := n + 1 - i) (dc := dc) (sl := 1) (sc := 1) hb0 (ao := some ⟨yb, 0, none⟩) (cs := tmE.enc x) (m := 1)
    (by show min _ _ = _; omega) rfl (by intro h; cases h)
    (by intro a ha j u hu; cases ha; rw [Addr.add_lit, Nat.zero_add, World.cell?_of_block (w := w) (hold _ hyb.lt), hyb.cell]; exact hu) (tmE.one _) (by rw [hs0]; show _ + 2 ≤ _; omega)
  obtain ⟨cur1, hcur1⟩ : ∃ cur1, cur1 = (cur0.toList.take (i * 2) ++ tmE.enc x ++ cur0.toList.drop (i * 2 + (tmE.enc x).length)).toArray := ⟨_, rfl⟩
  rw [← hcur1] at hcp1
  have hs1 : cur1.size = cap * 2 := by
    rw [hcur1]; simp only [List.size_toArray, List.length_append, List.length_take, List.length_drop, Array.length_toList, hs0]
    show _ + 2 + (_ - (_ + 2)) = _
    omega
  have ht1 : cur1.toList.take (i * 2 + 2) = tmE.flat (xs.take i) ++ tmE.enc x := by
    rw [hcur1]; simp only []
    rw [ht0]
    exact List.take_left' (by rw [List.length_append, hfl1]; rfl)
  have hb1 : (W0.setRow w.heap.size cur1).heap[w.heap.size]? = some (.cells cur1 219 (0, 0)) := setRow_heap W0 _ cur0 cur1 _ _ hb0
  have hlb := lt_of_block hb
  have hold1 : ∀ k, k < w.heap.size → (W0.setRow w.heap.size cur1).drew.heap[k]? = w.heap[k]? := by intro k hk; exact (setRow_other W0 _ k cur1 (by omega)).trans (hold k hk)
  have hcp2 := fun dc sc => run_copy_at (P := Tryz.prog) (w := (W0.setRow w.heap.size cur1).drew) (dT := 215) (sT := 215) (ty := 3) Tryz.underlying215 (ety_size etyTm) (b := w.heap.size) (o := (i + 1) * 2) (dl := n - i) (dc := dc) (sl := n - i) (sc := sc) hb1 (ao := some ⟨b, o + i * 2, none⟩) (cs := tmE.flat (xs.drop i)) (m := n - i)
    (by show min _ _ = _; omega) hfl2 (by intro h; cases h)
    (by intro a ha j u hu; cases ha; rw [Addr.add_lit, World.cell?_of_block (w := w) (hold1 _ hlb)]; exact hsrc i j u hu) (tmE.flat_one' _) (by rw [hs1, hfl2]; omega)
  obtain ⟨cur2, hcur2⟩ : ∃ cur2, cur2 = (cur1.toList.take ((i + 1) * 2) ++ tmE.flat (xs.drop i) ++ cur1.toList.drop ((i + 1) * 2 + (tmE.flat (xs.drop i)).length)).toArray := ⟨_, rfl⟩
  rw [← hcur2] at hcp2
  have hpost : RowPost tmE 219 (OneB b) w zs (.returned (.slice (some ⟨w.heap.size, 0, none⟩) (n + 1) cap)) ((W0.setRow w.heap.size cur1).drew.setRow w.heap.size cur2) := by
    refine ⟨_, OneB w.heap.size, rfl, .inr ⟨w.heap.size, 0, cap, cur2, ?_, rfl, setRow_heap _ _ cur1 cur2 _ _ hb1, ?_, hcap2, ?_, ?_⟩, ⟨?_, ?_, ?_, ?_, ?_⟩, fun b hb => .inr (by cases hb; exact Nat.le_refl _)⟩
    · congr 1; rw [hz]; simp; omega
    · rw [hz]; simp; omega
    · rw [hcur2]; simp only [List.size_toArray, List.length_append, List.length_take, List.length_drop, Array.length_toList, hs1, hfl2]
      show 0 + cap * 2 ≤ _; omega
    · rw [hz, List.drop_zero]
      have e : (i + 1) * 2 = i * 2 + 2 := by omega
      rw [hcur2]
      simp only []
      rw [e, ht1, Enc.flat_append, Enc.flat_cons, ← List.append_assoc]
      exact List.take_left' (by simp only [List.length_append, hfl1, hfl2, List.length_take, List.length_cons, List.length_drop, hx]; show _ + 2 + _ = (_ + (_ + 1)) * 2; omega)
    · rw [hW0]; rfl
    · rw [hW0]; rfl
    · rw [hW0]; rfl
    · rw [hW0]; simp [World.setRow]
    · intro k hk _; exact (setRow_other _ _ k cur2 (by omega)).trans (hold1 k hk)
  obtain rfl : W0 = (w.alloc (.cells cur0 219)).drew := hW0
  have hp := Lib.hid hpost
  have HR := Lib.hid hr
  have HC1 := Lib.hid hcp1
  have HC2 := Lib.hid hcp2
  have hb2 : ¬ (cap = i + 1) := by omega
  have hb4 : ¬ (cap = i) := by omega
  have hb5 : i ≤ n := by omega
  have hb6 : ¬ (c = i) := by omega
  have hb7 : i ≤ c := by omega
  have hw0 : IntKind.i64.wrap ((n : Int) + 1) = (n : Int) + 1 := by rw [IntKind.wrap_i64]; omega
  have hw1 : IntKind.i64.wrap ((i : Int) + 1) = (i : Int) + 1 := by rw [IntKind.wrap_i64]; omega
  have hb1 : (0 : Int) ≤ (i : Int) + 1 := by omega
  have htn : ((i : Int) + 1).toNat = i + 1 := by omega
  clear hpost hr hcp1 hcp2 hcur0 hcur1 hcur2 hfl1 hfl2 hb0 hs0 hs1 ht0 ht1 hold hold1 hsrc hcur hb hz hx e1 hc3 hyb
  go_enter Tryz.func207, Tryz.ntmps207
  have hcp1 := HC1.out
  go_wp2_with (at_builtin; refine wpList_append_by ⟨rfl, rfl, rfl, rfl⟩ HR.out ?_)
  go_region_law (refine step_copy_by rfl _ _ _ _ rfl (by simp [Act.eval, Act.put]; rfl) (by simp [Act.eval, Act.put]; rfl) (HC2.out _ _) ?_)
  go_wp2
  go_ret
  exact hp.out

/-- slices.Insert of one element at a row of sleepers. -/
theorem ins_tm (w : World) (F : Nat → Prop) (v : Value) (xs : List (Int × Int)) (x : Int × Int) (hrow : Row tmE 219 w F v xs) (yb : Nat) (T' : TypeId) (hyb : Blk w yb T' (tmE.enc x)) (hyF : ¬ F yb) (i : Nat) (hi : i ≤ xs.length) (hn : xs.length ≤ 1000000000) :
    Calls Tryz.prog 207 #[v, .int .i64 i, .slice (some ⟨yb, 0, none⟩) 1 1] w (RowPost tmE 219 F w (xs.take i ++ x :: xs.drop i)) := by
  by_cases hin : i = xs.length
  · subst hin
    exact ins_tm_end w F v xs _ x (by simp) hrow yb T' hyb hn
  · rcases hrow with ⟨rfl, rfl, rfl⟩ | ⟨b, o, c, cur, rfl, rfl, hb, hc1, hc2, hc3, hcur⟩
    · simp at hi hin; omega
    · by_cases hroom : xs.length + 1 ≤ c
      · exact ins_tm_shift w b o c _ cur xs _ x i rfl rfl hb hc2 hc3 hcur yb T' hyb hyF (by omega) hroom hn
      · exact ins_tm_grow w b o c _ cur xs _ x i rfl rfl hb hc1 hc3 hcur yb T' hyb (by omega) (by omega) hn
theorem zero_cells_tm (n : Nat) : ∀ u ∈ (Builtin.zeroCells (Value.agg #[.int .i64 0, .int .i64 0]).cells n).toList, u.oneCell' = true := by
  intro u hu
  simp only [Builtin.zeroCells, Value.cells, List.size_toArray, List.length_cons, List.length_nil, Array.toList_map, List.mem_map] at hu
  obtain ⟨k, _, rfl⟩ := hu
  rcases (show k % 2 = 0 ∨ k % 2 = 1 by omega) with h | h <;> simp [h, Value.oneCell']

set_option maxHeartbeats 1000000 in
set_option maxRecDepth 100000 in
theorem del_tm_at (w : World) (b o c n : Nat) (cur : Array Value) (xs zs : List (Int × Int)) (i : Nat) (hz : zs = xs.take i ++ xs.drop (i + 1)) (hx : xs.length = n) (hb : w.heap[b]? = some (.cells cur 219 (0, 0))) (hc1 : n ≤ c) (hc2 : c ≤ maxLen) (hc3 : o + c * 2 ≤ cur.size) (hcur : (cur.toList.drop o).take (n * 2) = tmE.flat xs)
    (hi : i < n) (hn : n ≤ 1000000000) :
    Calls Tryz.prog 202 #[.slice (some ⟨b, o, none⟩) n c, .int .i64 i, .int .i64 (i + 1)] w (RowPost tmE 219 (OneB b) w zs) := by
  have hne : ((i : Int) == (i : Int) + 1) = false := by simp; omega
  have hlen : cur.toList.length = cur.size := by simp
  -- the append in place
  have hrow : Row tmE 219 w.drew (OneB b) (.slice (some ⟨b, o, none⟩) (xs.take i).length c) (xs.take i) := by
    refine .inr ⟨b, o, c, cur, rfl, rfl, hb, by simp; omega, hc2, hc3, ?_⟩
    rw [List.length_take, hx, Nat.min_eq_left (by omega)]
    rw [← tmE.flat_take, ← hcur, List.take_take]
    congr 1
    show i * 2 = min (i * 2) (n * 2); omega
  have hil : (xs.take i).length = i := by rw [List.length_take, hx]; omega
  have hdl : (xs.drop (i + 1)).length = n - (i + 1) := by rw [List.length_drop, hx]
  have hcell : ∀ j u, (tmE.flat (xs.drop (i + 1)))[j]? = some u → w.drew.cell? ⟨b, o + (i + 1) * 2 + j, none⟩ = some u := by
    intro j u hu
    rw [cell_of_row w.drew b _ cur 219 (0, 0) hb]
    rw [← tmE.flat_drop, ← hcur] at hu
    rw [List.getElem?_drop, List.getElem?_take] at hu
    split at hu
    · rw [List.getElem?_drop] at hu
      rw [← Array.getElem?_toList, ← hu]
      show _ = cur.toList[o + ((i + 1) * 2 + j)]?
      congr 1; omega
    · cases hu
  have hap : ∀ (X : Option Addr) (m dc : Nat), m = n - (i + 1) → (¬ c = i + 1 → X = some ⟨b, o + (i + 1) * 2, none⟩ ∧ dc = c - (i + 1)) → (c = i + 1 → X = some ⟨b, o, none⟩ ∧ dc = 0) → ∃ cur1, cur1.size = cur.size ∧ (cur1.toList.drop o).take ((n - 1) * 2) = tmE.flat zs ∧
      (Builtin.append_ #[215, 215] 215 #[.slice (some ⟨b, o, none⟩) i c, .slice X m dc]).run Tryz.prog w.drew = .ok (.slice (some ⟨b, o, none⟩) (n - 1) c) (w.drew.setRow b cur1) := by
    intro X m dc hm hX1 hX2
    subst hm
    obtain ⟨ii, hii, hzz, hss, hbb⟩ := info_parts infoTm
    have hfl : (tmE.flat (xs.drop (i + 1))).length = (n - (i + 1)) * 2 := by rw [tmE.flat_length, hdl]; rfl
    have hfl0 : (tmE.flat (xs.take i)).length = i * 2 := by rw [tmE.flat_length, hil]; rfl
    have hf : (Builtin.firstCells 2 (n - (i + 1)) (.slice X (n - (i + 1)) dc)).run Tryz.prog w.drew = .ok (tmE.flat (xs.drop (i + 1))).toArray w.drew := by
      by_cases hcc : c = i + 1
      · obtain ⟨rfl, rfl⟩ := hX2 hcc
        have e0 : n - (i + 1) = 0 := by omega
        rw [e0] at hfl ⊢
        have : tmE.flat (xs.drop (i + 1)) = [] := List.eq_nil_of_length_eq_zero (by simpa using hfl)
        rw [this]
        exact run_firstCells_some (P := Tryz.prog) w.drew 2 0 _ _ _ [] rfl (by intro j u h; simp at h)
      · obtain ⟨rfl, rfl⟩ := hX1 hcc
        exact run_firstCells_some (P := Tryz.prog) w.drew 2 _ _ _ _ _ hfl (fun j u hu => by rw [Addr.add_lit]; exact hcell j u hu)
    have hst := run_storeCells_at Tryz.prog b (o + i * 2) 219 (tmE.flat (xs.drop (i + 1))) 0 cur w.drew hb (by rw [hfl]; omega) (tmE.flat_one' _)
    simp only [Nat.add_zero] at hst
    refine ⟨(cur.toList.take (o + i * 2) ++ tmE.flat (xs.drop (i + 1)) ++ cur.toList.drop (o + i * 2 + (tmE.flat (xs.drop (i + 1))).length)).toArray, ?_, ?_, ?_⟩
    rotate_left 2
    · have hroom : i + (n - (i + 1)) ≤ c := by omega
      have e1 : i + (n - (i + 1)) = n - 1 := by omega
      simp [Builtin.append_, run_underlying Tryz.underlying215, sizeOf, typeInfo, hii, hss, Builtin.lenOf, hf, Addr.add_lit, hst, e1]
      intro h; omega
    · simp only [List.size_toArray, List.length_append, List.length_take, List.length_drop, hlen, hfl]; omega
    · have htm := take_mid cur.toList o (i * 2) (tmE.flat (xs.drop (i + 1))).length (tmE.flat (xs.drop (i + 1))) rfl (by rw [hlen, hfl]; omega)
      have e2 : (n - 1) * 2 = i * 2 + (tmE.flat (xs.drop (i + 1))).length := by rw [hfl]; omega
      rw [e2]
      show List.take _ (List.drop o (List.take (o + i * 2) cur.toList ++ tmE.flat (xs.drop (i + 1)) ++ List.drop (o + i * 2 + (tmE.flat (xs.drop (i + 1))).length) cur.toList)) = _
      rw [htm, hz, Enc.flat_append]
      congr 1
      rw [← tmE.flat_take, ← hcur, List.take_take]
      congr 1
      show i * 2 = min (i * 2) (n * 2); omega
  -- the clear
  have hclr : ∀ cur1 : Array Value, cur1.size = cur.size → (cur1.toList.drop o).take ((n - 1) * 2) = tmE.flat zs → ∃ cur2, (∀ dc, (Builtin.clear_ #[215] 0 #[.slice (some ⟨b, o + (n - 1) * 2, none⟩) 1 dc]).run Tryz.prog (w.drew.setRow b cur1) = .ok (.tuple #[]) ((w.drew.setRow b cur1).setRow b cur2)) ∧
      RowPost tmE 219 (OneB b) w zs (.returned (.slice (some ⟨b, o, none⟩) (n - 1) c)) ((w.drew.setRow b cur1).setRow b cur2) := by
    intro cur1 hs1 ht1
    have hb1 : (w.drew.setRow b cur1).heap[b]? = some (.cells cur1 219 (0, 0)) := setRow_heap w.drew b cur cur1 _ _ hb
    have hl1 : cur1.toList.length = cur.size := by simp [hs1]
    have hzl : (Builtin.zeroCells (Value.agg #[.int .i64 0, .int .i64 0]).cells 1).toList.length = 2 := by rw [Array.length_toList, size_zeroCells]; rfl
    refine ⟨_, fun dc => run_clear_at (P := Tryz.prog) Tryz.underlying215 etyTm hb1 (by omega) (by rw [hs1]; show _ + 1 * 2 ≤ _; omega) (zero_cells_tm 1), ?_⟩
    refine ⟨_, OneB b, rfl, .inr ⟨b, o, c, _, ?_, rfl, setRow_heap _ b cur1 _ _ _ hb1, ?_, hc2, ?_, ?_⟩, ⟨rfl, rfl, rfl, by simp [World.setRow], fun k _ hk => (setRow_other _ b k _ (fun e => hk e)).trans (setRow_other w.drew b k _ (fun e => hk e))⟩, fun b hb => .inl hb⟩
    · congr 1; rw [hz]; simp; omega
    · rw [hz]; simp; omega
    · simp only [List.size_toArray, List.length_append, List.length_take, List.length_drop, hl1, hzl]
      show o + c * 2 ≤ _ + (_ - (_ + 1 * 2)); omega
    · have hzn : zs.length = n - 1 := by rw [hz]; simp; omega
      rw [hzn, ← ht1]
      show List.take ((n - 1) * 2) (List.drop o (List.take (o + (n - 1) * 2) cur1.toList ++ (Builtin.zeroCells (Value.agg #[.int .i64 0, .int .i64 0]).cells 1).toList ++ List.drop (o + (n - 1) * 2 + 1 * 2) cur1.toList)) = _
      rw [List.append_assoc, List.drop_append, List.length_take, hl1, show o - min (o + (n - 1) * 2) cur.size = 0 by omega, List.drop_zero, List.drop_take]
      have e3 : o + (n - 1) * 2 - o = (n - 1) * 2 := by omega
      rw [e3]
      exact List.take_left' (by simp only [List.length_take, List.length_drop, hl1]; omega)
  have HAP := Lib.hid hap
  have HCL := Lib.hid hclr
  clear hap hclr hrow hil hdl hcell hcur hb hx hz hlen hc3
  have hb2 : ¬ (c = i) := by omega
  have hb3 : ¬ (c = n - 1) := by omega
  have hb4 : i + 1 ≤ n := by omega
  have hb5 : (0 : Int) ≤ (i : Int) + 1 := by omega
  have hw1 : IntKind.i64.wrap ((i : Int) + 1) = (i : Int) + 1 := by rw [IntKind.wrap_i64]; omega
  have htn : ((i : Int) + 1).toNat = i + 1 := by omega
  have hb6 : n - (n - 1) = 1 := by omega
  have hb7 : i ≤ n := by omega
  have hb8 : n - 1 ≤ n := by omega
  have hb9 : i ≤ c := by omega
  have hb11 : (i : Int) + 1 ≤ (n : Int) := by omega
  have hb10 : (i : Int) ≤ (i : Int) + 1 := by omega
  by_cases hcc : c = i + 1
  · subst hcc
    obtain ⟨cur1, hs1, ht1, hr1⟩ := HAP.out (some ⟨b, o, none⟩) 0 0 (by omega) (by intro h; exact absurd rfl h) (by intro _; exact ⟨rfl, rfl⟩)
    obtain ⟨cur2, hr2, hp0⟩ := HCL.out cur1 hs1 ht1
    have hp := Lib.hid hp0
    have HR := Lib.hid hr1
    clear hs1 ht1 hp0 hr1 HAP HCL
    go_enter Tryz.func202, Tryz.ntmps202
    go_wp2
    go_region_law (refine step_append_by rfl _ _ _ _ rfl (by simp [Act.eval, Act.put]) (by simp [Act.eval, Act.put]) HR.out ?_)
    go_wp2
    go_ret
    exact hp.out
  · obtain ⟨cur1, hs1, ht1, hr1⟩ := HAP.out (some ⟨b, o + (i + 1) * 2, none⟩) (n - (i + 1)) (c - (i + 1)) rfl (by intro _; exact ⟨rfl, rfl⟩) (by intro h; exact absurd h hcc)
    obtain ⟨cur2, hr2, hp0⟩ := HCL.out cur1 hs1 ht1
    have hp := Lib.hid hp0
    have HR := Lib.hid hr1
    clear hs1 ht1 hp0 hr1 HAP HCL
    go_enter Tryz.func202, Tryz.ntmps202
    go_wp2
    go_region_law (refine step_append_by rfl _ _ _ _ rfl (by simp [Act.eval, Act.put]) (by simp [Act.eval, Act.put]) HR.out ?_)
    go_wp2
    go_ret
    exact hp.out

/-- slices.Delete of one element at a row of sleepers. -/
theorem del_tm (w : World) (F : Nat → Prop) (v : Value) (xs : List (Int × Int)) (hrow : Row tmE 219 w F v xs) (i : Nat) (hi : i < xs.length) (hn : xs.length ≤ 1000000000) :
    Calls Tryz.prog 202 #[v, .int .i64 i, .int .i64 (i + 1)] w (RowPost tmE 219 F w (xs.take i ++ xs.drop (i + 1))) := by
  rcases hrow with ⟨rfl, rfl, rfl⟩ | ⟨b, o, c, cur, rfl, rfl, hb, hc1, hc2, hc3, hcur⟩
  · simp at hi
  · exact del_tm_at w b o c _ cur xs _ i rfl rfl hb hc1 hc2 hc3 hcur hi hn
end Go.Proofs.YtfhkgohokbkgiaaGreatDoor
set_option linter.unusedVariables false
set_option linter.unusedSimpArgs false
namespace Go.Proofs.YtfhkgohokbkgiaaGreatDoor
open Go.RowKit
def TmAt (w : World) (F : Nat → Prop) (p : Value) (l : List (Int × Int)) : Prop := PsAt tmE 217 219 w F p l
def TmPost (F : Nat → Prop) (w : World) (p R : Value) (l : List (Int × Int)) (e : Ending) (w' : World) : Prop := PsPost tmE 217 219 F w p R l e w'

set_option maxHeartbeats 1000000 in
set_option maxRecDepth 100000 in
theorem place_any (w : World) (b : Nat) (ao : Option Addr) (c : Nat) (l : List (Int × Int)) (id : Int) (h : w.cell? ⟨b, 0, none⟩ = some (.slice ao l.length c)) (hr : Rd tmE w (.slice ao l.length c) l) (hn : l.length ≤ 1000000000) :
    Calls Tryz.prog 201 #[.pointer (some ⟨b, 0, none⟩), .int .i64 id] w fun e w' => e = .returned (.tuple #[.int .i64 (tmPlace id l).1, .bool (tmPlace id l).2]) ∧ w = w' := by
  go_enter Tryz.func201, Tryz.ntmps201
  go_wp2
  refine wp_scope_g 0 (fun n a' w' => w = w' ∧ ∃ (k : Nat), k ≤ l.length ∧ n = l.length - k ∧ Hid ((tmPlace id l).1 = (tmPlace id (l.drop k)).1 + k ∧ (tmPlace id l).2 = (tmPlace id (l.drop k)).2) ∧ ∃ (u2 u3 u7 u8 u9 u10 u11 u12 u13 u14 u15 u16 u17 u18 u19 u20 u21 u22 u23 u24 u25 u26 u27 u28 u29 u30 u31 u32 u33 u34 u35 u36 u37 u38 u39 : Value), a' = { tmps := #[.pointer (some ⟨b, 0, none⟩), .int .i64 id, u2, u3, .int .i64 0, .bool false, .int .i64 k, u7, u8, u9, u10, u11, u12, u13, u14, u15, u16, u17, u18, u19, u20, u21, u22, u23, u24, u25, u26, u27, u28, u29, u30, u31, u32, u33, u34, u35, u36, u37, u38, u39], defers := [] }) rfl ?_ ?_
  · rintro n a' w' ⟨rfl, k, hk, rfl, hH, _, _, _, _, _, _, _, _, _, _, _, _, _, _, _, _, _, _, _, _, _, _, _, _, _, _, _, _, _, _, _, _, _, _, _, rfl⟩ K hK
    by_cases hlt : k < l.length
    · obtain ⟨sb, o, c', hv, _, _, hcell⟩ := hr.at hlt
      cases hv
      have hx : l[k]? = some l[k] := by simp [hlt]
      have h0 : w.cell? ⟨sb, o + k * 2, none⟩ = some (.int .i64 l[k].1) := hcell k 0 l[k] _ hx rfl
      have hne : ((k : Int) == (l.length : Int)) = false := by simp; omega
      have hd : l.drop k = l[k] :: l.drop (k + 1) := List.drop_eq_getElem_cons hlt
      rw [hd] at hH
      have HD := Lib.hid hd
      clear hd hcell
      go_wp2
      · have hlt' : id < l[k].1 := by assumption
        simp only [Exit.jump]
        go_wp2
        go_ret2
        have := hH.out
        simp only [tmPlace, if_pos hlt'] at this
        exact ⟨by rw [this.1, this.2]; simp, rfl⟩
      · have hle : l[k].1 ≤ id := by assumption
        have heq : (l[k].1 == id) = true := by assumption
        simp only [Exit.jump]
        go_wp2
        go_ret2
        have := hH.out
        simp only [tmPlace, if_neg (show ¬ id < l[k].1 by omega), if_pos (beq_iff_eq.1 heq)] at this
        exact ⟨by rw [this.1, this.2]; simp, rfl⟩
      · have hle : l[k].1 ≤ id := by assumption
        have heq : (l[k].1 == id) = false := by assumption
        have := hH.out
        simp only [tmPlace, if_neg (show ¬ id < l[k].1 by omega), if_neg (beq_eq_false_iff_ne.1 heq)] at this
        go_step3
        refine ⟨rfl, hK _ _ ⟨l.length - (k + 1), by omega, rfl, k + 1, hlt, rfl, ⟨by rw [this.1]; omega, this.2⟩, ?_⟩⟩
        (repeat apply Exists.intro)
        rfl
    · have hke : k = l.length := by omega
      subst hke
      have hH' := hH.out
      simp only [List.drop_length, tmPlace, Nat.zero_add] at hH'
      have HH := Lib.hid hH'
      clear hH'
      go_wp2
      simp only [Exit.jump]
      go_wp2
      go_ret2
      exact ⟨by rw [HH.out.1, HH.out.2]; simp, rfl⟩
  · intro K hK
    go_wp2
    go_step3
    go_step
    go_step
    refine hK _ _ _ ⟨rfl, 0, Nat.zero_le _, rfl, ⟨by simp, by simp⟩, ?_⟩
    (repeat apply Exists.intro)
    rfl

set_option maxHeartbeats 1000000 in
set_option maxRecDepth 100000 in
theorem tm_set (w : World) (F : Nat → Prop) (p : Value) (l : List (Int × Int)) (id u : Int) (h : TmAt w F p l) (hn : l.length ≤ 1000000000) :
    Calls Tryz.prog 182 #[p, .int .i64 id, .int .i64 u] w (TmPost F w p (.tuple #[]) (tmSet id u l)) := by
  obtain ⟨b, sv, G, rfl, hb, hr, hnb, rfl⟩ := h
  obtain ⟨ao, c, rfl, hlc⟩ := row_form hr
  have h0 : w.cell? ⟨b, 0, none⟩ = some (.slice ao l.length c) := hb.cell 0
  have hf0 := hb.frozen 0
  have hplace := place_any w b ao c l id h0 hr.rd hn
  obtain ⟨r, hR⟩ : ∃ r, r = tmPlace id l := ⟨_, rfl⟩
  have hle := tmPlace_le id l
  rw [← hR] at hplace hle
  by_cases ht : r.2 = true
  · obtain ⟨x, hx, hxe, hset, _⟩ := tmPlace_there id u l (hR ▸ ht)
    rw [← hR] at hx hset
    have hi : r.1 < l.length := (List.getElem?_eq_some_iff.1 hx).1
    obtain ⟨sb, o, c', hv, _, _, hcell⟩ := hr.rd.at hi
    cases hv
    have h1 : w.cell? ⟨sb, o + r.1 * 2 + 1, none⟩ = some (.int .i64 x.2) := hcell r.1 1 x _ hx rfl
    have hf1 : w.frozen? ⟨sb, o + r.1 * 2 + 1, none⟩ = false := hr.frozen rfl _
    have hnew : TmPost (OrB (OneB b) G) w (.pointer (some ⟨b, 0, none⟩)) (.tuple #[]) (tmSet id u l) (.returned (.tuple #[])) (w.setCell ⟨sb, o + r.1 * 2 + 1, none⟩ (.int .i64 u)) := by
      have hG : G sb := by
        rcases hr with ⟨h, _⟩ | ⟨b', o', c', cur, h, rfl, _⟩
        · cases h
        · cases h; rfl
      have hup : Upd G w (w.setCell ⟨sb, o + r.1 * 2 + 1, none⟩ (.int .i64 u)) := Upd.setCell w _ _ hG
      refine ⟨OrB (OneB b) G, rfl, ⟨b, .slice (some ⟨sb, o, none⟩) l.length c, G, rfl, hb.upd hup hnb, ?_, hnb, rfl⟩, hup.mono (fun x _ hx => .inr hx), fun x hx => .inl hx⟩
      rw [hset]
      exact Row.set (E := tmE) (x' := (id, u)) hr hx (by show [Value.int .i64 id, .int .i64 u] = [Value.int .i64 x.1, .int .i64 u]; rw [hxe]) (by decide)
    have hp := Lib.hid hnew
    have HP := Lib.hid hplace
    have HT := Lib.hid ht
    have hi' : (r.1 : Int) < (l.length : Int) := by omega
    clear hnew hplace hset hx hxe hR hcell hr ht
    go_enter Tryz.func182, Tryz.ntmps182
    go_wp2_with (go_at_call 201; refine HP.out.mono ?_; rintro e w' ⟨rfl, rfl⟩; rw [HT.out])
    go_end0
    exact hp.out
  · have ht' : r.2 = false := by simpa using ht
    obtain ⟨hset, _⟩ := tmPlace_not id u l (hR ▸ ht')
    rw [← hR] at hset
    have hins := fun (W : World) (hW : Upd NoB w W) (yb : Nat) (hyb : Blk W yb 219 (tmE.enc (id, u))) (hlt : w.heap.size ≤ yb) => ins_tm W G (.slice ao l.length c) l (id, u) (hr.upd hW (fun x _ hx => hx)) yb _ hyb (fun hx => by have := hr.lt _ hx; omega) r.1 hle hn
    rw [← hset] at hins
    have HP := Lib.hid hplace
    have HT := Lib.hid ht'
    have HI := Lib.hid hins
    have HB := Lib.hid hb
    have hbl := hb.lt
    have hnb' := Lib.hid hnb
    have HGl := Lib.hid hr.lt
    clear hplace hset hR hr ht ht' hb hnb hins
    go_enter Tryz.func182, Tryz.ntmps182
    go_wp2_with (first
      | (go_at_call 201; refine HP.out.mono ?_; rintro e w' ⟨rfl, rfl⟩; rw [HT.out])
      | (go_at_call 207; refine (HI.out _ (Upd.alloc _ _ _) _ (Blk.new _ _ _) (Nat.le_refl _)).mono ?_; rintro e w' ⟨v', F', rfl, hr', hu', hF'⟩; obtain ⟨ao', c', rfl, _⟩ := row_form hr'; have hb2 := (HB.out.upd (Upd.alloc NoB _ _) (fun x => x)).upd hu' hnb'.out; have hc2 : w'.cell? ⟨b, 0, none⟩ = some (.slice ao l.length c) := hb2.cell 0; have hf2 := hb2.frozen 0; have HR' := Lib.hid hr'; have HU' := Lib.hid hu'; have HF' := Lib.hid hF'; have HB2 := Lib.hid hb2; clear hr' hu' hF' hb2))
    go_end0
    have hup : Upd G w w' := (Upd.alloc NoB w _ |>.mono (fun x _ hx => hx.elim)).trans HU'.out
    have hFb : ¬ F' b := fun hx => by
      rcases HF'.out b hx with h | h
      · exact hnb'.out h
      · simp at h; omega
    refine ⟨OrB (OneB b) F', rfl, ⟨b, _, F', rfl, HB2.out.set 0 _, HR'.out.upd (Upd.setCell (F := OneB b) w' _ _ rfl) (fun x hx hxb => hFb (by cases hxb; exact hx)), hFb, rfl⟩, (hup.mono (fun x _ hx => .inr hx)).trans (Upd.setCell w' _ _ (.inl rfl)), ?_⟩
    rintro x (rfl | hx)
    · exact .inl (.inl rfl)
    · rcases HF'.out x hx with h | h
      · exact .inl (.inr h)
      · exact .inr (by simp at h; omega)
set_option maxHeartbeats 1000000 in
set_option maxRecDepth 100000 in
theorem tm_drop (w : World) (F : Nat → Prop) (p : Value) (l : List (Int × Int)) (id : Int) (h : TmAt w F p l) (hn : l.length ≤ 1000000000) :
    Calls Tryz.prog 179 #[p, .int .i64 id] w (TmPost F w p (.bool (tmPlace id l).2) (tmDrop id l)) := by
  have h' := h
  obtain ⟨b, sv, G, rfl, hb, hr, hnb, rfl⟩ := h
  obtain ⟨ao, c, rfl, hlc⟩ := row_form hr
  have h0 : w.cell? ⟨b, 0, none⟩ = some (.slice ao l.length c) := hb.cell 0
  have hf0 := hb.frozen 0
  have hplace := place_any w b ao c l id h0 hr.rd hn
  obtain ⟨r, hR⟩ : ∃ r, r = tmPlace id l := ⟨_, rfl⟩
  have hle := tmPlace_le id l
  rw [← hR] at hplace hle ⊢
  by_cases ht : r.2 = true
  · obtain ⟨x, hx, hxe, _, hdr⟩ := tmPlace_there id 0 l (hR ▸ ht)
    rw [← hR] at hx hdr
    have hi : r.1 < l.length := (List.getElem?_eq_some_iff.1 hx).1
    have hdel := del_tm w G (.slice ao l.length c) l hr r.1 hi hn
    rw [← hdr] at hdel
    have HP := Lib.hid hplace
    have HT := Lib.hid ht
    have HD := Lib.hid hdel
    have HB := Lib.hid hb
    have hnb' := Lib.hid hnb
    clear hplace hdr hx hxe hR hr ht hdel hb hnb h'
    go_enter Tryz.func179, Tryz.ntmps179
    go_wp2_with (first
      | (go_at_call 201; refine HP.out.mono ?_; rintro e w' ⟨rfl, rfl⟩; rw [HT.out])
      | (go_at_call 202; refine HD.out.mono ?_; rintro e w' ⟨v', F', rfl, hr', hu', hF'⟩; obtain ⟨ao', c', rfl, _⟩ := row_form hr'; have hb2 := HB.out.upd hu' hnb'.out; have hc2 : w'.cell? ⟨b, 0, none⟩ = some (.slice ao l.length c) := hb2.cell 0; have hf2 := hb2.frozen 0; have HN := Lib.hid (fun R => PsAt.put HB.out hnb'.out hu' hr' hF' R); clear hr' hu' hF' hb2))
    go_ret
    rw [HT.out]
    exact HN.out _
  · have ht' : r.2 = false := by simpa using ht
    obtain ⟨_, hdr⟩ := tmPlace_not id 0 l (hR ▸ ht')
    rw [hdr]
    have HP := Lib.hid hplace
    have HT := Lib.hid ht'
    have HH := Lib.hid h'
    clear hplace hdr hR hr ht ht' hb hnb h'
    go_enter Tryz.func179, Tryz.ntmps179
    go_wp2_with (go_at_call 201; refine HP.out.mono ?_; rintro e w' ⟨rfl, rfl⟩; rw [HT.out])
    go_ret
    rw [HT.out]
    exact ⟨_, rfl, HH.out, Upd.refl _ _, fun x hx => .inl hx⟩

theorem tm_new (w : World) : Calls Tryz.prog 78 #[] w fun e w' => e = .returned (.pointer (some ⟨w.heap.size, 0, none⟩)) ∧ w' = w.alloc (.cells #[.slice none 0 0] 217 (0,0)) := by
  go_enter Tryz.func78, Tryz.ntmps78
  go_wp2
  go_ret
  exact ⟨rfl, rfl⟩
theorem tm_new_at (w : World) : TmAt (w.alloc (.cells #[.slice none 0 0] 217 (0,0))) (OrB (OneB w.heap.size) NoB) (.pointer (some ⟨w.heap.size, 0, none⟩)) [] :=
  ⟨w.heap.size, _, NoB, rfl, Blk.new w _ [_], Row.nil _ _ _, fun h => h, rfl⟩

theorem infoIntT : (Tryz.prog.info? 3).map (fun i => (i.zero, i.size, i.bytes)) = some (some (.int .i64 0), 1, 8) := by kernel_rfl
theorem etyIntT : Ety Tryz.prog intE 3 (.int .i64 0) := by
  obtain ⟨i, hi, hz, hs, hb⟩ := info_parts infoIntT
  exact ⟨⟨i, hi, hz, hs, by omega⟩, rfl⟩

/-- What has been found so far. -/
def DueRel (w : World) (l : List (Int × Int)) (t : Int) (n : Nat) (v r i : Value) (wr : World) : Prop :=
  ∃ (k : Nat) (F1 F2 : Nat → Prop), k ≤ n ∧ i = .int .i64 k ∧ Row intE 3 wr F1 v (dueOf t (l.take k)) ∧ Row tmE 219 wr F2 r (restOf t (l.take k)) ∧ (∀ x, F1 x → w.heap.size ≤ x ∧ ¬ F2 x) ∧ (∀ x, F2 x → w.heap.size ≤ x) ∧ Upd NoB w wr

theorem new_two (w : World) (o : Obj) (T' : TypeId) (cs : List Value) : Blk ((w.alloc o).alloc (.cells cs.toArray T')) (w.heap.size + 1) T' cs := by
  have := Blk.new (w.alloc o) T' cs
  simpa using this
theorem upd_two (w : World) (o o' : Obj) : Upd NoB w ((w.alloc o).alloc o') := (Upd.alloc _ _ _).trans (Upd.alloc _ _ _)

set_option maxHeartbeats 1000000 in
set_option maxRecDepth 100000 in
theorem tm_due (w : World) (F : Nat → Prop) (p : Value) (l : List (Int × Int)) (t : Int) (h : TmAt w F p l) (hn : l.length ≤ 1000000000) :
    Calls Tryz.prog 59 #[p, .int .i64 t] w fun e w' => ∃ v F' G, e = .returned v ∧ TmAt w' F' p (restOf t l) ∧ Upd F w w' ∧ (∀ b, F' b → F b ∨ w.heap.size ≤ b) ∧ Row intE 3 w' G v (dueOf t l) ∧ ∀ x, G x → w.heap.size ≤ x ∧ ¬ F' x := by
  obtain ⟨b, sv, G, rfl, hb, hr, hnb, rfl⟩ := h
  obtain ⟨ao, c, rfl, hlc⟩ := row_form hr
  have h0 : w.cell? ⟨b, 0, none⟩ = some (.slice ao l.length c) := hb.cell 0
  have hf0 := hb.frozen 0
  have hbl := hb.lt
  have hrd := hr.rd
  have hgl := hr.lt
  obtain ⟨n, hN⟩ : ∃ n, n = l.length := ⟨_, rfl⟩
  rw [← hN] at h0 hlc hn hrd hr
  have HB := Lib.hid hb
  have HR := Lib.hid hr
  have HNB := Lib.hid hnb
  have HRD := Lib.hid hrd
  have HN := Lib.hid hN
  have HGL := Lib.hid hgl
  clear hb hr hnb hrd hN hgl
  go_enter Tryz.func59, Tryz.ntmps59
  go_wp2
  go_loopw [5, 6, 14] (DueRel w l t n) (fun _ _ i _ => n - (intOf i).toNat)
  case atStart => exact ⟨0, NoB, NoB, Nat.zero_le _, rfl, Row.nil _ _ _, Row.nil _ _ _, fun _ h => h.elim, fun _ h => h.elim, Upd.refl _ _⟩
  case round =>
    obtain ⟨k, F1, F2, hk, rfl, hr1, hr2, hd1, hd2, hU⟩ := hrel
    by_cases hlt : k < n
    · obtain ⟨y, hy⟩ : ∃ y, l[k]? = some y := ⟨l[k]'(by rw [← HN.out]; exact hlt), by simp⟩
      obtain ⟨sb, o, c', hv, _, _, hcell⟩ := Rd.at (E := tmE) (xs := l) (v := .slice ao n c) (w := w) (by have := HRD.out; exact this) (i := k) (by rw [← HN.out]; exact hlt)
      rw [← HN.out] at hv
      cases hv
      have hsb : sb < w.heap.size := HGL.out sb (by
        have hr := HR.out
        rcases hr with ⟨h, _⟩ | ⟨b', o', c', cur, h, rfl, hh, _⟩
        · cases h
        · cases h; rfl)
      have g0 : wr.cell? ⟨sb, o + k * 2, none⟩ = some (.int .i64 y.1) := (World.cell?_of_block (w := w) (a := ⟨sb, _, none⟩) (hU.keep sb hsb (fun x => x))).trans (hcell k 0 y _ hy rfl)
      have g1 : wr.cell? ⟨sb, o + k * 2 + 1, none⟩ = some (.int .i64 y.2) := (World.cell?_of_block (w := w) (a := ⟨sb, _, none⟩) (hU.keep sb hsb (fun x => x))).trans (hcell k 1 y _ hy rfl)
      obtain ⟨hs1, hs2⟩ := due_take t l k y hy
      have hlen := due_len t l k
      have hl1 := hlen.1
      have hl2 := hlen.2
      obtain ⟨v1, w1, G1, ha1, hb1, hc1, hd1'⟩ := app_new (ty := 42) (x := y.1) Tryz.underlying42 etyIntT hr1 (by omega) (upd_two wr (.cells #[.int .i64 y.1, .int .i64 y.2] 219) _) (new_two _ _ 3 (intE.enc y.1))
      obtain ⟨v2, w2, G2, ha2, hb2, hc2, hd2'⟩ := app_new (ty := 215) (x := y) Tryz.underlying215 etyTm hr2 (by omega) (upd_two wr (.cells #[.int .i64 y.1, .int .i64 y.2] 219) _) (new_two _ _ 219 (tmE.enc y))
      have hsz := hU.size
      by_cases hyt : y.2 ≤ t
      · obtain ⟨e1, e2⟩ := hs1 hyt
        have hfin : DueRel w l t n v1 u6 (.int .i64 ((k : Int) + 1)) w1 := by
          refine ⟨k + 1, G1, F2, hlt, by go_num, by rw [e1]; exact hb1, by rw [e2]; exact hr2.upd hc1 (fun x hx hx' => (hd1 x hx').2 hx), ?_, hd2, hU.then hc1 (fun x hx hx' => by have := (hd1 x hx').1; omega)⟩
          intro x hx
          rcases hd1' x hx with h | h
          · exact hd1 x h
          · exact ⟨by omega, fun h2 => by have := hr2.lt x h2; omega⟩
        have HA := Lib.hid ha1
        have HFIN := Lib.hid hfin
        clear hs1 hs2 hlen ha1 ha2 hb1 hb2 hc1 hc2 hd1' hd2' hr1 hr2 hd1 hd2 hU hy hcell e1 e2 hfin hl1 hl2
        go_wp2_with (at_builtin; refine wpList_append_by ⟨rfl, rfl, rfl, rfl⟩ HA.out ?_)
        exact ⟨HFIN.out, by simp [intOf]; omega⟩
      · obtain ⟨e1, e2⟩ := hs2 (by omega)
        have hfin : DueRel w l t n u5 v2 (.int .i64 ((k : Int) + 1)) w2 := by
          refine ⟨k + 1, F1, G2, hlt, by go_num, by rw [e1]; exact hr1.upd hc2 (fun x hx hx' => (hd1 x hx).2 hx'), by rw [e2]; exact hb2, ?_, ?_, hU.then hc2 (fun x hx hx' => by have := hd2 x hx'; omega)⟩
          · intro x hx
            refine ⟨(hd1 x hx).1, fun h2 => ?_⟩
            rcases hd2' x h2 with h | h
            · exact (hd1 x hx).2 h
            · have := hr1.lt x hx; omega
          · intro x hx
            rcases hd2' x hx with h | h
            · exact hd2 x h
            · omega
        have HA := Lib.hid ha2
        have HFIN := Lib.hid hfin
        clear hs1 hs2 hlen ha1 ha2 hb1 hb2 hc1 hc2 hd1' hd2' hr1 hr2 hd1 hd2 hU hy hcell e1 e2 hfin hl1 hl2
        go_wp2_with (at_builtin; refine wpList_append_by ⟨rfl, rfl, rfl, rfl⟩ HA.out ?_)
        exact ⟨HFIN.out, by simp [intOf]; omega⟩
    · have hke : k = n := by omega
      subst hke
      have hbb := (HB.out.upd hU (fun x => x))
      have gc : wr.cell? ⟨b, 0, none⟩ = some (.slice ao k c) := by rw [HN.out]; exact hbb.cell 0
      have gf := hbb.frozen 0
      rw [List.take_of_length_le (by rw [HN.out]; exact Nat.le_refl _)] at hr1 hr2
      obtain ⟨ao2, c2, rfl, _⟩ := row_form hr2
      have hfin : ∃ F', TmAt (wr.setCell ⟨b, 0, none⟩ (.slice ao2 (restOf t l).length c2)) F' (.pointer (some ⟨b, 0, none⟩)) (restOf t l) ∧ Upd (OrB (OneB b) G) w (wr.setCell ⟨b, 0, none⟩ (.slice ao2 (restOf t l).length c2)) ∧ (∀ x, F' x → OrB (OneB b) G x ∨ w.heap.size ≤ x) ∧ ∃ H, Row intE 3 (wr.setCell ⟨b, 0, none⟩ (.slice ao2 (restOf t l).length c2)) H u5 (dueOf t l) ∧ ∀ x, H x → w.heap.size ≤ x ∧ ¬ F' x := by
        have hF2 : ¬ F2 b := fun h => by have := hd2 b h; omega
        refine ⟨OrB (OneB b) F2, ⟨b, _, F2, rfl, (HB.out.upd hU (fun x => x)).set 0 _, hr2.upd (Upd.setCell (F := OneB b) wr _ _ rfl) (fun x hx hxb => hF2 (by cases hxb; exact hx)), hF2, rfl⟩, (hU.mono (fun x _ hx => hx.elim)).trans (Upd.setCell wr _ _ (.inl rfl)), ?_, F1, hr1.upd (Upd.setCell (F := OneB b) wr _ _ rfl) (fun x hx hxb => by cases hxb; have := (hd1 _ hx).1; omega), fun x hx => ⟨(hd1 x hx).1, ?_⟩⟩
        · rintro x (rfl | hx)
          · exact .inl (.inl rfl)
          · exact .inr (hd2 x hx)
        · rintro (rfl | hx')
          · have := (hd1 _ hx).1; omega
          · exact (hd1 x hx).2 hx'
      have HFIN := Lib.hid hfin
      clear hfin hr1 hr2 hd1 hd2 hU hbb
      go_wp2
      go_ret
      obtain ⟨F', h1, h2, h3, H, h4, h5⟩ := HFIN.out
      exact ⟨_, F', H, rfl, h1, h2, h3, h4, h5⟩
end Go.Proofs.YtfhkgohokbkgiaaGreatDoor
set_option linter.unusedVariables false
set_option linter.unusedSimpArgs false
namespace Go.Proofs.YtfhkgohokbkgiaaGreatDoor
open Go.RowKit G
/-- Timers at b: sleepers by number. -/
def tmS (b : Nat) (l : List (Int × Int)) : SP := ⟨fun w F => TmAt w F (.pointer (some ⟨b, 0, none⟩)) l, fun h => PsAt.lt h, fun {w w' F} h a => by
  obtain ⟨b', sv, G, hp, hb, hr, hn, rfl⟩ := h
  refine ⟨b', sv, G, hp, (a.keep b' (.inl rfl)).trans hb, ?_, hn, rfl⟩
  rcases hr with hr | ⟨b2, o, c, cur, h1, rfl, hb2, r⟩
  · exact .inl hr
  · exact .inr ⟨b2, o, c, cur, h1, rfl, (a.keep b2 (.inr rfl)).trans hb2, r⟩⟩
section
variable (H : List SP) (b : Nat) (l : List (Int × Int))
theorem tmgNew : ∀ w, Sat w H → Calls Tryz.prog 78 #[] w (Ret (ι := Nat) (fun b => .pointer (some ⟨b, 0, none⟩)) fun b => tmS b [] :: H) := fun w hs =>
  (tm_new w).mono fun e w' ⟨he, hw⟩ => by
    subst hw
    exact ⟨w.heap.size, he, hs.fresh (Upd.alloc _ _ _) (G' := OrB (OneB w.heap.size) NoB) (tm_new_at w) (by
      rintro x (rfl | h)
      · exact Nat.le_refl _
      · exact h.elim)⟩
theorem tmCall {zs : List (Int × Int)} {f : FuncId} {vs : Array Value} {R : Value} (h : ∀ w F, TmAt w F (.pointer (some ⟨b, 0, none⟩)) l → Calls Tryz.prog f vs w (TmPost F w (.pointer (some ⟨b, 0, none⟩)) R zs)) :
    ∀ w, Sat w (tmS b l :: H) → Calls Tryz.prog f vs w (Ret (ι := Unit) (fun _ => R) fun _ => tmS b zs :: H) := by
  rintro w ⟨G, hG, _, h3⟩
  refine (h w G hG).mono ?_
  rintro e w' ⟨F', rfl, hr, hu, hf⟩
  have hp : Sat w (pinS (tmS b l) G :: H) := ⟨G, ⟨hG, rfl⟩, fun _ _ => trivial, h3⟩
  exact ⟨(), rfl, hp.change fun G' hG' => by
    obtain ⟨_, rfl⟩ := hG'
    exact ⟨hu, F', hr, hf⟩⟩
theorem tmgSet (id u : Int) (hn : l.length ≤ 1000000000) : ∀ w, Sat w (tmS b l :: H) → Calls Tryz.prog 182 #[.pointer (some ⟨b, 0, none⟩), .int .i64 id, .int .i64 u] w (Ret (ι := Unit) (fun _ => .tuple #[]) fun _ => tmS b (tmSet id u l) :: H) :=
  tmCall H b l fun w F h => tm_set w F _ l id u h hn
theorem tmgDrop (id : Int) (hn : l.length ≤ 1000000000) : ∀ w, Sat w (tmS b l :: H) → Calls Tryz.prog 179 #[.pointer (some ⟨b, 0, none⟩), .int .i64 id] w (Ret (ι := Unit) (fun _ => .bool (tmPlace id l).2) fun _ => tmS b (tmDrop id l) :: H) :=
  tmCall H b l fun w F h => tm_drop w F _ l id h hn
theorem tmgDue (t : Int) (hn : l.length ≤ 1000000000) : ∀ w, Sat w (tmS b l :: H) → Calls Tryz.prog 59 #[.pointer (some ⟨b, 0, none⟩), .int .i64 t] w (Ret (ι := Option Addr × Nat) (fun x => .slice x.1 (dueOf t l).length x.2) fun x => row (kE .i64) 3 (.slice x.1 (dueOf t l).length x.2) (dueOf t l) :: tmS b (restOf t l) :: H) := by
  rintro w ⟨G, hG, _, h3⟩
  refine (tm_due w G _ l t hG hn).mono ?_
  rintro e w' ⟨v, F', K, rfl, g1, g2, g3, g4, g5⟩
  have hp : Sat w (pinS (tmS b l) G :: H) := ⟨G, ⟨hG, rfl⟩, fun _ _ => trivial, h3⟩
  obtain ⟨ao, c, rfl, _⟩ := row_form g4
  refine ⟨(ao, c), rfl, Sat.openTwo (hp.change fun G' hG' => ?_)⟩
  obtain ⟨_, rfl⟩ := hG'
  refine ⟨g2, fun x => K x ∨ F' x, ⟨K, F', g4, g1, fun x hx => (g5 x hx).2, fun x => Iff.rfl⟩, ?_⟩
  rintro x (hx | hx)
  · exact .inr (g5 x hx).1
  · exact g3 x hx
end
end Go.Proofs.YtfhkgohokbkgiaaGreatDoor
set_option linter.unusedVariables false
set_option linter.unusedSimpArgs false
namespace Go.Proofs.YtfhkgohokbkgiaaGreatDoor
open Go.RowKit G
def kerS (k : Nat) (s : KS) : SP := exS fun p : Nat × Nat × Nat => two (pureS (KOk s)) (manyS [blk k 145 [.pointer (some ⟨p.1, 0, none⟩), .pointer (some ⟨p.2.1, 0, none⟩), .pointer (some ⟨p.2.2, 0, none⟩), .int .i64 s.mt, .int .i64 s.mg, .int .i64 s.nx], treeS p.1 s.N, tmS p.2.1 s.tm, obsS p.2.2 s.ob])
theorem Sat.openKer {k : Nat} {s : KS} {H : List SP} {w : World} (h : Sat w (kerS k s :: H)) : ∃ t m o, KOk s ∧ Sat w (blk k 145 [.pointer (some ⟨t, 0, none⟩), .pointer (some ⟨m, 0, none⟩), .pointer (some ⟨o, 0, none⟩), .int .i64 s.mt, .int .i64 s.mg, .int .i64 s.nx] :: treeS t s.N :: tmS m s.tm :: obsS o s.ob :: H) := by
 obtain ⟨⟨t, m, o⟩, h⟩ := Sat.openEx h
 obtain ⟨h1, h⟩ := Sat.openPure (Sat.openTwo h)
 exact ⟨t, m, o, h1, Sat.openMany h⟩
theorem Sat.closeKer {k t m o : Nat} {s : KS} {H : List SP} {w : World} (h1 : KOk s) (h : Sat w (blk k 145 [.pointer (some ⟨t, 0, none⟩), .pointer (some ⟨m, 0, none⟩), .pointer (some ⟨o, 0, none⟩), .int .i64 s.mt, .int .i64 s.mg, .int .i64 s.nx] :: treeS t s.N :: tmS m s.tm :: obsS o s.ob :: H)) : Sat w (kerS k s :: H) :=
 Sat.closeEx (t, m, o) (Sat.closeTwo (Sat.closePure h1 (Sat.closeMany (l := [blk k 145 [.pointer (some ⟨t, 0, none⟩), .pointer (some ⟨m, 0, none⟩), .pointer (some ⟨o, 0, none⟩), .int .i64 s.mt, .int .i64 s.mg, .int .i64 s.nx], treeS t s.N, tmS m s.tm, obsS o s.ob]) h)))
theorem nodup_le : ∀ {l m : List Int}, l.Nodup → (∀ x ∈ l, x ∈ m) → l.length ≤ m.length
 | [], m, _, _ => by simp
 | a :: l, m, h, hs => by
  obtain ⟨h1, h2⟩ := List.nodup_cons.1 h
  have ha : a ∈ m := hs a (by simp)
  have := nodup_le (l := l) (m := m.erase a) h2 fun x hx => (List.mem_erase_of_ne (by rintro rfl; exact h1 hx)).2 (hs x (by simp [hx]))
  rw [List.length_erase_of_mem ha] at this
  have h3 : 0 < m.length := List.length_pos_of_mem ha
  simp only [List.length_cons]; omega
theorem Off.mem {N : List Nr} {i : Int} (h : Off N i) : i ∈ N.map (·.id) := by
 obtain ⟨x, hx, e, _⟩ := h
 exact List.mem_map.2 ⟨x, hx, e⟩
theorem KOk.obb {s : KS} (h : KOk s) : ObB s.ob := fun o ho => ⟨(h.obc o ho).1, (h.obc o ho).2, by
 have h1 := nodup_le (h.obn o ho) (m := s.N.map (·.id)) fun i hi => (h.obo o ho i hi).mem
 have := h.wf.sk.len
 rw [List.length_map] at h1; omega⟩
theorem KOk.tml {s : KS} (h : KOk s) : s.tm.length ≤ 60 := by
 have h1 := nodup_le (l := s.tm.map (·.1)) (m := s.N.map (·.id)) (List.pairwise_map.2 (h.tm.imp fun {a b} hab => by omega)) fun i hi => by
  obtain ⟨p, hp, rfl⟩ := List.mem_map.1 hi
  exact (h.tmo p hp).mem
 have := h.wf.sk.len
 rw [List.length_map, List.length_map] at h1; omega
theorem kthr_eq (N : List Nr) (id : Int) : ((gt N id).isSome && ((gt N id).getD zeroN).thr && ((gt N id).getD zeroN).rdy) = isR N id := rfl
set_option maxRecDepth 100000 in
theorem thread_walk (H : List SP) (k t m o : Nat) (s : KS) (id : Int) : ∀ w, Sat w (blk k 145 [vp t, vp m, vp o, vi s.mt, vi s.mg, vi s.nx] :: treeS t s.N :: tmS m s.tm :: obsS o s.ob :: H) → Calls Tryz.prog 178 #[vp k, vi id] w (Ret (ι := Unit) (fun _ => .tuple #[.bool (isT s.N id), .bool (isR s.N id)]) fun _ => blk k 145 [vp t, vp m, vp o, vi s.mt, vi s.mg, vi s.nx] :: treeS t s.N :: tmS m s.tm :: obsS o s.ob :: H) := by
 refine enterG (fn := Tryz.f178) 31 [vp k, vi id] Tryz.func178 (by kernel_rfl) (by kernel_rfl) (by kernel_rfl) ?_
 refine Xq (Xg 2 (Xe [(0,vp k), (1,vi id), (4,.bool false), (5,.bool false)] ?_ 2))
 refine Xq (Xg 12 (Xl [(4,.bool false), (5,.bool false), (12,vp t), (13,vi id)] [(⟨k, 0, none⟩, vp t)] (hasC (ba 0) has0) ?_ 7 5))
 refine Xs (Xa (some 14) (fun _ => .tuple #[.agg #[vi ((gt s.N id).getD zeroN).id, vi ((gt s.N id).getD zeroN).par, vi ((gt s.N id).getD zeroN).wt, vi ((gt s.N id).getD zeroN).pass, .bool ((gt s.N id).getD zeroN).thr, .bool ((gt s.N id).getD zeroN).rdy], .bool (gt s.N id).isSome]) (chg_at 1 rfl (trNode _ t s.N id))) (fun _ => ?_) 6
 cases hg : gt s.N id with
 | none =>
  refine Xr [(4,.bool false), (5,.bool false), (15,.agg #[vi zeroN.id, vi zeroN.par, vi zeroN.wt, vi zeroN.pass, .bool zeroN.thr, .bool zeroN.rdy]), (16,.bool false)] ?_ 3 3
  refine Xs (Xn 147 [vi 0, vi 0, vi 0, vi 0, .bool false, .bool false] (some 6) (fun b => vp b)) (fun b1 => ?_) 2
  refine Xs (Xz [(0,vi zeroN.id), (1,vi zeroN.par), (2,vi zeroN.wt), (3,vi zeroN.pass), (4,.bool zeroN.thr), (5,.bool zeroN.rdy)]) (fun _ => ?_) 1
  refine Xe [(6,vp b1), (4,.bool false), (5,.bool false), (7,.bool false)] ?_ 1
  refine Xq (Xy0 0 [] 16 ?_)
  refine Xt [0, 1, 2, 3, 4, 5, 6, 7, 8, 9, 10, 11, 12, 13, 14, 15] [(4,.bool false), (5,.bool false)] [] has0 ?_
  refine Xd (Xv (Y0 (.tuple #[.bool false, .bool false]) (fun w hs => ?_)))
  exact ⟨(), by simp only [isT, isR, hg]; rfl, hs.tail⟩
 | some x =>
  simp only [Option.getD_some, Option.isSome_some]
  cases ht : (x.thr) with
  | true =>
   refine Xr [(4,.bool false), (5,.bool false), (15,.agg #[vi x.id, vi x.par, vi x.wt, vi x.pass, .bool true, .bool x.rdy]), (16,.bool true)] ?_ 3 3
   refine Xs (Xn 147 [vi 0, vi 0, vi 0, vi 0, .bool false, .bool false] (some 6) (fun b => vp b)) (fun b1 => ?_) 2
   refine Xs (Xz [(0,vi x.id), (1,vi x.par), (2,vi x.wt), (3,vi x.pass), (4,.bool true), (5,.bool x.rdy)]) (fun _ => ?_) 1
   refine Xe [(6,vp b1), (4,.bool false), (5,.bool false), (7,.bool true)] ?_ 1
   refine Xq (Xy0 0 [] 16 ?_)
   refine Xt [0, 1, 2, 3, 4, 5, 6, 7, 8, 9, 10, 11, 12, 13, 14, 15] [(4,.bool true), (5,.bool x.rdy)] [(⟨b1, 4, none⟩, .bool true), (⟨b1, 4, none⟩, .bool true), (⟨b1, 5, none⟩, .bool x.rdy)] (hasC (ba 0) (hasC (ba 0) (hasC (ba 0) has0))) ?_
   refine Xd (Xv (Y0 (.tuple #[.bool true, .bool x.rdy]) (fun w hs => ?_)))
   exact ⟨(), by simp only [isT, isR, hg]; simp [ht], hs.tail⟩
  | false =>
   refine Xr [(4,.bool false), (5,.bool false), (15,.agg #[vi x.id, vi x.par, vi x.wt, vi x.pass, .bool false, .bool x.rdy]), (16,.bool true)] ?_ 3 3
   refine Xs (Xn 147 [vi 0, vi 0, vi 0, vi 0, .bool false, .bool false] (some 6) (fun b => vp b)) (fun b1 => ?_) 2
   refine Xs (Xz [(0,vi x.id), (1,vi x.par), (2,vi x.wt), (3,vi x.pass), (4,.bool false), (5,.bool x.rdy)]) (fun _ => ?_) 1
   refine Xe [(6,vp b1), (4,.bool false), (5,.bool false), (7,.bool true)] ?_ 1
   refine Xq (Xy0 0 [] 16 ?_)
   refine Xt [0, 1, 2, 3, 4, 5, 6, 7, 8, 9, 10, 11, 12, 13, 14, 15] [(4,.bool false), (5,.bool false)] [(⟨b1, 4, none⟩, .bool false), (⟨b1, 4, none⟩, .bool false)] (hasC (ba 0) (hasC (ba 0) has0)) ?_
   refine Xd (Xv (Y0 (.tuple #[.bool false, .bool false]) (fun w hs => ?_)))
   exact ⟨(), by simp only [isT, isR, hg]; simp [ht], hs.tail⟩
set_option maxRecDepth 100000 in
theorem krunnable_walk (H : List SP) (k t m o : Nat) (s : KS) : ∀ w, Sat w (blk k 145 [vp t, vp m, vp o, vi s.mt, vi s.mg, vi s.nx] :: treeS t s.N :: tmS m s.tm :: obsS o s.ob :: H) → Calls Tryz.prog 27 #[vp k] w (Ret (ι := Unit) (fun _ => .bool (krunnable s)) fun _ => blk k 145 [vp t, vp m, vp o, vi s.mt, vi s.mg, vi s.nx] :: treeS t s.N :: tmS m s.tm :: obsS o s.ob :: H) := by
 refine enterG (fn := Tryz.f27) 15 [vp k] Tryz.func27 (by kernel_rfl) (by kernel_rfl) (by kernel_rfl) ?_
 refine Xq (Xg 1 (Xe [(0,vp k), (2,.bool false)] ?_ 1))
 refine Xq (Xg 11 (Xl [(2,.bool false), (9,vp t)] [(⟨k, 0, none⟩, vp t)] (hasC (ba 0) has0) ?_ 7 4))
 refine Xs (Xa (some 10) (fun _ => .tuple #[.agg #[vi ((gt s.N 0).getD zeroN).id, vi ((gt s.N 0).getD zeroN).par, vi ((gt s.N 0).getD zeroN).wt, vi ((gt s.N 0).getD zeroN).pass, .bool ((gt s.N 0).getD zeroN).thr, .bool ((gt s.N 0).getD zeroN).rdy], .bool (gt s.N 0).isSome]) (chg_at 1 rfl (trNode _ t s.N 0))) (fun _ => ?_) 6
 refine Xr [(2,.bool false), (11,.agg #[vi (((gt s.N 0).getD zeroN).id), vi (((gt s.N 0).getD zeroN).par), vi (((gt s.N 0).getD zeroN).wt), vi (((gt s.N 0).getD zeroN).pass), .bool (((gt s.N 0).getD zeroN).thr), .bool (((gt s.N 0).getD zeroN).rdy)]), (12,.bool ((gt s.N 0).isSome))] ?_ 3 3
 refine Xs (Xn 147 [vi 0, vi 0, vi 0, vi 0, .bool false, .bool false] (some 3) (fun b => vp b)) (fun b1 => ?_) 2
 refine Xs (Xz [(0,vi (((gt s.N 0).getD zeroN).id)), (1,vi (((gt s.N 0).getD zeroN).par)), (2,vi (((gt s.N 0).getD zeroN).wt)), (3,vi (((gt s.N 0).getD zeroN).pass)), (4,.bool (((gt s.N 0).getD zeroN).thr)), (5,.bool (((gt s.N 0).getD zeroN).rdy))]) (fun _ => ?_) 1
 refine Xe [(3,vp b1), (2,.bool false)] ?_ 1
 refine Xq (Xg 3 (Xm [(2,.bool (((gt s.N 0).getD zeroN).rdy))] [(⟨b1, 5, none⟩, .bool (((gt s.N 0).getD zeroN).rdy))] (hasC (ba 0) has0) ?_ 3))
 refine Xv (Y0 (.bool (((gt s.N 0).getD zeroN).rdy)) (fun w hs => ?_))
 exact ⟨(), rfl, hs.tail⟩
set_option maxRecDepth 100000 in
theorem krun_walk (H : List SP) (k t m o : Nat) (s : KS) : ∀ w, Sat w (blk k 145 [vp t, vp m, vp o, vi s.mt, vi s.mg, vi s.nx] :: treeS t s.N :: tmS m s.tm :: obsS o s.ob :: H) → Calls Tryz.prog 33 #[vp k] w (Ret (ι := Unit) (fun _ => .tuple #[vi (krun s).1.1, .bool (krun s).1.2]) fun _ => blk k 145 [vp t, vp m, vp o, vi (krun s).2.mt, vi (krun s).2.mg, vi (krun s).2.nx] :: treeS t (krun s).2.N :: tmS m (krun s).2.tm :: obsS o (krun s).2.ob :: H) := by
 refine enterG (fn := Tryz.f33) 11 [vp k] Tryz.func33 (by kernel_rfl) (by kernel_rfl) (by kernel_rfl) ?_
 refine Xq (Xg 2 (Xe [(0,vp k), (2,vi 0), (3,.bool false)] ?_ 2))
 refine Xq (Xg 9 (Xl [(2,vi 0), (3,.bool false), (7,vp t)] [(⟨k, 0, none⟩, vp t)] (hasC (ba 0) has0) ?_ 5 4))
 refine Xs (Xa (some 8) (fun _ => .tuple #[vi (runN s.N).1.1, .bool (runN s.N).1.2]) (chg_at 1 rfl (trRun _ t s.N))) (fun _ => ?_) 4
 refine Xe [(2,vi ((runN s.N).1.1)), (3,.bool ((runN s.N).1.2))] ?_ 4
 refine Xv (Y0 (.tuple #[vi ((runN s.N).1.1), .bool ((runN s.N).1.2)]) (fun w hs => ?_))
 exact ⟨(), rfl, hs⟩
set_option maxRecDepth 100000 in
theorem ksleep_walk (H : List SP) (k t m o : Nat) (s : KS) (hk : KOk s) (id u : Int) : ∀ w, Sat w (blk k 145 [vp t, vp m, vp o, vi s.mt, vi s.mg, vi s.nx] :: treeS t s.N :: tmS m s.tm :: obsS o s.ob :: H) → Calls Tryz.prog 131 #[vp k, vi id, vi u] w (Ret (ι := Unit) (fun _ => pqErr (ksleep s id u).1) fun _ => blk k 145 [vp t, vp m, vp o, vi (ksleep s id u).2.mt, vi (ksleep s id u).2.mg, vi (ksleep s id u).2.nx] :: treeS t (ksleep s id u).2.N :: tmS m (ksleep s id u).2.tm :: obsS o (ksleep s id u).2.ob :: H) := by
 have htl := hk.tml
 refine enterG (fn := Tryz.f131) 31 [vp k, vi id, vi u] Tryz.func131 (by kernel_rfl) (by kernel_rfl) (by kernel_rfl) ?_
 refine Xq (Xg 1 (Xe [(0,vp k), (1,vi id), (2,vi u), (6,.nilIface)] ?_ 1))
 refine Xq (Xq (Xg 8 (Xr [(0,vp k), (1,vi id), (2,vi u), (6,.nilIface), (10,vp k), (11,vi id)] ?_ 6 2)))
 refine Xs (Xa (some 12) (fun _ => .tuple #[.bool (isT s.N id), .bool (isR s.N id)]) (thread_walk _ k t m o s id)) (fun _ => ?_) 5
 cases hr : (isR s.N id) with
 | true =>
  have e : ksleep s id u = ((readyN s.N id false).1, { s with N := (readyN s.N id false).2, tm := tmSet id u s.tm }) := by rw [ksleep, if_neg (by rw [hr]; simp)]
  refine Xe [(0,vp k), (1,vi id), (2,vi u), (6,.nilIface), (8,.bool true)] ?_ 5
  refine Xq (Xg 2 (Xe [(0,vp k), (1,vi id), (2,vi u), (6,.nilIface), (16,.bool false)] ?_ 2))
  refine Xc false (fun h => by cases h) (fun _ => ?_)
  refine Xk (Xq (Xg 7 (Xl [(0,vp k), (1,vi id), (6,.nilIface), (21,vp m), (22,vi id), (23,vi u)] [(⟨k, 1, none⟩, vp m)] (hasC (ba 0) has0) ?_ 1 6)))
  refine Xs (Xa (some 24) (fun _ => .tuple #[]) (chg_at 2 rfl (tmgSet _ m s.tm id u (by omega)))) (fun _ => ?_) 0
  refine endR ?_
  refine Xq (Xg 7 (Xl [(6,.nilIface), (28,vp t), (29,vi id)] [(⟨k, 0, none⟩, vp t)] (hasC (ba 0) has0) ?_ 2 5))
  refine Xs (Xa (some 30) (fun _ => pqErr (readyN s.N id false).1) (chg_at 1 rfl (trReady _ t s.N id false))) (fun _ => ?_) 1
  refine Xe [(6,pqErr (readyN s.N id false).1)] ?_ 1
  refine Xv (Y0 (pqErr (readyN s.N id false).1) (fun w hs => ?_))
  rw [e]; exact ⟨(), rfl, hs⟩
 | false =>
  have e : ksleep s id u = (13, s) := by rw [ksleep, if_pos hr]
  refine Xe [(0,vp k), (1,vi id), (2,vi u), (6,.nilIface), (8,.bool false)] ?_ 5
  refine Xq (Xg 2 (Xe [(0,vp k), (1,vi id), (2,vi u), (6,.nilIface), (16,.bool true)] ?_ 2))
  refine Xc true (fun _ => ?_) (fun h => by cases h)
  refine Xq (Xg 2 (Xe [(0,vp k), (1,vi id), (2,vi u), (6,.iface 126 (vi 13))] ?_ 2))
  refine Xv (thenV (Y0 (.iface 126 (vi 13)) (fun w hs => ?_)))
  rw [e]; exact ⟨(), rfl, hs⟩
set_option maxRecDepth 100000 in
theorem kexit_walk (H : List SP) (k t m o : Nat) (s : KS) (hk : KOk s) (id : Int) : ∀ w, Sat w (blk k 145 [vp t, vp m, vp o, vi s.mt, vi s.mg, vi s.nx] :: treeS t s.N :: tmS m s.tm :: obsS o s.ob :: H) → Calls Tryz.prog 130 #[vp k, vi id] w (Ret (ι := Unit) (fun _ => pqErr (kexit s id).1) fun _ => blk k 145 [vp t, vp m, vp o, vi (kexit s id).2.mt, vi (kexit s id).2.mg, vi (kexit s id).2.nx] :: treeS t (kexit s id).2.N :: tmS m (kexit s id).2.tm :: obsS o (kexit s id).2.ob :: H) := by
 have htl := hk.tml
 refine enterG (fn := Tryz.f130) 34 [vp k, vi id] Tryz.func130 (by kernel_rfl) (by kernel_rfl) (by kernel_rfl) ?_
 refine Xq (Xg 1 (Xe [(0,vp k), (1,vi id), (4,.nilIface)] ?_ 1))
 refine Xq (Xq (Xg 8 (Xr [(0,vp k), (1,vi id), (4,.nilIface), (8,vp k), (9,vi id)] ?_ 6 2)))
 refine Xs (Xa (some 10) (fun _ => .tuple #[.bool (isT s.N id), .bool (isR s.N id)]) (thread_walk _ k t m o s id)) (fun _ => ?_) 5
 cases hr : (isT s.N id) with
 | true =>
  have e : kexit s id = ((removeN s.N id).1, { s with N := (removeN s.N id).2, tm := tmDrop id s.tm, ob := obCut s.ob id }) := by rw [kexit, if_neg (by rw [hr]; simp)]
  refine Xe [(0,vp k), (1,vi id), (4,.nilIface), (5,.bool true)] ?_ 5
  refine Xq (Xg 2 (Xe [(0,vp k), (1,vi id), (4,.nilIface), (14,.bool false)] ?_ 2))
  refine Xc false (fun h => by cases h) (fun _ => ?_)
  refine Xk (Xq (Xg 6 (Xl [(0,vp k), (1,vi id), (4,.nilIface), (19,vp m), (20,vi id)] [(⟨k, 1, none⟩, vp m)] (hasC (ba 0) has0) ?_ 1 5)))
  refine Xs (Xa (some 21) (fun _ => .bool (tmPlace id s.tm).2) (chg_at 2 rfl (tmgDrop _ m s.tm id (by omega)))) (fun _ => ?_) 0
  refine endR ?_
  refine Xq (Xg 6 (Xl [(0,vp k), (1,vi id), (4,.nilIface), (25,vp o), (26,vi id)] [(⟨k, 2, none⟩, vp o)] (hasC (ba 0) has0) ?_ 1 5))
  refine Xs (Xa (some 27) (fun _ => .bool (obHas s.ob id)) (chg_at 3 rfl (obgDrop _ o s.ob hk.obb hk.obd id))) (fun _ => ?_) 0
  refine endR ?_
  refine Xq (Xg 7 (Xl [(4,.nilIface), (31,vp t), (32,vi id)] [(⟨k, 0, none⟩, vp t)] (hasC (ba 0) has0) ?_ 2 5))
  refine Xs (Xa (some 33) (fun _ => pqErr (removeN s.N id).1) (chg_at 1 rfl (trRemove _ t s.N id))) (fun _ => ?_) 1
  refine Xe [(4,pqErr (removeN s.N id).1)] ?_ 1
  refine Xv (Y0 (pqErr (removeN s.N id).1) (fun w hs => ?_))
  rw [e]; exact ⟨(), rfl, hs⟩
 | false =>
  have e : kexit s id = (13, s) := by rw [kexit, if_pos hr]
  refine Xe [(0,vp k), (1,vi id), (4,.nilIface), (5,.bool false)] ?_ 5
  refine Xq (Xg 2 (Xe [(0,vp k), (1,vi id), (4,.nilIface), (14,.bool true)] ?_ 2))
  refine Xc true (fun _ => ?_) (fun h => by cases h)
  refine Xq (Xg 2 (Xe [(0,vp k), (1,vi id), (4,.iface 126 (vi 13))] ?_ 2))
  refine Xv (thenV (Y0 (.iface 126 (vi 13)) (fun w hs => ?_)))
  rw [e]; exact ⟨(), rfl, hs⟩
end Go.Proofs.YtfhkgohokbkgiaaGreatDoor
set_option linter.unusedVariables false
set_option linter.unusedSimpArgs false
namespace Go.Proofs.YtfhkgohokbkgiaaGreatDoor
open Go.RowKit G
theorem pqErr_0 {e : Int} (h : e = 0) : pqErr e = .nilIface := by rw [pqErr, if_pos h]
theorem pqErr_n {e : Int} (h : ¬ e = 0) : pqErr e = .iface 126 (.int .i64 e) := by rw [pqErr, if_neg h]
set_option maxRecDepth 100000 in
theorem kwait_walk (H : List SP) (k t m o : Nat) (s : KS) (hk : KOk s) (id j : Int) : ∀ w, Sat w (blk k 145 [vp t, vp m, vp o, vi s.mt, vi s.mg, vi s.nx] :: treeS t s.N :: tmS m s.tm :: obsS o s.ob :: H) → Calls Tryz.prog 132 #[vp k, vi id, vi j] w (Ret (ι := Unit) (fun _ => .tuple #[.bool (kwait s id j).1.1, pqErr (kwait s id j).1.2]) fun _ => blk k 145 [vp t, vp m, vp o, vi (kwait s id j).2.mt, vi (kwait s id j).2.mg, vi (kwait s id j).2.nx] :: treeS t (kwait s id j).2.N :: tmS m (kwait s id j).2.tm :: obsS o (kwait s id j).2.ob :: H) := by
 refine enterG (fn := Tryz.f132) 44 [vp k, vi id, vi j] Tryz.func132 (by kernel_rfl) (by kernel_rfl) (by kernel_rfl) ?_
 refine Xq (Xg 2 (Xe [(0,vp k), (1,vi id), (2,vi j), (6,.bool false), (7,.nilIface)] ?_ 2))
 refine Xq (Xq (Xg 8 (Xr [(0,vp k), (1,vi id), (2,vi j), (6,.bool false), (7,.nilIface), (13,vp k), (14,vi id)] ?_ 6 2)))
 refine Xs (Xa (some 15) (fun _ => .tuple #[.bool (isT s.N id), .bool (isR s.N id)]) (thread_walk _ k t m o s id)) (fun _ => ?_) 5
 cases hr : (isR s.N id) with
 | true =>
  refine Xe [(0,vp k), (1,vi id), (2,vi j), (6,.bool false), (7,.nilIface), (9,.bool true)] ?_ 5
  refine Xq (Xg 2 (Xe [(0,vp k), (1,vi id), (2,vi j), (6,.bool false), (7,.nilIface), (19,.bool false)] ?_ 2))
  refine Xc false (fun h => by cases h) (fun _ => ?_)
  refine Xk (Xq (Xg 12 (Xl [(0,vp k), (1,vi id), (6,.bool false), (7,.nilIface), (25,vp o), (26,vi id), (27,vi j)] [(⟨k, 2, none⟩, vp o)] (hasC (ba 0) has0) ?_ 6 6)))
  refine Xs (Xa (some 28) (fun _ => .tuple #[.bool (obWait s.ob id j).1.1, pqErr (obWait s.ob id j).1.2]) (chg_at 3 rfl (obgWait _ o s.ob hk.obb id j))) (fun _ => ?_) 5
  rcases Decidable.em ((obWait s.ob id j).1.2 = 0) with h2 | h2
  ·rw [pqErr_0 h2]
   cases h3 : ((obWait s.ob id j).1.1) with
   | true =>
    have e : kwait s id j = ((obWait s.ob id j).1, { s with ob := (obWait s.ob id j).2 }) := by rw [kwait, if_neg (by rw [hr]; simp), if_pos (.inr h3)]
    refine Xe [(0,vp k), (1,vi id), (6,.bool false), (7,.nilIface), (10,.bool true), (11,.nilIface)] ?_ 5
    refine Xq (Xq (Xg 5 (Xe [(0,vp k), (1,vi id), (6,.bool false), (7,.nilIface), (10,.bool true), (11,.nilIface), (35,.bool true)] ?_ 5)))
    refine Xc true (fun _ => ?_) (fun h => by cases h)
    refine Xq (Xg 4 (Xe [(0,vp k), (1,vi id), (6,.bool true), (7,.nilIface)] ?_ 4))
    refine Xv (thenV (Y0 (.tuple #[.bool true, .nilIface]) (fun w hs => ?_)))
    rw [e]; exact ⟨(), by simp only; rw [h3, pqErr_0 h2], hs⟩
   | false =>
    have e : kwait s id j = ((false, (readyN s.N id false).1), { s with N := (readyN s.N id false).2, ob := (obWait s.ob id j).2 }) := by rw [kwait, if_neg (by rw [hr]; simp), if_neg (by rw [h2, h3]; simp)]
    refine Xe [(0,vp k), (1,vi id), (6,.bool false), (7,.nilIface), (10,.bool false), (11,.nilIface)] ?_ 5
    refine Xq (Xq (Xg 5 (Xe [(0,vp k), (1,vi id), (6,.bool false), (7,.nilIface), (10,.bool false), (11,.nilIface), (35,.bool false)] ?_ 5)))
    refine Xc false (fun h => by cases h) (fun _ => ?_)
    refine Xk (Xq (Xg 8 (Xl [(6,.bool false), (7,.nilIface), (41,vp t), (42,vi id)] [(⟨k, 0, none⟩, vp t)] (hasC (ba 0) has0) ?_ 3 5)))
    refine Xs (Xa (some 43) (fun _ => pqErr (readyN s.N id false).1) (chg_at 1 rfl (trReady _ t s.N id false))) (fun _ => ?_) 2
    refine Xe [(6,.bool false), (7,pqErr (readyN s.N id false).1)] ?_ 2
    refine Xv (Y0 (.tuple #[.bool false, pqErr (readyN s.N id false).1]) (fun w hs => ?_))
    rw [e]; exact ⟨(), rfl, hs⟩
  ·rw [pqErr_n h2]
   have e : kwait s id j = ((obWait s.ob id j).1, { s with ob := (obWait s.ob id j).2 }) := by rw [kwait, if_neg (by rw [hr]; simp), if_pos (.inl h2)]
   refine Xe [(0,vp k), (1,vi id), (6,.bool false), (7,.nilIface), (10,.bool ((obWait s.ob id j).1.1)), (11,.iface 126 (vi ((obWait s.ob id j).1.2)))] ?_ 5
   refine Xq (Xq (Xg 5 (Xe [(0,vp k), (1,vi id), (6,.bool false), (7,.nilIface), (10,.bool ((obWait s.ob id j).1.1)), (11,.iface 126 (vi ((obWait s.ob id j).1.2))), (35,.bool true)] ?_ 5)))
   refine Xc true (fun _ => ?_) (fun h => by cases h)
   refine Xq (Xg 4 (Xe [(0,vp k), (1,vi id), (6,.bool ((obWait s.ob id j).1.1)), (7,.iface 126 (vi ((obWait s.ob id j).1.2)))] ?_ 4))
   refine Xv (thenV (Y0 (.tuple #[.bool ((obWait s.ob id j).1.1), .iface 126 (vi ((obWait s.ob id j).1.2))]) (fun w hs => ?_)))
   rw [e]; exact ⟨(), by simp only; rw [pqErr_n h2], hs⟩
 | false =>
  have e : kwait s id j = ((false, 13), s) := by rw [kwait, if_pos hr]
  refine Xe [(0,vp k), (1,vi id), (2,vi j), (6,.bool false), (7,.nilIface), (9,.bool false)] ?_ 5
  refine Xq (Xg 2 (Xe [(0,vp k), (1,vi id), (2,vi j), (6,.bool false), (7,.nilIface), (19,.bool true)] ?_ 2))
  refine Xc true (fun _ => ?_) (fun h => by cases h)
  refine Xq (Xg 3 (Xe [(0,vp k), (1,vi id), (2,vi j), (6,.bool false), (7,.iface 126 (vi 13))] ?_ 3))
  refine Xv (thenV (Y0 (.tuple #[.bool false, .iface 126 (vi 13)]) (fun w hs => ?_)))
  rw [e]; exact ⟨(), rfl, hs⟩
set_option maxRecDepth 100000 in
theorem ksignal_walk (H : List SP) (k t m o : Nat) (s : KS) (hk : KOk s) (j : Int) : ∀ w, Sat w (blk k 145 [vp t, vp m, vp o, vi s.mt, vi s.mg, vi s.nx] :: treeS t s.N :: tmS m s.tm :: obsS o s.ob :: H) → Calls Tryz.prog 133 #[vp k, vi j] w (Ret (ι := Unit) (fun _ => pqErr (ksignal s j).1) fun _ => blk k 145 [vp t, vp m, vp o, vi (ksignal s j).2.mt, vi (ksignal s j).2.mg, vi (ksignal s j).2.nx] :: treeS t (ksignal s j).2.N :: tmS m (ksignal s j).2.tm :: obsS o (ksignal s j).2.ob :: H) := by
 refine enterG (fn := Tryz.f133) 31 [vp k, vi j] Tryz.func133 (by kernel_rfl) (by kernel_rfl) (by kernel_rfl) ?_
 refine Xq (Xg 1 (Xe [(0,vp k), (1,vi j), (4,.nilIface)] ?_ 1))
 refine Xq (Xg 13 (Xl [(0,vp k), (4,.nilIface), (12,vp o), (13,vi j)] [(⟨k, 2, none⟩, vp o)] (hasC (ba 0) has0) ?_ 8 5))
 refine Xs (Xa (some 14) (fun _ => .tuple #[vi (obSig s.ob j).1.1, .bool (obSig s.ob j).1.2.1, pqErr (obSig s.ob j).1.2.2]) (chg_at 3 rfl (obgSig _ o s.ob hk.obb j))) (fun _ => ?_) 7
 rcases Decidable.em ((obSig s.ob j).1.2.2 = 0) with h2 | h2
 ·rw [pqErr_0 h2]
  cases h3 : ((obSig s.ob j).1.2.1) with
  | true =>
   have e : ksignal s j = ((readyN s.N (obSig s.ob j).1.1 true).1, { s with N := (readyN s.N (obSig s.ob j).1.1 true).2, ob := (obSig s.ob j).2 }) := by rw [ksignal, if_neg (by rw [h2, h3]; simp)]
   refine Xe [(0,vp k), (4,.nilIface), (5,vi ((obSig s.ob j).1.1)), (6,.bool true), (7,.nilIface)] ?_ 7
   refine Xq (Xq (Xg 6 (Xe [(0,vp k), (4,.nilIface), (5,vi ((obSig s.ob j).1.1)), (7,.nilIface), (23,.bool false)] ?_ 6)))
   refine Xc false (fun h => by cases h) (fun _ => ?_)
   refine Xk (Xq (Xg 7 (Xl [(4,.nilIface), (28,vp t), (29,vi ((obSig s.ob j).1.1))] [(⟨k, 0, none⟩, vp t)] (hasC (ba 0) has0) ?_ 2 5)))
   refine Xs (Xa (some 30) (fun _ => pqErr (readyN s.N (obSig s.ob j).1.1 true).1) (chg_at 1 rfl (trReady _ t s.N (obSig s.ob j).1.1 true))) (fun _ => ?_) 1
   refine Xe [(4,pqErr (readyN s.N (obSig s.ob j).1.1 true).1)] ?_ 1
   refine Xv (Y0 (pqErr (readyN s.N (obSig s.ob j).1.1 true).1) (fun w hs => ?_))
   rw [e]; exact ⟨(), rfl, hs⟩
  | false =>
   have e : ksignal s j = ((obSig s.ob j).1.2.2, { s with ob := (obSig s.ob j).2 }) := by rw [ksignal, if_pos (.inr h3)]
   refine Xe [(0,vp k), (4,.nilIface), (5,vi ((obSig s.ob j).1.1)), (6,.bool false), (7,.nilIface)] ?_ 7
   refine Xq (Xq (Xg 6 (Xe [(0,vp k), (4,.nilIface), (5,vi ((obSig s.ob j).1.1)), (7,.nilIface), (23,.bool true)] ?_ 6)))
   refine Xc true (fun _ => ?_) (fun h => by cases h)
   refine Xq (Xg 2 (Xe [(0,vp k), (4,.nilIface), (5,vi ((obSig s.ob j).1.1))] ?_ 2))
   refine Xv (thenV (Y0 (.nilIface) (fun w hs => ?_)))
   rw [e]; exact ⟨(), by simp only; rw [pqErr_0 h2], hs⟩
 ·rw [pqErr_n h2]
  have e : ksignal s j = ((obSig s.ob j).1.2.2, { s with ob := (obSig s.ob j).2 }) := by rw [ksignal, if_pos (.inl h2)]
  refine Xe [(0,vp k), (4,.nilIface), (5,vi ((obSig s.ob j).1.1)), (6,.bool ((obSig s.ob j).1.2.1)), (7,.iface 126 (vi ((obSig s.ob j).1.2.2)))] ?_ 7
  refine Xq (Xq (Xg 6 (Xe [(0,vp k), (4,.nilIface), (5,vi ((obSig s.ob j).1.1)), (7,.iface 126 (vi ((obSig s.ob j).1.2.2))), (23,.bool true)] ?_ 6)))
  refine Xc true (fun _ => ?_) (fun h => by cases h)
  refine Xq (Xg 2 (Xe [(0,vp k), (4,.iface 126 (vi ((obSig s.ob j).1.2.2))), (5,vi ((obSig s.ob j).1.1))] ?_ 2))
  refine Xv (thenV (Y0 (.iface 126 (vi ((obSig s.ob j).1.2.2))) (fun w hs => ?_)))
  rw [e]; exact ⟨(), by simp only; rw [pqErr_n h2], hs⟩
set_option maxRecDepth 100000 in
theorem knodes_walk (H : List SP) (k t m o : Nat) (s : KS) (hid : ∀ x ∈ s.N, x.id ≤ 9223372036854775807) : ∀ w, Sat w (blk k 145 [vp t, vp m, vp o, vi s.mt, vi s.mg, vi s.nx] :: treeS t s.N :: tmS m s.tm :: obsS o s.ob :: H) → Calls Tryz.prog 26 #[vp k] w (Ret (ι := Option Addr × Nat) (fun x => .slice x.1 (nodesN s.N).length x.2) fun x => row nE 147 (.slice x.1 (nodesN s.N).length x.2) (nodesN s.N) :: blk k 145 [vp t, vp m, vp o, vi s.mt, vi s.mg, vi s.nx] :: treeS t s.N :: tmS m s.tm :: obsS o s.ob :: H) := by
 refine enterG (fn := Tryz.f26) 8 [vp k] Tryz.func26 (by kernel_rfl) (by kernel_rfl) (by kernel_rfl) ?_
 refine Xq (Xg 1 (Xe [(0,vp k), (2,.slice none 0 0)] ?_ 1))
 refine Xq (Xg 6 (Xl [(2,.slice none 0 0), (6,vp t)] [(⟨k, 0, none⟩, vp t)] (hasC (ba 0) has0) ?_ 2 4))
 refine Xh0 ?_ 0 2
 refine Xh0 ?_ 1 2
 refine Xs (Xa (some 7) (fun (x : Option Addr × Nat) => .slice x.1 (nodesN s.N).length x.2) (trNodes _ t s.N hid)) (fun (x : Option Addr × Nat) => ?_) 1
 refine Xe [(2,.slice x.1 ((nodesN s.N).length) x.2)] ?_ 1
 refine Xv ?_
 refine PT.pick 1 rfl ?_
 refine PT.pick 2 rfl ?_
 refine PT.pick 2 rfl ?_
 refine Y0 (.slice x.1 ((nodesN s.N).length) x.2) (fun w hs => ?_)
 exact ⟨x, rfl, hs⟩
end Go.Proofs.YtfhkgohokbkgiaaGreatDoor
set_option linter.unusedVariables false
set_option linter.unusedSimpArgs false
namespace Go.Proofs.YtfhkgohokbkgiaaGreatDoor
open Go.RowKit G
theorem nodesN_perm {N : List Nr} (hn : (N.map (·.id)).Nodup) : (nodesN N).Perm N := by
 have h1 : (sortI (N.map (·.id))).Perm (N.map (·.id)) := List.mergeSort_perm _ _
 have h2 : (N.map (·.id)).map (fun k => (gt N k).getD zeroN) = N := by
  rw [List.map_map]
  refine (List.map_congr_left (g := fun x => x) fun x hx => ?_).trans (List.map_id' N)
  show (gt N x.id).getD zeroN = x
  rw [gt_of hn hx]; rfl
 have h3 := h1.map (fun k => (gt N k).getD zeroN)
 rw [h2] at h3
 exact h3
def cntP (thr : Bool) (x : Nr) : Bool := x.thr == thr && !(x.id == 0)
theorem kcnt_nodes {N : List Nr} (hn : (N.map (·.id)).Nodup) (thr : Bool) : (((nodesN N).filter (cntP thr)).length : Int) = kcnt N thr := by
 rw [((nodesN_perm hn).filter (cntP thr)).length_eq]; rfl
theorem cnt_take {M : List Nr} {u : Nat} {x : Nr} (h : M[u]? = some x) (p : Nr → Bool) : ((M.take (u + 1)).filter p).length = ((M.take u).filter p).length + if p x = true then 1 else 0 := by
 rw [List.take_add_one, h, List.filter_append, List.length_append]
 cases c : p x <;> simp [c]
set_option maxHeartbeats 1000000 in
set_option maxRecDepth 100000 in
theorem kcount_walk (H : List SP) (k t m o : Nat) (s : KS) (hk : KOk s) (hid : s.nx ≤ 1099511627776) (thr : Bool) : ∀ w, Sat w (blk k 145 [vp t, vp m, vp o, vi s.mt, vi s.mg, vi s.nx] :: treeS t s.N :: tmS m s.tm :: obsS o s.ob :: H) → Calls Tryz.prog 172 #[vp k, .bool thr] w (Ret (ι := Unit) (fun _ => vi (kcnt s.N thr)) fun _ => blk k 145 [vp t, vp m, vp o, vi s.mt, vi s.mg, vi s.nx] :: treeS t s.N :: tmS m s.tm :: obsS o s.ob :: H) := by
 have hids : ∀ x ∈ s.N, x.id ≤ 9223372036854775807 := fun x hx => by have := hk.ids x hx; omega
 obtain ⟨M, hM⟩ : ∃ M, nodesN s.N = M := ⟨_, rfl⟩
 have hMl : 1 ≤ M.length ∧ M.length ≤ 60 := by
  rw [← hM, nodesN_len]
  obtain ⟨r, hr, _⟩ := hk.wf.sk.root
  exact ⟨List.length_pos_of_mem hr, hk.wf.sk.len⟩
 refine enterG (fn := Tryz.f172) 31 [vp k, .bool thr] Tryz.func172 (by kernel_rfl) (by kernel_rfl) (by kernel_rfl) ?_
 refine Xq (Xg 1 (Xe [(0,vp k), (1,.bool thr), (4,vi 0)] ?_ 1))
 refine Xq (Xg 1 (Xe [(0,vp k), (1,.bool thr), (4,vi 0), (5,vi 0)] ?_ 1))
 refine Xq (Xq (Xg 7 (Xl [(1,.bool thr), (4,vi 0), (5,vi 0), (11,vp t)] [(⟨k, 0, none⟩, vp t)] (hasC (ba 0) has0) ?_ 3 4)))
 refine Xh0 ?_ 0 3
 refine Xh0 ?_ 1 3
 refine Xs (Xa (some 12) (fun (na : Option Addr × Nat) => .slice na.1 M.length na.2) ((hM ▸ trNodes _ t s.N hids))) (fun (na : Option Addr × Nat) => ?_) 2
 refine PT.know (KR.isSome (s := ⟨na.1, na.2, M⟩) (rowKRat 0 rfl) (List.ne_nil_of_length_pos (by show 0 < M.length; omega))) ?_
 rintro ⟨nb, no, hnA⟩
 dsimp only at hnA
 rw [hnA]
 refine Xe [(12,.slice (some ⟨nb, no, none⟩) M.length na.2), (1,.bool thr), (4,vi 0), (5,vi 0), (13,vi (M.length : Int)), (14,vi 0)] ?_ 2
 refine Xb 0 (Xp [(1,.bool thr), (4,vi 0), (5,vi 0), (12,.slice (some ⟨nb, no, none⟩) M.length na.2), (13,vi (M.length : Int)), (14,vi 0)] (Xl0 (fun (q : Nat × Nat) => [(1,.bool thr), (4,vi 0), (5,vi (q.2 : Int)), (12,.slice (some ⟨nb, no, none⟩) M.length na.2), (13,vi (M.length : Int)), (14,vi (q.1 : Int))]) (fun k (q : Nat × Nat) => k + q.1 = M.length ∧ q.2 = ((M.take q.1).filter (cntP thr)).length) M.length (0,0) (by kernel_rfl) ⟨by simp, by simp⟩ ?_))
 rintro k1 ⟨i, n⟩ ⟨hki, hn⟩
 simp only at hki hn
 refine Xq (Xg 1 (Xe [(1,.bool thr), (4,vi 0), (5,vi n), (12,.slice (some ⟨nb, no, none⟩) M.length na.2), (13,vi (M.length : Int)), (14,vi i), (15,.bool (decide ((i : Int) < (M.length : Int))))] ?_ 1))
 refine Xq (Xc (decide ((i : Int) < (M.length : Int))) (fun h2 => ?_) (fun h2 => ?_))
 ·skip
  have hi : i < M.length := by have := of_decide_eq_true h2; omega
  obtain ⟨x, hx⟩ : ∃ x, M[i]? = some x := ⟨_, List.getElem?_eq_getElem hi⟩
  have hst := cnt_take hx (cntP thr)
  have hnl : ((M.take i).filter (cntP thr)).length ≤ i := Nat.le_trans (List.length_filter_le _ _) (by simp; omega)
  refine Xk (Xq (Xb 1 (Xq (Xg 4 (Xs (yldS (Xi 63 (.tmp 12) (.tmp 14) nb no M.length na.2 i 6 147 (i : Int) 16 Tryz.underlying63)) (fun _ => ?_) 3)))))
  refine Xl [(1,.bool thr), (4,vi 0), (5,vi n), (12,.slice (some ⟨nb, no, none⟩) M.length na.2), (13,vi (M.length : Int)), (14,vi i), (17,.agg #[vi x.id, vi x.par, vi x.wt, vi x.pass, .bool x.thr, .bool x.rdy])] [(⟨nb, no + i * 6, none⟩, vi x.id), (⟨nb, no + i * 6 + 1, none⟩, vi x.par), (⟨nb, no + i * 6 + 2, none⟩, vi x.wt), (⟨nb, no + i * 6 + 3, none⟩, vi x.pass), (⟨nb, no + i * 6 + 4, none⟩, .bool x.thr), (⟨nb, no + i * 6 + 5, none⟩, .bool x.rdy)] (hasC (rowCell (E := nE) (xs := M) 0 rfl (x := x) hx (j := 0) rfl) (hasC (rowCell (E := nE) (xs := M) 0 rfl (x := x) hx (j := 1) rfl) (hasC (rowCell (E := nE) (xs := M) 0 rfl (x := x) hx (j := 2) rfl) (hasC (rowCell (E := nE) (xs := M) 0 rfl (x := x) hx (j := 3) rfl) (hasC (rowCell (E := nE) (xs := M) 0 rfl (x := x) hx (j := 4) rfl) (hasC (rowCell (E := nE) (xs := M) 0 rfl (x := x) hx (j := 5) rfl) has0)))))) ?_ 2 1
  refine Xs (Xn 147 [vi 0, vi 0, vi 0, vi 0, .bool false, .bool false] (some 7) (fun b => vp b)) (fun b1 => ?_) 1
  refine Xs (Xz [(0,vi x.id), (1,vi x.par), (2,vi x.wt), (3,vi x.pass), (4,.bool x.thr), (5,.bool x.rdy)]) (fun _ => ?_) 0
  refine endR ?_
  refine Xq (Xg 9 (Xl [(7,vp b1), (1,.bool thr), (4,vi 0), (5,vi n), (12,.slice (some ⟨nb, no, none⟩) M.length na.2), (13,vi (M.length : Int)), (14,vi i), (22,.bool (x.thr == thr))] [(⟨b1, 4, none⟩, .bool x.thr)] (hasC (ba 0) has0) ?_ 4 5))
  refine (Xs0 0 4 [(1,.bool thr), (4,vi 0), (5,vi n), (12,.slice (some ⟨nb, no, none⟩) M.length na.2), (13,vi (M.length : Int)), (14,vi i), (26,.bool ((x.thr == thr) && (x.id != 0)))] ?_ ?_ : RT _ _ _ _ _ _ 4 _)
  ·cases hg5 : (x.thr == thr) with
   | true =>
    refine Xm [(1,.bool thr), (4,vi 0), (5,vi n), (12,.slice (some ⟨nb, no, none⟩) M.length na.2), (13,vi (M.length : Int)), (14,vi i), (26,.bool (x.id != 0))] [(⟨b1, 0, none⟩, vi x.id)] (hasC (ba 0) has0) ?_ 4
    refine Xp [(1,.bool thr), (4,vi 0), (5,vi n), (12,.slice (some ⟨nb, no, none⟩) M.length na.2), (13,vi (M.length : Int)), (14,vi i), (26,.bool (true && (x.id != 0)))] ?_
    exact midR () rfl rfl
   | false =>
    refine Xe [(1,.bool thr), (4,vi 0), (5,vi n), (12,.slice (some ⟨nb, no, none⟩) M.length na.2), (13,vi (M.length : Int)), (14,vi i), (26,.bool false)] ?_ 4
    refine Xp [(1,.bool thr), (4,vi 0), (5,vi n), (12,.slice (some ⟨nb, no, none⟩) M.length na.2), (13,vi (M.length : Int)), (14,vi i), (26,.bool (false && (x.id != 0)))] ?_
    exact midR () rfl rfl
  refine endR ?_
  refine Xc ((x.thr == thr) && (x.id != 0)) (fun h3 => ?_) (fun h3 => ?_)
  ·skip
   have h4 : cntP thr x = true := h3
   rw [if_pos h4] at hst
   refine Xg 3 (Xe [(1,.bool thr), (4,vi 0), (5,vi (IntKind.i64.wrap ((n : Int) + 1))), (12,.slice (some ⟨nb, no, none⟩) M.length na.2), (13,vi (M.length : Int)), (14,vi i)] ?_ 3)
   refine Xg 2 (Xe [(1,.bool thr), (4,vi 0), (5,vi (IntKind.i64.wrap ((n : Int) + 1))), (12,.slice (some ⟨nb, no, none⟩) M.length na.2), (13,vi (M.length : Int)), (14,vi (IntKind.i64.wrap ((i : Int) + 1)))] ?_ 2)
   rw [show IntKind.i64.wrap ((n : Int) + 1) = ((n : Int) + 1) by rw [w64 (by omega) (by omega)]]
   rw [show IntKind.i64.wrap ((i : Int) + 1) = ((i : Int) + 1) by rw [w64 (by omega) (by omega)]]
   refine PT.drop ?_
   refine Xp [(1,.bool thr), (4,vi 0), (5,vi ((n : Int) + 1)), (12,.slice (some ⟨nb, no, none⟩) M.length na.2), (13,vi (M.length : Int)), (14,vi ((i : Int) + 1))] ?_
   exact againG (k1 - 1) (i + 1, n + 1) rfl rfl (by omega) ⟨by simp only; omega, by simp only; omega⟩
  ·skip
   have h4 : ¬ cntP thr x = true := by rw [show cntP thr x = false from h3]; simp
   rw [if_neg h4] at hst
   refine Xk (Xg 2 (Xe [(1,.bool thr), (4,vi 0), (5,vi n), (12,.slice (some ⟨nb, no, none⟩) M.length na.2), (13,vi (M.length : Int)), (14,vi (IntKind.i64.wrap ((i : Int) + 1)))] ?_ 2))
   rw [show IntKind.i64.wrap ((i : Int) + 1) = ((i : Int) + 1) by rw [w64 (by omega) (by omega)]]
   refine PT.drop ?_
   refine Xp [(1,.bool thr), (4,vi 0), (5,vi n), (12,.slice (some ⟨nb, no, none⟩) M.length na.2), (13,vi (M.length : Int)), (14,vi ((i : Int) + 1))] ?_
   exact againG (k1 - 1) (i + 1, n) rfl rfl (by omega) ⟨by simp only; omega, by simp only; omega⟩
 ·skip
  have hi : i = M.length := by have := of_decide_eq_false h2; omega
  refine Xx 0 (thenX (thenX (leaveR (Xq (Xg 2 (Xe [(4,vi n)] ?_ 2))))))
  refine Xv (Y0 (vi n) (fun w hs => ?_))
  rw [hn, hi, List.take_length, ← hM, kcnt_nodes hk.wf.sk.nd]; exact ⟨(), rfl, SatF.swap hs.tail⟩
set_option maxHeartbeats 1000000 in
set_option maxRecDepth 100000 in
theorem kadds_walk (H : List SP) (k t m o : Nat) (s : KS) (hk : KOk s) (hid : s.nx ≤ 1099511627776) (par wt most : Int) (thr : Bool) : ∀ w, Sat w (blk k 145 [vp t, vp m, vp o, vi s.mt, vi s.mg, vi s.nx] :: treeS t s.N :: tmS m s.tm :: obsS o s.ob :: H) → Calls Tryz.prog 117 #[vp k, vi par, vi wt, vi most, .bool thr] w (Ret (ι := Unit) (fun _ => .tuple #[vi (kadds s par wt most thr).1.1, pqErr (kadds s par wt most thr).1.2]) fun _ => blk k 145 [vp t, vp m, vp o, vi (kadds s par wt most thr).2.mt, vi (kadds s par wt most thr).2.mg, vi (kadds s par wt most thr).2.nx] :: treeS t (kadds s par wt most thr).2.N :: tmS m (kadds s par wt most thr).2.tm :: obsS o (kadds s par wt most thr).2.ob :: H) := by
 have hnx := hk.nx
 refine enterG (fn := Tryz.f117) 71 [vp k, vi par, vi wt, vi most, .bool thr] Tryz.func117 (by kernel_rfl) (by kernel_rfl) (by kernel_rfl) ?_
 refine Xq (Xg 2 (Xe [(0,vp k), (1,vi par), (2,vi wt), (3,vi most), (4,.bool thr), (10,vi 0), (11,.nilIface)] ?_ 2))
 refine Xq (Xg 12 (Xl [(0,vp k), (1,vi par), (2,vi wt), (3,vi most), (4,.bool thr), (10,vi 0), (11,.nilIface), (19,vp t), (20,vi par)] [(⟨k, 0, none⟩, vp t)] (hasC (ba 0) has0) ?_ 7 5))
 refine Xs (Xa (some 21) (fun _ => .tuple #[.agg #[vi ((gt s.N par).getD zeroN).id, vi ((gt s.N par).getD zeroN).par, vi ((gt s.N par).getD zeroN).wt, vi ((gt s.N par).getD zeroN).pass, .bool ((gt s.N par).getD zeroN).thr, .bool ((gt s.N par).getD zeroN).rdy], .bool (gt s.N par).isSome]) (chg_at 1 rfl (trNode _ t s.N par))) (fun _ => ?_) 6
 cases hg : gt s.N par with
 | none =>
  refine Xr [(0,vp k), (1,vi par), (2,vi wt), (3,vi most), (4,.bool thr), (10,vi 0), (11,.nilIface), (22,.agg #[vi zeroN.id, vi zeroN.par, vi zeroN.wt, vi zeroN.pass, .bool zeroN.thr, .bool zeroN.rdy]), (23,.bool false)] ?_ 3 3
  refine Xs (Xn 147 [vi 0, vi 0, vi 0, vi 0, .bool false, .bool false] (some 12) (fun b => vp b)) (fun b1 => ?_) 2
  refine Xs (Xz [(0,vi zeroN.id), (1,vi zeroN.par), (2,vi zeroN.wt), (3,vi zeroN.pass), (4,.bool zeroN.thr), (5,.bool zeroN.rdy)]) (fun _ => ?_) 1
  refine Xe [(12,vp b1), (0,vp k), (1,vi par), (2,vi wt), (3,vi most), (4,.bool thr), (10,vi 0), (11,.nilIface), (13,.bool false)] ?_ 1
  refine Xq (Xb 0 (Xq (Xg 4 (Xr [(12,vp b1), (0,vp k), (1,vi par), (2,vi wt), (3,vi most), (4,.bool thr), (10,vi 0), (11,.nilIface), (13,.bool false), (25,vi wt)] ?_ 3 1))))
  refine Xs (Xa (some 26) (fun _ => .bool (isW wt)) (strIs_walk _ wt)) (fun _ => ?_) 2
  refine Xe [(12,vp b1), (0,vp k), (1,vi par), (2,vi wt), (3,vi most), (4,.bool thr), (10,vi 0), (11,.nilIface), (13,.bool false), (24,.bool (!(isW wt)))] ?_ 2
  cases hw : (isW wt) with
  | true =>
   have e : kadds s par wt most thr = ((0, 13), s) := by rw [kadds, if_neg (by rw [hw]; simp), if_pos (by rw [hg]; simp)]
   refine Xc false (fun h => by cases h) (fun _ => ?_)
   refine Xq (Xg 7 (Xe [(0,vp k), (1,vi par), (2,vi wt), (3,vi most), (4,.bool thr), (10,vi 0), (11,.nilIface), (29,.bool true)] ?_ 7))
   refine Xc true (fun _ => ?_) (fun h => by cases h)
   refine Xq (Xg 3 (Xe [(0,vp k), (1,vi par), (2,vi wt), (4,.bool thr), (10,vi 0), (11,.iface 126 (vi 13))] ?_ 3))
   refine Xv (blockV (thenV (Y0 (.tuple #[vi 0, .iface 126 (vi 13)]) (fun w hs => ?_))))
   rw [e]; exact ⟨(), rfl, hs.tail⟩
  | false =>
   have e : kadds s par wt most thr = ((0, 10), s) := by rw [kadds, if_pos hw]
   refine Xc true (fun _ => ?_) (fun h => by cases h)
   refine Xq (Xg 3 (Xe [(0,vp k), (1,vi par), (2,vi wt), (4,.bool thr), (10,vi 0), (11,.iface 126 (vi 10))] ?_ 3))
   refine Xv (blockV (thenV (Y0 (.tuple #[vi 0, .iface 126 (vi 10)]) (fun w hs => ?_))))
   rw [e]; exact ⟨(), rfl, hs.tail⟩
 | some p =>
  simp only [Option.getD_some, Option.isSome_some]
  refine Xr [(0,vp k), (1,vi par), (2,vi wt), (3,vi most), (4,.bool thr), (10,vi 0), (11,.nilIface), (22,.agg #[vi p.id, vi p.par, vi p.wt, vi p.pass, .bool p.thr, .bool p.rdy]), (23,.bool true)] ?_ 3 3
  refine Xs (Xn 147 [vi 0, vi 0, vi 0, vi 0, .bool false, .bool false] (some 12) (fun b => vp b)) (fun b1 => ?_) 2
  refine Xs (Xz [(0,vi p.id), (1,vi p.par), (2,vi p.wt), (3,vi p.pass), (4,.bool p.thr), (5,.bool p.rdy)]) (fun _ => ?_) 1
  refine Xe [(12,vp b1), (0,vp k), (1,vi par), (2,vi wt), (3,vi most), (4,.bool thr), (10,vi 0), (11,.nilIface), (13,.bool true)] ?_ 1
  refine Xq (Xb 0 (Xq (Xg 4 (Xr [(12,vp b1), (0,vp k), (1,vi par), (2,vi wt), (3,vi most), (4,.bool thr), (10,vi 0), (11,.nilIface), (13,.bool true), (25,vi wt)] ?_ 3 1))))
  refine Xs (Xa (some 26) (fun _ => .bool (isW wt)) (strIs_walk _ wt)) (fun _ => ?_) 2
  refine Xe [(12,vp b1), (0,vp k), (1,vi par), (2,vi wt), (3,vi most), (4,.bool thr), (10,vi 0), (11,.nilIface), (13,.bool true), (24,.bool (!(isW wt)))] ?_ 2
  cases hw : (isW wt) with
  | true =>
   cases ht : (p.thr) with
   | true =>
    have e : kadds s par wt most thr = ((0, 13), s) := by rw [kadds, if_neg (by rw [hw]; simp), if_pos (by rw [hg]; simp [ht])]
    refine Xc false (fun h => by cases h) (fun _ => ?_)
    refine Xq (Xg 7 (Xm [(0,vp k), (1,vi par), (2,vi wt), (3,vi most), (4,.bool thr), (10,vi 0), (11,.nilIface), (29,.bool true)] [(⟨b1, 4, none⟩, .bool true)] (hasC (ba 0) has0) ?_ 7))
    refine Xc true (fun _ => ?_) (fun h => by cases h)
    refine Xq (Xg 3 (Xe [(0,vp k), (1,vi par), (2,vi wt), (4,.bool thr), (10,vi 0), (11,.iface 126 (vi 13))] ?_ 3))
    refine Xv (blockV (thenV (Y0 (.tuple #[vi 0, .iface 126 (vi 13)]) (fun w hs => ?_))))
    rw [e]; exact ⟨(), rfl, hs.tail⟩
   | false =>
    have h13 : ¬ ((gt s.N par).isNone ∨ ((gt s.N par).getD zeroN).thr = true) := by rw [hg]; simp [ht]
    refine Xc false (fun h => by cases h) (fun _ => ?_)
    refine Xq (Xg 7 (Xm [(0,vp k), (1,vi par), (2,vi wt), (3,vi most), (4,.bool thr), (10,vi 0), (11,.nilIface), (29,.bool false)] [(⟨b1, 4, none⟩, .bool false)] (hasC (ba 0) has0) ?_ 7))
    refine Xc false (fun h => by cases h) (fun _ => ?_)
    refine Xq (Xg 6 (Xr [(0,vp k), (1,vi par), (2,vi wt), (3,vi most), (4,.bool thr), (10,vi 0), (11,.nilIface), (38,vp k), (39,.bool thr)] ?_ 4 2))
    refine PT.drop ?_
    refine Xs (Xa (some 40) (fun _ => vi (kcnt s.N thr)) (kcount_walk _ k t m o s hk hid thr)) (fun _ => ?_) 3
    refine Xe [(0,vp k), (1,vi par), (2,vi wt), (4,.bool thr), (10,vi 0), (11,.nilIface), (37,.bool (decide ((kcnt s.N thr) ≥ most)))] ?_ 3
    refine Xc (decide ((kcnt s.N thr) ≥ most)) (fun h3 => ?_) (fun h3 => ?_)
    ·skip
     have e : kadds s par wt most thr = ((0, 14), s) := by rw [kadds, if_neg (by rw [hw]; simp), if_neg h13, if_pos (of_decide_eq_true h3)]
     refine Xq (Xg 3 (Xe [(0,vp k), (1,vi par), (2,vi wt), (4,.bool thr), (10,vi 0), (11,.iface 126 (vi 14))] ?_ 3))
     refine Xv (blockV (thenV (Y0 (.tuple #[vi 0, .iface 126 (vi 14)]) (fun w hs => ?_))))
     rw [e]; exact ⟨(), rfl, hs⟩
    ·skip
     have h3' : ¬ kcnt s.N thr ≥ most := of_decide_eq_false h3
     refine PT.pick 0 rfl ?_
     refine PT.pick 1 rfl ?_
     refine Xk (Xq (Xq (Xy0 1 [] 13 ?_)))
     refine Xt [0, 1, 2, 3, 4, 5, 6, 7, 8, 9, 10] [(0,vp k), (10,vi 0), (11,.nilIface), (47,vp t), (48,vi par), (52,vi s.nx), (53,vi wt), (54,.bool thr)] [(⟨k, 0, none⟩, vp t), (⟨k, 5, none⟩, vi s.nx)] (hasC (ba 0) (hasC (ba 0) has0)) ?_
     refine Xo 11 (Xa (some 55) (fun _ => pqErr (addN s.N par s.nx wt thr).1) (trAdd _ t s.N par s.nx wt thr)) (fun _ => ?_)
     rcases Decidable.em ((addN s.N par s.nx wt thr).1 = 0) with h4 | h4
     ·rw [pqErr_0 h4]
      have e : kadds s par wt most thr = ((s.nx, 0), { s with N := (addN s.N par s.nx wt thr).2, nx := s.nx + 1 }) := by rw [kadds, if_neg (by rw [hw]; simp), if_neg h13, if_neg h3', if_neg (by rw [h4]; simp)]
      refine Xt [12] [(0,vp k), (10,vi 0), (11,.nilIface), (14,.nilIface)] [] has0 ?_
      refine Xd (Xq (Xg 2 (Xe [(0,vp k), (10,vi 0), (11,.nilIface), (14,.nilIface), (57,.bool false)] ?_ 2)))
      refine Xc false (fun h => by cases h) (fun _ => ?_)
      refine Xk (Xq (Xg 8 (Xl [(0,vp k), (10,vi 0), (11,.nilIface), (63,vi (IntKind.i64.wrap (s.nx + 1))), (65,vq k 5)] [(⟨k, 5, none⟩, vi s.nx)] (hasC (ba 1) has0) ?_ 1 7)))
      refine Xh0 ?_ 1 1
      refine Xs (Xz [(5,vi (IntKind.i64.wrap (s.nx + 1)))]) (fun _ => ?_) 0
      refine endR ?_
      refine Xq (Xg 7 (Xm [(10,vi (IntKind.i64.wrap ((IntKind.i64.wrap (s.nx + 1)) - 1))), (11,.nilIface)] [(⟨k, 5, none⟩, vi (IntKind.i64.wrap (s.nx + 1)))] (hasC (ba 0) has0) ?_ 7))
      refine Xv ?_
      rw [show IntKind.i64.wrap (s.nx + 1) = (s.nx + 1) by rw [w64 (by omega) (by omega)]]
      rw [show IntKind.i64.wrap ((s.nx + 1) - 1) = ((s.nx + 1) - 1) by rw [w64 (by omega) (by omega)]]
      refine Y1 (.tuple #[vi ((s.nx + 1) - 1), .nilIface]) (fun w hs => ?_)
      rw [e]; exact ⟨(), by simp only; rw [show s.nx + 1 - 1 = s.nx by omega]; rfl, hs⟩
     ·rw [pqErr_n h4]
      have e : kadds s par wt most thr = ((0, (addN s.N par s.nx wt thr).1), s) := by rw [kadds, if_neg (by rw [hw]; simp), if_neg h13, if_neg h3', if_pos h4]
      have hN : (addN s.N par s.nx wt thr).2 = s.N := by rcases add_cases s.N par s.nx wt thr with ⟨e, _, h5⟩ | ⟨p, _, _, h5⟩; rw [h5]; rw [h5] at h4; exact absurd rfl h4
      refine Xt [12] [(0,vp k), (10,vi 0), (11,.nilIface), (14,.iface 126 (vi ((addN s.N par s.nx wt thr).1)))] [] has0 ?_
      refine Xd (Xq (Xg 2 (Xe [(0,vp k), (10,vi 0), (11,.nilIface), (14,.iface 126 (vi ((addN s.N par s.nx wt thr).1))), (57,.bool true)] ?_ 2)))
      refine Xc true (fun _ => ?_) (fun h => by cases h)
      refine Xq (Xg 3 (Xe [(0,vp k), (10,vi 0), (11,.iface 126 (vi ((addN s.N par s.nx wt thr).1)))] ?_ 3))
      refine Xv (thenV (Y0 (.tuple #[vi 0, .iface 126 (vi ((addN s.N par s.nx wt thr).1))]) (fun w hs => ?_)))
      rw [e]; exact ⟨(), by simp only; rw [pqErr_n h4], by simp only; rw [hN] at hs; exact SatF.swap hs⟩
  | false =>
   have e : kadds s par wt most thr = ((0, 10), s) := by rw [kadds, if_pos hw]
   refine Xc true (fun _ => ?_) (fun h => by cases h)
   refine Xq (Xg 3 (Xe [(0,vp k), (1,vi par), (2,vi wt), (4,.bool thr), (10,vi 0), (11,.iface 126 (vi 10))] ?_ 3))
   refine Xv (blockV (thenV (Y0 (.tuple #[vi 0, .iface 126 (vi 10)]) (fun w hs => ?_))))
   rw [e]; exact ⟨(), rfl, hs.tail⟩
end Go.Proofs.YtfhkgohokbkgiaaGreatDoor
set_option linter.unusedVariables false
set_option linter.unusedSimpArgs false
namespace Go.Proofs.YtfhkgohokbkgiaaGreatDoor
open Go.RowKit G
set_option maxRecDepth 100000 in
theorem kgroup_walk (H : List SP) (k t m o : Nat) (s : KS) (hk : KOk s) (hid : s.nx ≤ 1099511627776) (par wt : Int) : ∀ w, Sat w (blk k 145 [vp t, vp m, vp o, vi s.mt, vi s.mg, vi s.nx] :: treeS t s.N :: tmS m s.tm :: obsS o s.ob :: H) → Calls Tryz.prog 129 #[vp k, vi par, vi wt] w (Ret (ι := Unit) (fun _ => .tuple #[vi (kgroup s par wt).1.1, pqErr (kgroup s par wt).1.2]) fun _ => blk k 145 [vp t, vp m, vp o, vi (kgroup s par wt).2.mt, vi (kgroup s par wt).2.mg, vi (kgroup s par wt).2.nx] :: treeS t (kgroup s par wt).2.N :: tmS m (kgroup s par wt).2.tm :: obsS o (kgroup s par wt).2.ob :: H) := by
 refine enterG (fn := Tryz.f129) 18 [vp k, vi par, vi wt] Tryz.func129 (by kernel_rfl) (by kernel_rfl) (by kernel_rfl) ?_
 refine Xq (Xg 2 (Xe [(0,vp k), (1,vi par), (2,vi wt), (6,vi 0), (7,.nilIface)] ?_ 2))
 refine Xq (Xg 12 (Xl [(6,vi 0), (7,.nilIface), (8,vp k), (9,vi par), (10,vi wt), (14,vi s.mg)] [(⟨k, 4, none⟩, vi s.mg)] (hasC (ba 0) has0) ?_ 5 7))
 refine Xs (Xa (some 15) (fun _ => .tuple #[vi (kadds s par wt s.mg false).1.1, pqErr (kadds s par wt s.mg false).1.2]) (kadds_walk _ k t m o s hk hid par wt s.mg false)) (fun _ => ?_) 4
 refine Xe [(6,vi ((kadds s par wt s.mg false).1.1)), (7,pqErr (kadds s par wt s.mg false).1.2)] ?_ 4
 refine Xv (Y0 (.tuple #[vi ((kadds s par wt s.mg false).1.1), pqErr (kadds s par wt s.mg false).1.2]) (fun w hs => ?_))
 exact ⟨(), rfl, hs⟩
set_option maxRecDepth 100000 in
theorem kspawn_walk (H : List SP) (k t m o : Nat) (s : KS) (hk : KOk s) (hid : s.nx ≤ 1099511627776) (par wt : Int) : ∀ w, Sat w (blk k 145 [vp t, vp m, vp o, vi s.mt, vi s.mg, vi s.nx] :: treeS t s.N :: tmS m s.tm :: obsS o s.ob :: H) → Calls Tryz.prog 80 #[vp k, vi par, vi wt] w (Ret (ι := Unit) (fun _ => .tuple #[vi (kspawn s par wt).1.1, pqErr (kspawn s par wt).1.2]) fun _ => blk k 145 [vp t, vp m, vp o, vi (kspawn s par wt).2.mt, vi (kspawn s par wt).2.mg, vi (kspawn s par wt).2.nx] :: treeS t (kspawn s par wt).2.N :: tmS m (kspawn s par wt).2.tm :: obsS o (kspawn s par wt).2.ob :: H) := by
 refine enterG (fn := Tryz.f80) 31 [vp k, vi par, vi wt] Tryz.func80 (by kernel_rfl) (by kernel_rfl) (by kernel_rfl) ?_
 refine Xq (Xg 2 (Xe [(0,vp k), (1,vi par), (2,vi wt), (6,vi 0), (7,.nilIface)] ?_ 2))
 refine Xq (Xg 13 (Xl [(0,vp k), (6,vi 0), (7,.nilIface), (11,vp k), (12,vi par), (13,vi wt), (17,vi s.mt)] [(⟨k, 3, none⟩, vi s.mt)] (hasC (ba 0) has0) ?_ 6 7))
 refine Xs (Xa (some 18) (fun _ => .tuple #[vi (kadds s par wt s.mt true).1.1, pqErr (kadds s par wt s.mt true).1.2]) (kadds_walk _ k t m o s hk hid par wt s.mt true)) (fun _ => ?_) 5
 rcases Decidable.em ((kadds s par wt s.mt true).1.2 = 0) with h4 | h4
 ·rw [pqErr_0 h4]
  have e : kspawn s par wt = (((kadds s par wt s.mt true).1.1, (readyN (kadds s par wt s.mt true).2.N (kadds s par wt s.mt true).1.1 true).1), { (kadds s par wt s.mt true).2 with N := (readyN (kadds s par wt s.mt true).2.N (kadds s par wt s.mt true).1.1 true).2 }) := by rw [kspawn, if_neg (by rw [h4]; simp)]
  refine Xe [(0,vp k), (6,vi 0), (7,.nilIface), (8,vi ((kadds s par wt s.mt true).1.1)), (9,.nilIface)] ?_ 5
  refine Xq (Xq (Xg 2 (Xe [(0,vp k), (6,vi 0), (7,.nilIface), (8,vi ((kadds s par wt s.mt true).1.1)), (9,.nilIface), (22,.bool false)] ?_ 2)))
  refine Xc false (fun h => by cases h) (fun _ => ?_)
  refine Xk (Xq (Xg 9 (Xl [(6,vi 0), (7,.nilIface), (24,vi ((kadds s par wt s.mt true).1.1)), (28,vp t), (29,vi ((kadds s par wt s.mt true).1.1))] [(⟨k, 0, none⟩, vp t)] (hasC (ba 0) has0) ?_ 3 6)))
  refine Xs (Xa (some 30) (fun _ => pqErr (readyN (kadds s par wt s.mt true).2.N (kadds s par wt s.mt true).1.1 true).1) (chg_at 1 rfl (trReady _ t (kadds s par wt s.mt true).2.N (kadds s par wt s.mt true).1.1 true))) (fun _ => ?_) 2
  refine Xe [(6,vi ((kadds s par wt s.mt true).1.1)), (7,pqErr (readyN (kadds s par wt s.mt true).2.N (kadds s par wt s.mt true).1.1 true).1)] ?_ 2
  refine Xv (Y0 (.tuple #[vi ((kadds s par wt s.mt true).1.1), pqErr (readyN (kadds s par wt s.mt true).2.N (kadds s par wt s.mt true).1.1 true).1]) (fun w hs => ?_))
  rw [e]; exact ⟨(), rfl, hs⟩
 ·rw [pqErr_n h4]
  have e : kspawn s par wt = ((0, (kadds s par wt s.mt true).1.2), (kadds s par wt s.mt true).2) := by rw [kspawn, if_pos h4]
  refine Xe [(0,vp k), (6,vi 0), (7,.nilIface), (8,vi ((kadds s par wt s.mt true).1.1)), (9,.iface 126 (vi ((kadds s par wt s.mt true).1.2)))] ?_ 5
  refine Xq (Xq (Xg 2 (Xe [(0,vp k), (6,vi 0), (7,.nilIface), (8,vi ((kadds s par wt s.mt true).1.1)), (9,.iface 126 (vi ((kadds s par wt s.mt true).1.2))), (22,.bool true)] ?_ 2)))
  refine Xc true (fun _ => ?_) (fun h => by cases h)
  refine Xq (Xg 3 (Xe [(0,vp k), (6,vi 0), (7,.iface 126 (vi ((kadds s par wt s.mt true).1.2))), (8,vi ((kadds s par wt s.mt true).1.1))] ?_ 3))
  refine Xv (thenV (Y0 (.tuple #[vi 0, .iface 126 (vi ((kadds s par wt s.mt true).1.2))]) (fun w hs => ?_)))
  rw [e]; exact ⟨(), by simp only; rw [pqErr_n h4], hs⟩
end Go.Proofs.YtfhkgohokbkgiaaGreatDoor
set_option linter.unusedVariables false
set_option linter.unusedSimpArgs false
namespace Go.Proofs.YtfhkgohokbkgiaaGreatDoor
open Go.RowKit G
def kn01 : List Nr := [⟨0, -1, 1, 0, false, true, 0⟩, ⟨1, 0, 1, 0, true, true, 0⟩]
def mtOf (a : Int) : Int := mnI (mxI a 1) 8
def mgOf (a : Int) : Int := mnI (mxI a 0) 4
theorem mtOf_in (a : Int) : 1 ≤ mtOf a ∧ mtOf a ≤ 8 := by unfold mtOf mnI mxI; repeat' split <;> omega
theorem mgOf_in (a : Int) : 0 ≤ mgOf a ∧ mgOf a ≤ 4 := by unfold mgOf mnI mxI; repeat' split <;> omega
theorem k00_adds {mt mg : Int} (h : 1 ≤ mt) : kadds ⟨[rootN], [], ob0, mt, mg, 1⟩ 0 1 mt true = ((1, 0), ⟨[rootN, ⟨1, 0, 1, 0, true, false, 0⟩], [], ob0, mt, mg, 2⟩) := by
 have h1 : kcnt [rootN] true = 0 := by decide
 have h2 : addN [rootN] 0 1 1 true = (0, [rootN, ⟨1, 0, 1, 0, true, false, 0⟩]) := by rfl
 have h3 : gt [rootN] 0 = some rootN := by rfl
 rw [kadds, if_neg (by decide), if_neg (by simp only [h3]; decide), if_neg (by simp only [h1]; omega), if_neg (by simp only [h2]; decide)]
 simp only [h2]; rfl
theorem k00_spawn {mt mg : Int} (h : 1 ≤ mt) : kspawn ⟨[rootN], [], ob0, mt, mg, 1⟩ 0 1 = ((1, 0), ⟨kn01, [], ob0, mt, mg, 2⟩) := by
 have h1 := k00_adds (mt := mt) (mg := mg) h
 have h2 : readyN [rootN, ⟨1, 0, 1, 0, true, false, 0⟩] 1 true = (0, kn01) := by rfl
 unfold kspawn
 simp only [h1]
 rw [if_neg (by decide)]
 simp only [h2]
theorem k0_is {mt mg : Int} (h : 1 ≤ mt) : k0 mt mg = ⟨kn01, [], ob0, mt, mg, 2⟩ := congrArg Prod.snd (k00_spawn h)
set_option maxHeartbeats 1000000 in
set_option maxRecDepth 100000 in
theorem knew_walk (H : List SP) (th gr : Int) : ∀ w, Sat w H → Calls Tryz.prog 43 #[vi th, vi gr] w (Ret (ι := Nat) (fun k => vp k) fun k => kerS k (k0 (mtOf th) (mgOf gr)) :: H) := by
 have hm := mtOf_in th
 have hg := mgOf_in gr
 have hsp := k00_spawn (mt := mtOf th) (mg := mgOf gr) hm.1
 have hk := k00_ok hm hg
 refine enterG (fn := Tryz.f43) 27 [vi th, vi gr] Tryz.func43 (by kernel_rfl) (by kernel_rfl) (by kernel_rfl) ?_
 refine Xq (Xg 1 (Xe [(0,vi th), (1,vi gr), (4,.pointer none)] ?_ 1))
 refine Xq (Xg 12 (Xs (Xa (some 8) (fun (t : Nat) => vp t) (trNew _)) (fun (t : Nat) => ?_) 11))
 refine Xs (Xa (some 9) (fun (m : Nat) => vp m) (tmgNew _)) (fun (m : Nat) => ?_) 10
 refine Xs (Xa (some 10) (fun (o : Nat) => vp o) (obgNew _)) (fun (o : Nat) => ?_) 9
 refine Xr [(4,.pointer none), (17,.agg #[vp t, vp m, vp o, vi (mnI (mxI th 1) 8), vi (mnI (mxI gr 0) 4), vi 1])] ?_ 2 7
 refine Xs (Xn 145 [vp t, vp m, vp o, vi (mnI (mxI th 1) 8), vi (mnI (mxI gr 0) 4), vi 1] (some 18) (fun b => vp b)) (fun b1 => ?_) 1
 refine Xe [(4,.pointer none), (5,vp b1)] ?_ 1
 refine Xq (Xq (Xg 7 (Xr [(4,.pointer none), (5,vp b1), (20,vp b1)] ?_ 6 1)))
 refine Xh0 ?_ 1 6
 refine Xh0 ?_ 2 6
 refine Xh0 ?_ 3 6
 refine Xh0 ?_ 3 6
 refine Xs (Xa (some 21) (fun _ => .tuple #[vi 1, .nilIface]) ((by have h := kspawn_walk H b1 t m o ⟨[rootN], [], ob0, mtOf th, mgOf gr, 1⟩ hk (by simp only; omega) 0 1; rw [hsp] at h; exact h))) (fun _ => ?_) 5
 refine Xe [(4,.pointer none), (5,vp b1), (7,.nilIface)] ?_ 5
 refine Xq (Xg 2 (Xe [(4,.pointer none), (5,vp b1), (25,.bool false)] ?_ 2))
 refine Xc false (fun h => by cases h) (fun _ => ?_)
 refine Xk (Xq (Xg 2 (Xe [(4,vp b1)] ?_ 2)))
 refine Xv (Y0 (vp b1) (fun w hs => ?_))
 exact ⟨b1, rfl, Sat.closeKer (k0_ok hm hg) (by rw [k0_is hm.1]; exact hs)⟩
end Go.Proofs.YtfhkgohokbkgiaaGreatDoor
set_option linter.unusedVariables false
set_option linter.unusedSimpArgs false
namespace Go.Proofs.YtfhkgohokbkgiaaGreatDoor
open Go.RowKit G
/-! ## a world -/
structure SdS where
  k : KS
  r : RgS
  b : BxS
  left : Int
  all : Int
  read : List Int
structure WS where
  s : List SdS
  l : List Acc
  t : LtS
def sdOf (d : DomV) : SdS := ⟨k0 (mtOf d.threads) (mgOf d.groups), rg0 d.ring, bx0 d.box, sends d.sends, sends d.sends, [0, 0, 0, 0, 0, 0]⟩
def w0 (c : ConfV) : WS := ⟨c.domains.l.map sdOf, List.replicate (mnI (mxI (c.domains.l.length : Int) 1) 6).toNat ⟨0, 0, 0, 0⟩, lt0 c.domains.l.length⟩
def sdZ : SdS := ⟨⟨[], [], [], 0, 0, 0⟩, ⟨[], 0, 0⟩, ⟨[], 0⟩, 0, 0, []⟩
def sdAt (w : WS) (d : Nat) : SdS := w.s.getD d sdZ
def wUp (w : WS) (d : Nat) (x : SdS) : WS := { w with s := w.s.set d x }
def wEpoch (w : WS) : WS := { w with s := w.s.map fun x => { x with left := x.all }, t := ltTurn w.t }
/-- What is the kernel's alone: A, the error, the kernel. -/
def kAct (k : KS) (tick th op a b : Int) : (Int × Int) × KS :=
  if op = 1 then (((kspawn k a b).1.1, (kspawn k a b).1.2), (kspawn k a b).2)
  else if op = 2 then (((kgroup k a b).1.1, (kgroup k a b).1.2), (kgroup k a b).2)
  else if op = 3 then ((0, (kexit k th).1), (kexit k th).2)
  else if op = 4 then (if a > 1000 then ((0, 12), k) else ((0, (ksleep k th (IntKind.i64.wrap (IntKind.i64.wrap (tick + 1) + a))).1), (ksleep k th (IntKind.i64.wrap (IntKind.i64.wrap (tick + 1) + a))).2))
  else if op = 5 then ((if (kwait k th a).1.1 = true then 1 else 0, (kwait k th a).1.2), (kwait k th a).2)
  else if op = 6 then ((0, (ksignal k a).1), (ksignal k a).2)
  else if op = 7 then ((0, (kweight k a b).1), (kweight k a b).2)
  else ((0, 16), k)
def wClock (w : WS) (d : Int) : Int := (ldAt w.l d).own + (ldAt w.l d).got
def wStat (c : ConfV) (w : WS) (d a : Int) : (Int × Int) × Int := if chkFlow c a d = 0 then ((wClock w a, (ldAt w.l a).idle), 0) else ((0, 0), chkFlow c a d)
/-- What is read next of a's ring by d. -/
def wNext (w : WS) (d a : Nat) : Rec × Bool := rgGet (sdAt w a).r (IntKind.i64.wrap ((sdAt w d).read.getD a 0 + 1))
def wAudit (c : ConfV) (w : WS) (d : Nat) (a : Int) : ((Int × Int) × Int) × WS :=
  if chkFlow c a d = 0 then
    (if (wNext w d a.toNat).2 = true then ((((wNext w d a.toNat).1.1, IntKind.i64.wrap (IntKind.i64.wrap ((wNext w d a.toNat).1.2.2.1 * 100) + (wNext w d a.toNat).1.2.2.2)), 0), wUp w d { sdAt w d with read := (sdAt w d).read.set a.toNat (wNext w d a.toNat).1.1 })
      else (((0, 0), 13), w))
  else (((0, 0), chkFlow c a d), w)
def wPay (w : WS) (d : Nat) : WS := wUp w d { sdAt w d with left := (sdAt w d).left - 1 }
def wPut (w : WS) (d a : Nat) (x : Int) : WS := wUp w a { sdAt w a with b := bxPut (sdAt w a).b d x }
def wSend (c : ConfV) (w : WS) (d : Nat) (a b : Int) : Int × WS :=
  if chkFlow c d a = 0 then (if (sdAt w d).left = 0 then (14, w) else (0, wPut (wPay w d) d a.toNat b)) else (chkFlow c d a, w)
def wRecv (w : WS) (d : Nat) : ((Int × Int) × Int) × WS := if (bxGet (sdAt w d).b).2 = true then (((bxGet (sdAt w d).b).1, 0), wUp w d { sdAt w d with b := bxTake (sdAt w d).b }) else (((0, 0), 13), w)
def wLevel (c : ConfV) (w : WS) (d : Nat) (v : Int) : Int × WS := if chkLevel c d v = 0 then ((ltAskL c w.t d v).1, { w with t := (ltAskL c w.t d v).2 }) else (chkLevel c d v, w)
def wPlan (c : ConfV) (w : WS) (d : Nat) (i : Int) : Int × WS := if chkPlan c d i = 0 then ((ltAskP w.t c.plans.l.length i).1, { w with t := (ltAskP w.t c.plans.l.length i).2 }) else (chkPlan c d i, w)
/-- (A, B), the error; the world. -/
def wDoes (c : ConfV) (w : WS) (tick : Int) (d : Nat) (th op a b : Int) : ((Int × Int) × Int) × WS :=
  if op = 8 then (((wClock w d, 0), 0), w)
  else if op = 9 then (wStat c w d a, w)
  else if op = 10 then wAudit c w d a
  else if op = 11 then (((0, 0), (wSend c w d a b).1), (wSend c w d a b).2)
  else if op = 12 then wRecv w d
  else if op = 13 then (((0, 0), (wLevel c w d a).1), (wLevel c w d a).2)
  else if op = 14 then (((0, 0), (wPlan c w d a).1), (wPlan c w d a).2)
  else ((((kAct (sdAt w d).k tick th op a b).1.1, 0), (kAct (sdAt w d).k tick th op a b).1.2), wUp w d { sdAt w d with k := (kAct (sdAt w d).k tick th op a b).2 })
def isKept (op : Int) : Bool := op == 1 || op == 2 || op == 3 || op == 7 || op == 11 || op == 13 || op == 14
/-- Code, A, B. -/
def wSays (x : (Int × Int) × Int) : Int × Int × Int := if x.2 = 0 then (0, x.1.1, x.1.2) else (x.2, 0, 0)
def wKeep (w : WS) (d : Nat) (tick op code : Int) : WS := if isKept op = true then wUp w d { sdAt w d with r := rgAdd (sdAt w d).r tick op code } else w
/-- (Code, A, B), told; the world. -/
def wAct (c : ConfV) (w : WS) (tick : Int) (d : Nat) (th op a b : Int) : ((Int × Int × Int) × Bool) × WS :=
  if op = 0 then (((0, 0, 0), false), w)
  else ((wSays (wDoes c w tick d th op a b).1, true), wKeep (wDoes c w tick d th op a b).2 d tick op (wSays (wDoes c w tick d th op a b).1).1)
end Go.Proofs.YtfhkgohokbkgiaaGreatDoor
set_option linter.unusedVariables false
set_option linter.unusedSimpArgs false
namespace Go.Proofs.YtfhkgohokbkgiaaGreatDoor
open Go.RowKit Ieee
theorem nearest_any (s : Bool) (m e : Nat) (hm : 0 < m) (hb : m < 2 ^ 53) :
    double.nearest s (m * 2 ^ e) (-(e : Int)) = double.word s ((m.log2 + 1022) * 2 ^ 52 + m * 2 ^ (52 - m.log2)) := by
  have hlg : m.log2 < 53 := (Nat.log2_lt (by omega)).2 hb
  have hle : (m * 2 ^ e).log2 = m.log2 + e := by
    refine (Nat.log2_eq_iff (Nat.ne_of_gt (Nat.mul_pos hm (Nat.two_pow_pos e)))).2 ⟨?_, ?_⟩
    · rw [Nat.pow_add]; exact Nat.mul_le_mul_right _ (Nat.log2_self_le (by omega))
    · rw [show m.log2 + e + 1 = (m.log2 + 1) + e by omega, Nat.pow_add]
      exact Nat.mul_lt_mul_of_pos_right Nat.lt_log2_self (Nat.two_pow_pos e)
  unfold Format.nearest
  rw [if_neg (Nat.ne_of_gt (Nat.mul_pos hm (Nat.two_pow_pos e))), hle, leastPlace_eq, binade_eq, infRung_eq]
  have hfb : double.fractionBits = 52 := rfl
  rw [hfb]
  have hlast : max (-(e : Int) + ((m.log2 + e : Nat) : Int) - ((52 : Nat) : Int)) (-1074) = (m.log2 : Int) - 52 := by omega
  simp only [hlast]
  have hkept : Toward.even.cut s ((m * 2 ^ e) <<< (-(e : Int) - ((m.log2 : Int) - 52)).toNat) ((m.log2 : Int) - 52 - -(e : Int)).toNat = m * 2 ^ (52 - m.log2) := by
    by_cases c : e ≤ 52 - m.log2
    · rw [show ((m.log2 : Int) - 52 - -(e : Int)).toNat = 0 by omega, show (-(e : Int) - ((m.log2 : Int) - 52)).toNat = 52 - m.log2 - e by omega, cut_none, Nat.shiftLeft_eq, Nat.mul_assoc, ← Nat.pow_add]
      congr 2; omega
    · rw [show (-(e : Int) - ((m.log2 : Int) - 52)).toNat = 0 by omega, Nat.shiftLeft_zero, show ((m.log2 : Int) - 52 - -(e : Int)).toNat = e - (52 - m.log2) by omega]
      have : m * 2 ^ e = m * 2 ^ (52 - m.log2) * 2 ^ (e - (52 - m.log2)) := by
        rw [Nat.mul_assoc, ← Nat.pow_add]; congr 2; omega
      rw [this]
      exact cut_whole s _ _ (Nat.mul_pos hm (Nat.two_pow_pos _))
  rw [hkept, show ((m.log2 : Int) - 52 - -1074).toNat = m.log2 + 1022 by omega]
  have hup : m * 2 ^ (52 - m.log2) < 2 ^ 53 := by
    have h1 : m < 2 ^ (m.log2 + 1) := Nat.lt_log2_self
    have h2 : m * 2 ^ (52 - m.log2) < 2 ^ (m.log2 + 1) * 2 ^ (52 - m.log2) := Nat.mul_lt_mul_of_pos_right h1 (Nat.two_pow_pos _)
    rw [← Nat.pow_add, show m.log2 + 1 + (52 - m.log2) = 53 by omega] at h2
    exact h2
  rw [Nat.min_eq_left]
  have : (m.log2 + 1022) * 2 ^ 52 ≤ 1074 * 2 ^ 52 := Nat.mul_le_mul_right _ (by omega)
  generalize m * 2 ^ (52 - m.log2) = X at hup ⊢
  generalize m.log2 = L at hlg ⊢
  clear hlast hkept hle hfb this
  rw [e52]
  rw [e53] at hup
  omega
theorem write_any (n : Int) (e : Nat) (hb : n.natAbs < 2 ^ 53) : double.write (.number (decide (n < 0)) (n.natAbs * 2 ^ e) (-(e : Int))) = fi n := by
  by_cases h0 : n = 0
  · exact write_scaled n e hb (.inr h0)
  · rw [fi_word n h0 hb]
    exact nearest_any _ _ _ (by omega) hb
theorem fi_sum (a b : Int) (ha : 0 ≤ a ∧ a < 2 ^ 52) (hb : 0 ≤ b ∧ b < 2 ^ 52) : double.add (fi a) (fi b) = some (fi (a + b)) := by
  obtain ⟨e, _, he, he2⟩ := fi_read a (by omega)
  obtain ⟨d, _, hd, hd2⟩ := fi_read b (by omega)
  unfold Format.add
  rw [he, hd]
  simp only [Datum.sum, signed_up, Option.map_some]
  rw [show e + (-(e : Int) - min (-(e : Int)) (-(d : Int))).toNat = max e d by omega, show d + (-(d : Int) - min (-(e : Int)) (-(d : Int))).toNat = max e d by omega, ← Int.add_mul, show min (-(e : Int)) (-(d : Int)) = -((max e d : Nat) : Int) by omega]
  congr 1
  have hp := two_pow_pos' (max e d)
  have hn : ((a + b) * 2 ^ max e d).natAbs = (a + b).natAbs * 2 ^ max e d := by
    rw [Int.natAbs_mul]; simp [Int.natAbs_pow]
  have hneg : (if (a + b) * 2 ^ max e d = 0 then (decide (a < 0) && decide (b < 0)) else decide ((a + b) * 2 ^ max e d < 0)) = decide (a + b < 0) := by
    by_cases c : a + b = 0
    · rw [c, Int.zero_mul, if_pos rfl]
      simp [show ¬ a < 0 by omega]
    · rw [if_neg (by intro h; rcases Int.mul_eq_zero.1 h with h | h <;> omega)]
      rw [decide_eq_false (show ¬ a + b < 0 by omega), decide_eq_false (by have := Int.mul_pos (show 0 < a + b by omega) hp; omega)]
  rw [hn, hneg]
  exact write_any (a + b) _ (by omega)
theorem cpx_add {t : TypeId} {x y : Operand} {a b c d : Int} (ha : 0 ≤ a ∧ a < 2 ^ 52) (hb : 0 ≤ b ∧ b < 2 ^ 52) (hc : 0 ≤ c ∧ c < 2 ^ 52) (hd : 0 ≤ d ∧ d < 2 ^ 52) (w : World) :
    (do eqGuard .add t x y (.complex .f64 (floatOfInt .f64 a) (floatOfInt .f64 b)) (.complex .f64 (floatOfInt .f64 c) (floatOfInt .f64 d)); binOp .add t (.complex .f64 (floatOfInt .f64 a) (floatOfInt .f64 b)) (.complex .f64 (floatOfInt .f64 c) (floatOfInt .f64 d)) : Sem Value).run Tryz.prog w = .ok (.complex .f64 (floatOfInt .f64 (a + c)) (floatOfInt .f64 (b + d))) w := by
  have h1 := fi_sum a c ha hc
  have h2 := fi_sum b d hb hd
  simp only [fi_eq] at h1 h2
  simp only [eqGuard, binOp, Op.complexOp, Op.Complex.arith, Op.floatArith, Sem.run_bind]
  show _ = _
  simp [FloatKind.format, h1, h2]
end Go.Proofs.YtfhkgohokbkgiaaGreatDoor
