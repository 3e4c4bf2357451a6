/- tree: shifts. Conditions: none. -/
import Derived.Test.YtjbjngikaiggdaaGreatTe
set_option linter.unusedVariables false
set_option linter.unusedSimpArgs false
namespace Go.Proofs.YtjbjngikaiggdaaGreat
open Go.RowKit G
set_option maxHeartbeats 1000000 in
set_option maxRecDepth 100000 in
theorem shifts_walk {N : List Nr} {T : List Nd} (hT : OkT N T) (hsk : SK N) {rk : Int → Nat} {r : Nat} (hdn : DN rk r N) {wy : List (Int × Nat)} (hl : wy.length ≤ 1000000) (hon : OnT T wy) (H : List SP) (t mb : Nat) (A : Option Addr) (cap : Nat) : ∀ w, Sat w (row wE 50 (.slice A wy.length cap) wy :: blk t 57 [.map (some mb)] :: mapS mb (T.map kp) :: (nodesL T ++ H)) → Calls Tryz.prog 24 #[.pointer (some ⟨t, 0, none⟩), .slice A wy.length cap] w (Ret (ι := { T' : List Nd // OkT ((wy.map (·.1)).foldl shiftN N) T' ∧ SameT T T' }) (fun _ => .tuple #[]) fun T' => row wE 50 (.slice A wy.length cap) wy :: blk t 57 [.map (some mb)] :: mapS mb (T'.1.map kp) :: (nodesL T'.1 ++ H)) := by
  refine enterG (fn := Tryz.f24) 68 [.pointer (some ⟨t, 0, none⟩), .slice A wy.length cap] Tryz.func24 (by kernel_rfl) (by kernel_rfl) (by kernel_rfl) ?_
  refine seqR (by kernel_rfl) ?_
  refine regionR 3 (by kernel_rfl) (by kernel_rfl) ?_
  refine (run0 (z := 0) 3 [0, 8, 9, 10] [(0, .pointer (some ⟨t, 0, none⟩)), (8, .slice A wy.length cap), (9, .int .i64 (wy.length : Int)), (10, .int .i64 0)] (fun _ => by kernel_rfl) (endR ?_) : RT _ _ _ _ _ _ 3 _)
  refine blockR 0 (by kernel_rfl) (by kernel_rfl) ?_
  refine PT.keep (L' := [(0, .pointer (some ⟨t, 0, none⟩)), (8, .slice A wy.length cap), (9, .int .i64 (wy.length : Int)), (10, .int .i64 0)]) [0, 8, 9, 10] rfl ?_
  refine loopG (fun (s : List Nd × Nat) => [(0, .pointer (some ⟨t, 0, none⟩)), (8, .slice A wy.length cap), (9, .int .i64 (wy.length : Int)), (10, .int .i64 (s.2 : Int))]) (fun (s : List Nd × Nat) => (row wE 50 (.slice A wy.length cap) wy :: blk t 57 [.map (some mb)] :: mapS mb (s.1.map kp) :: (nodesL s.1 ++ H))) (fun k (s : List Nd × Nat) => k + s.2 = wy.length ∧ ∃ N1, OkT N1 s.1 ∧ SK N1 ∧ DN rk r N1 ∧ SameT T s.1 ∧ (wy.map (·.1)).foldl shiftN N = ((wy.drop s.2).map (·.1)).foldl shiftN N1) wy.length (T, 0) (by kernel_rfl) ⟨rfl, N, hT, hsk, hdn, SameT.refl T, rfl⟩ ?_
  rintro k ⟨T1, u⟩ ⟨hku, N1, hT1, hs1, hd1, hsm, hfold⟩
  simp only at hku hT1 hsm hfold
  refine seqR (by kernel_rfl) ?_
  refine regionR 1 (by kernel_rfl) (by kernel_rfl) ?_
  refine (run0 (z := 0) 1 [0, 8, 9, 10, 11] [(0, .pointer (some ⟨t, 0, none⟩)), (8, .slice A wy.length cap), (9, .int .i64 (wy.length : Int)), (10, .int .i64 (u : Int)), (11, .bool (decide ((u : Int) < (wy.length : Int))))] (fun _ => by kernel_rfl) (endR ?_) : RT _ _ _ _ _ _ 1 _)
  refine seqR (by kernel_rfl) ?_
  refine condR (b := decide ((u : Int) < (wy.length : Int))) (by kernel_rfl) (fun _ => by kernel_rfl) (fun h1 => ?_) (fun h1 => ?_)
  · skip
    have hu : u < wy.length := by have := of_decide_eq_true h1; omega
    obtain ⟨e, he⟩ : ∃ e, wy[u]? = some e := ⟨_, List.getElem?_eq_getElem hu⟩
    obtain ⟨i, g, hi, hgid, hgb⟩ := (hon.same hsm) e (List.mem_of_getElem? he)
    have hgm := List.mem_of_getElem? hi
    have hgN := hT1.mem_n hgm
    have hdrop : (wy.drop u).map (·.1) = e.1 :: (wy.drop (u + 1)).map (·.1) := by rw [List.drop_eq_getElem_cons hu, List.map_cons, (List.getElem?_eq_some_iff.1 he).2]
    refine PT.know (KR.isSome (s := ⟨A, cap, wy⟩) (rowKRat 0 rfl) (List.ne_nil_of_length_pos (by show 0 < wy.length; omega))) ?_
    rintro ⟨sb, so, hA⟩
    dsimp only at hA
    subst hA
    refine skipR (by kernel_rfl) ?_
    refine seqR (by kernel_rfl) ?_
    refine blockR 1 (by kernel_rfl) (by kernel_rfl) ?_
    refine seqR (by kernel_rfl) ?_
    refine regionR 3 (by kernel_rfl) (by kernel_rfl) ?_
    refine (stepR (z := 2) (yldS (idxY 63 (.tmp 8) (.tmp 10) sb so wy.length cap u 1 50 (u : Int) .i64 (some 12) (fun _ => by kernel_rfl) (by kernel_rfl) (by kernel_rfl) (fun _ => by kernel_rfl) (fun _ => by kernel_rfl) Tryz.underlying63 (by kernel_rfl) (by first | rfl | assumption | simp) (by first | omega | (simp; done) | (simp; omega) | (simp at *; omega)))) (fun _ => ?_) : RT _ _ _ _ _ _ 3 _)
    refine (runR (H := (row wE 50 (.slice (some ⟨sb, so, none⟩) wy.length cap) wy :: blk t 57 [.map (some mb)] :: mapS mb (T1.map kp) :: (nodesL T1 ++ H))) (z := 0) 2 [0, 8, 9, 10, 5] [(0, .pointer (some ⟨t, 0, none⟩)), (8, .slice (some ⟨sb, so, none⟩) wy.length cap), (9, .int .i64 (wy.length : Int)), (10, .int .i64 (u : Int)), (5, .pointer (some ⟨e.2, 0, none⟩))] [(⟨sb, so + u * 1, none⟩, .pointer (some ⟨e.2, 0, none⟩))] (hasC ((rowKRat (xs := wy) (A := some ⟨sb, so, none⟩) (k := cap) (E := wE) (T := 50) 0 rfl).cell rfl (i := u) (x := e) he (j := 0) rfl) has0) (fun _ => by kernel_rfl) (endR ?_) : RT _ _ _ _ _ _ 2 _)
    refine seqR (by kernel_rfl) ?_
    refine seqR (by kernel_rfl) ?_
    refine regionR 5 (by kernel_rfl) (by kernel_rfl) ?_
    refine (run0 (z := 2) 3 [0, 8, 9, 10, 5, 16] [(0, .pointer (some ⟨t, 0, none⟩)), (8, .slice (some ⟨sb, so, none⟩) wy.length cap), (9, .int .i64 (wy.length : Int)), (10, .int .i64 (u : Int)), (5, .pointer (some ⟨e.2, 0, none⟩)), (16, .pointer (some ⟨e.2, 6, none⟩))] (fun _ => by kernel_rfl) ?_ : RT _ _ _ _ _ _ 5 _)
    rw [show e.2 = g.b by rw [hgb]]
    refine (runR (H := (row wE 50 (.slice (some ⟨sb, so, none⟩) wy.length cap) wy :: blk t 57 [.map (some mb)] :: mapS mb (T1.map kp) :: (nodesL T1 ++ H))) (z := 0) 2 [0, 8, 9, 10, 5, 18] [(0, .pointer (some ⟨t, 0, none⟩)), (8, .slice (some ⟨sb, so, none⟩) wy.length cap), (9, .int .i64 (wy.length : Int)), (10, .int .i64 (u : Int)), (5, .pointer (some ⟨g.b, 0, none⟩)), (18, .bool (decide (g.n.now ≤ 16777216)))] [(⟨g.b, 6, none⟩, .int .i64 g.n.now)] (hasC (up (up (up (nodeAt (T := T1) hgm (j := 6) rfl)))) has0) (fun _ => by kernel_rfl) (endR ?_) : RT _ _ _ _ _ _ 2 _)
    refine condR (b := decide (g.n.now ≤ 16777216)) (by kernel_rfl) (fun _ => by kernel_rfl) (fun h2 => ?_) (fun h2 => ?_)
    · skip
      have hnb : ¬ 16777216 < g.n.now := by have := of_decide_eq_true h2; omega
      refine exitR 1 (by kernel_rfl) (by kernel_rfl) ?_
      refine thenX ?_
      refine leaveR ?_
      refine regionR 2 (by kernel_rfl) (by kernel_rfl) ?_
      refine (run0 (z := 0) 2 [0, 8, 9, 10] [(0, .pointer (some ⟨t, 0, none⟩)), (8, .slice (some ⟨sb, so, none⟩) wy.length cap), (9, .int .i64 (wy.length : Int)), (10, .int .i64 (IntKind.i64.wrap ((u : Int) + 1)))] (fun _ => by kernel_rfl) (endR ?_) : RT _ _ _ _ _ _ 2 _)
      rw [show IntKind.i64.wrap ((u : Int) + 1) = ((u + 1 : Nat) : Int) by rw [w64 (by omega) (by omega)]; rfl]
      refine PT.keep (L' := [(0, .pointer (some ⟨t, 0, none⟩)), (8, .slice (some ⟨sb, so, none⟩) wy.length cap), (9, .int .i64 (wy.length : Int)), (10, .int .i64 ((u + 1 : Nat) : Int))]) [0, 8, 9, 10] rfl ?_
      exact againG (k - 1) (T1, u + 1) rfl rfl (by omega) ⟨by simp only; omega, N1, hT1, hs1, hd1, hsm, by simp only; rw [hfold, hdrop, List.foldl_cons, ← hgid, shiftN_no hs1.nd hgN hnb]⟩
    · skip
      have hbig : 16777216 < g.n.now := by have := of_decide_eq_false h2; omega
      obtain ⟨hsh, hsq, hql, hgi, hT2, hsm2⟩ := shift_round hT1 hs1 hd1.lb hd1.pn hi hbig
      have hgn := hd1.now g.n hgN
      refine skipR (by kernel_rfl) ?_
      refine seqR (by kernel_rfl) ?_
      refine seqR (by kernel_rfl) ?_
      refine regionR 5 (by kernel_rfl) (by kernel_rfl) ?_
      refine (runR (H := (row wE 50 (.slice (some ⟨sb, so, none⟩) wy.length cap) wy :: blk t 57 [.map (some mb)] :: mapS mb (T1.map kp) :: (nodesL T1 ++ H))) (z := 1) 4 [0, 8, 9, 10, 5, 22] [(0, .pointer (some ⟨t, 0, none⟩)), (8, .slice (some ⟨sb, so, none⟩) wy.length cap), (9, .int .i64 (wy.length : Int)), (10, .int .i64 (u : Int)), (5, .pointer (some ⟨g.b, 0, none⟩)), (22, .map (some mb))] [(⟨t, 0, none⟩, .map (some mb))] (hasC (blkAt (T := 57) (cs := [.map (some mb)]) 1 rfl rfl) has0) (fun _ => by kernel_rfl) ?_ : RT _ _ _ _ _ _ 5 _)
      refine (RT.pick 2 rfl ?_ : RT _ _ _ (row wE 50 (.slice (some ⟨sb, so, none⟩) wy.length cap) wy :: blk t 57 [.map (some mb)] :: mapS mb (T1.map kp) :: (nodesL T1 ++ H)) _ _ 1 _)
      refine (stepR (z := 0) (rangeS 55 (.tmp 22) mb (T1.map kp) 3 50 (some 23) (fun _ => by kernel_rfl) (by kernel_rfl) (by kernel_rfl) (fun _ => by kernel_rfl) Tryz.underlying55) (fun it1 => ?_) : RT _ _ _ _ _ _ 1 _)
      refine endR ?_
      refine blockR 2 (by kernel_rfl) (by kernel_rfl) ?_
      refine PT.sat (H' := rngS it1 mb (T1.map kp) [] :: row wE 50 (.slice (some ⟨sb, so, none⟩) wy.length cap) wy :: blk t 57 [.map (some mb)] :: (nodesL (shD g.n.id g.n.now [] T1) ++ H)) (fun _ hs => by rw [shD_nil]; exact hs) ?_
      refine PT.keep (L' := [(0, .pointer (some ⟨t, 0, none⟩)), (5, .pointer (some ⟨g.b, 0, none⟩)), (8, .slice (some ⟨sb, so, none⟩) wy.length cap), (9, .int .i64 (wy.length : Int)), (10, .int .i64 (u : Int)), (23, .pointer (some ⟨it1, 0, none⟩))]) [0, 5, 8, 9, 10, 23] rfl ?_
      refine loopG (fun (dn : List Nat) => [(0, .pointer (some ⟨t, 0, none⟩)), (5, .pointer (some ⟨g.b, 0, none⟩)), (8, .slice (some ⟨sb, so, none⟩) wy.length cap), (9, .int .i64 (wy.length : Int)), (10, .int .i64 (u : Int)), (23, .pointer (some ⟨it1, 0, none⟩))]) (fun (dn : List Nat) => (rngS it1 mb (T1.map kp) dn :: row wE 50 (.slice (some ⟨sb, so, none⟩) wy.length cap) wy :: blk t 57 [.map (some mb)] :: (nodesL (shD g.n.id g.n.now dn T1) ++ H))) (fun k (dn : List Nat) => k + dn.length = T1.length ∧ dn.Nodup ∧ ∀ j ∈ dn, j < T1.length) T1.length [] (by kernel_rfl) ⟨rfl, List.nodup_nil, fun _ h => by cases h⟩ ?_
      rintro k2 dn ⟨hk2, hdnd, hdl⟩
      refine seqR (by kernel_rfl) ?_
      refine regionR 2 (by kernel_rfl) (by kernel_rfl) ?_
      refine nextR (z := 1) (.tmp 23) it1 mb (T1.map kp) dn (some 24) (fun _ => by kernel_rfl) (by kernel_rfl) (by kernel_rfl) (fun _ => by kernel_rfl) (fun h0  => ?_) (fun j kk vv hj hnj => ?_)
      · skip
        refine (run0 (z := 0) 1 [0, 5, 8, 9, 10, 23, 25] [(0, .pointer (some ⟨t, 0, none⟩)), (5, .pointer (some ⟨g.b, 0, none⟩)), (8, .slice (some ⟨sb, so, none⟩) wy.length cap), (9, .int .i64 (wy.length : Int)), (10, .int .i64 (u : Int)), (23, .pointer (some ⟨it1, 0, none⟩)), (25, .bool false)] (fun _ => by kernel_rfl) (endR ?_) : RT _ _ _ _ _ _ 1 _)
        refine seqR (by kernel_rfl) ?_
        refine condR (b := false) (by kernel_rfl) (fun _ => by kernel_rfl) (fun h => by cases h) (fun _ => ?_)
        refine exitR 2 (by kernel_rfl) (by kernel_rfl) ?_
        refine thenX ?_
        refine thenX ?_
        refine leaveR ?_
        refine seqR (by kernel_rfl) ?_
        refine PT.rngEnd ?_
        rw [shD_all (fun j hj' => h0 j (by simpa using hj'))]
        obtain ⟨R, hR, hR2⟩ := perm1 hgi
        refine PT.pick 0 rfl ?_
        refine PT.pick 2 rfl ?_
        refine PT.pick 2 rfl ?_
        refine PT.open1c (hR) ?_
        refine PT.pick 4 rfl ?_
        refine drawR (fun w => Sat w (row wE 50 (.slice (some ⟨sb, so, none⟩) wy.length cap) wy :: blk t 57 [.map (some mb)] :: mapS mb (T1.map kp) :: blk g.b 54 [.int .i64 g.n.id, .int .i64 g.n.par, .int .i64 g.n.wt, .int .i64 g.n.pass, .bool g.n.thr, .bool g.n.rdy, .int .i64 g.n.now, .pointer (some ⟨g.ib, 0, none⟩)] :: (nodesL R ++ H))) [] 9 (by kernel_rfl) (by kernel_rfl) (by kernel_rfl) (fun _ h => by first | exact h | exact h.tail | exact h.tail.tail | exact h.tail.tail.tail | exact h.tail.tail.tail.tail) ?_
        refine takesR [0, 1, 2, 3, 4, 5, 6, 7] [0, 5, 8, 9, 10, 58, 62] 1 [true, true, true, true, true, true, true, true, false] [(0, .pointer (some ⟨t, 0, none⟩)), (5, .pointer (some ⟨g.b, 0, none⟩)), (8, .slice (some ⟨sb, so, none⟩) wy.length cap), (9, .int .i64 (wy.length : Int)), (10, .int .i64 (u : Int)), (58, .pointer (some ⟨g.ib, 0, none⟩)), (62, .int .i64 g.n.now)] [(⟨g.b, 7, none⟩, .pointer (some ⟨g.ib, 0, none⟩)), (⟨g.b, 6, none⟩, .int .i64 g.n.now)] rfl (fun _ d _ _ _ h => by cases d <;> exact h) (fun _ h => by first | exact h | exact h.tail | exact h.tail.tail | exact h.tail.tail.tail | exact h.tail.tail.tail.tail) (hasC (blkAt (T := 54) (cs := [.int .i64 g.n.id, .int .i64 g.n.par, .int .i64 g.n.wt, .int .i64 g.n.pass, .bool g.n.thr, .bool g.n.rdy, .int .i64 g.n.now, .pointer (some ⟨g.ib, 0, none⟩)]) 3 rfl rfl) (hasC (blkAt (T := 54) (cs := [.int .i64 g.n.id, .int .i64 g.n.par, .int .i64 g.n.wt, .int .i64 g.n.pass, .bool g.n.thr, .bool g.n.rdy, .int .i64 g.n.now, .pointer (some ⟨g.ib, 0, none⟩)]) 3 rfl rfl) has0)) (fun _ => by kernel_rfl) ?_
        refine oneR 8 0 [true, true, true, true, true, true, true, true, true] rfl rfl (by kernel_rfl) (callS 39 [.pointer (some ⟨g.ib, 0, none⟩), .int .i64 g.n.now] (some 63) (fun _ => .tuple #[]) (fun _ => (idxS g.ib 60 (shQ g.q g.n.now) :: row wE 50 (.slice (some ⟨sb, so, none⟩) wy.length cap) wy :: blk t 57 [.map (some mb)] :: mapS mb (T1.map kp) :: blk g.b 54 [.int .i64 g.n.id, .int .i64 g.n.par, .int .i64 g.n.wt, .int .i64 g.n.pass, .bool g.n.thr, .bool g.n.rdy, .int .i64 g.n.now, .pointer (some ⟨g.ib, 0, none⟩)] :: (nodesL R ++ H))) (fun _ => by kernel_rfl) (shift_is hsh hsq hql _ _)) (fun _ _ h hn => by first | exact h | exact h.tail | exact h.tail.tail | exact h.tail.tail.tail | exact h.tail.tail.tail.tail | exact absurd hn (by decide)) (fun _ => ?_)
        refine drawnR (by kernel_rfl) ?_
        refine regionR 4 (by kernel_rfl) (by kernel_rfl) ?_
        refine (run0 (z := 1) 3 [0, 8, 9, 10, 66] [(0, .pointer (some ⟨t, 0, none⟩)), (8, .slice (some ⟨sb, so, none⟩) wy.length cap), (9, .int .i64 (wy.length : Int)), (10, .int .i64 (u : Int)), (66, .pointer (some ⟨g.b, 6, none⟩))] (fun _ => by kernel_rfl) ?_ : RT _ _ _ _ _ _ 4 _)
        refine (RT.pick 4 rfl ?_ : RT _ _ _ (idxS g.ib 60 (shQ g.q g.n.now) :: row wE 50 (.slice (some ⟨sb, so, none⟩) wy.length cap) wy :: blk t 57 [.map (some mb)] :: mapS mb (T1.map kp) :: blk g.b 54 [.int .i64 g.n.id, .int .i64 g.n.par, .int .i64 g.n.wt, .int .i64 g.n.pass, .bool g.n.thr, .bool g.n.rdy, .int .i64 g.n.now, .pointer (some ⟨g.ib, 0, none⟩)] :: (nodesL R ++ H)) _ _ 1 _)
        refine (stepR (z := 0) (storeS [(6, .int .i64 0)] [.int .i64 g.n.id, .int .i64 g.n.par, .int .i64 g.n.wt, .int .i64 g.n.pass, .bool g.n.thr, .bool g.n.rdy, .int .i64 0, .pointer (some ⟨g.ib, 0, none⟩)] (fun _ => by kernel_rfl) (by kernel_rfl) (by kernel_rfl)) (fun _ => ?_) : RT _ _ _ _ _ _ 1 _)
        refine endR ?_
        refine PT.pick 1 rfl ?_
        refine PT.pick 1 rfl ?_
        refine PT.pick 4 rfl ?_
        refine PT.pick 4 rfl ?_
        refine PT.pick 4 rfl ?_
        refine PT.close1c ({ g with n := nwF 0 g.n, q := shQ g.q g.n.now }) (hR2 _) ?_
        rw [← hsm2.kp]
        refine regionR 2 (by kernel_rfl) (by kernel_rfl) ?_
        refine (run0 (z := 0) 2 [0, 8, 9, 10] [(0, .pointer (some ⟨t, 0, none⟩)), (8, .slice (some ⟨sb, so, none⟩) wy.length cap), (9, .int .i64 (wy.length : Int)), (10, .int .i64 (IntKind.i64.wrap ((u : Int) + 1)))] (fun _ => by kernel_rfl) (endR ?_) : RT _ _ _ _ _ _ 2 _)
        rw [show IntKind.i64.wrap ((u : Int) + 1) = ((u + 1 : Nat) : Int) by rw [w64 (by omega) (by omega)]; rfl]
        refine PT.keep (L' := [(0, .pointer (some ⟨t, 0, none⟩)), (8, .slice (some ⟨sb, so, none⟩) wy.length cap), (9, .int .i64 (wy.length : Int)), (10, .int .i64 ((u + 1 : Nat) : Int))]) [0, 8, 9, 10] rfl ?_
        exact againG (k - 1) (_, u + 1) rfl rfl (by omega) ⟨by simp only; omega, _, hT2, hs1.shift hgN, hd1.shift hs1 hgN, hsm.trans hsm2, by simp only; rw [hfold, hdrop, List.foldl_cons, ← hgid]⟩
      · skip
        obtain ⟨z, hz, rfl, rfl⟩ := kp_at hj
        have hzD : (shD g.n.id g.n.now dn T1)[j]? = some z := by rw [shD_at, hz]; simp [hnj]
        have hgD : (shD g.n.id g.n.now dn T1)[i]? = some g := by rw [shD_at, hi, Option.map_some, shT_no (fun e => hs1.ne_par hgN e.symm)]; simp
        have hl2 := nodup_len (l := dn ++ [j]) (n := T1.length) (List.nodup_append.2 ⟨hdnd, by simp, by intro a ha b hb; simp at hb; subst hb; exact fun e => hnj (e ▸ ha)⟩) (by intro a ha; rcases List.mem_append.1 ha with ha | ha; exact hdl a ha; (simp at ha; subst ha; exact (List.getElem?_eq_some_iff.1 hz).1))
        rw [List.length_append, List.length_singleton] at hl2
        refine (run0 (z := 0) 1 [0, 5, 8, 9, 10, 23, 25] [(0, .pointer (some ⟨t, 0, none⟩)), (5, .pointer (some ⟨g.b, 0, none⟩)), (8, .slice (some ⟨sb, so, none⟩) wy.length cap), (9, .int .i64 (wy.length : Int)), (10, .int .i64 (u : Int)), (23, .pointer (some ⟨it1, 0, none⟩)), (25, .bool true)] (fun _ => by kernel_rfl) (endR ?_) : RT _ _ _ _ _ _ 1 _)
        refine seqR (by kernel_rfl) ?_
        refine condR (b := true) (by kernel_rfl) (fun _ => by kernel_rfl) (fun _ => ?_) (fun h => by cases h)
        refine skipR (by kernel_rfl) ?_
        refine blockR 3 (by kernel_rfl) (by kernel_rfl) ?_
        refine seqR (by kernel_rfl) ?_
        refine regionR 3 (by kernel_rfl) (by kernel_rfl) ?_
        refine (stepR (z := 2) (yldS (entryY (H := (rngS it1 mb (T1.map kp) (dn ++ [j]) :: row wE 50 (.slice (some ⟨sb, so, none⟩) wy.length cap) wy :: blk t 57 [.map (some mb)] :: (nodesL (shD g.n.id g.n.now dn T1) ++ H))) (.tmp 23) it1 mb (T1.map kp) dn j z.n.id (.pointer (some ⟨z.b, 0, none⟩)) 0 (some 26) (fun _ => by kernel_rfl) (by kernel_rfl) (by kernel_rfl) (fun _ => by kernel_rfl) rfl hj)) (fun _ => ?_) : RT _ _ _ _ _ _ 3 _)
        refine (run0 (z := 0) 2 [0, 5, 8, 9, 10, 23, 7] [(0, .pointer (some ⟨t, 0, none⟩)), (5, .pointer (some ⟨g.b, 0, none⟩)), (8, .slice (some ⟨sb, so, none⟩) wy.length cap), (9, .int .i64 (wy.length : Int)), (10, .int .i64 (u : Int)), (23, .pointer (some ⟨it1, 0, none⟩)), (7, .pointer (some ⟨z.b, 0, none⟩))] (fun _ => by kernel_rfl) (endR ?_) : RT _ _ _ _ _ _ 2 _)
        refine seqR (by kernel_rfl) ?_
        refine drawR (fun w => Sat w (rngS it1 mb (T1.map kp) (dn ++ [j]) :: row wE 50 (.slice (some ⟨sb, so, none⟩) wy.length cap) wy :: blk t 57 [.map (some mb)] :: (nodesL (shD g.n.id g.n.now dn T1) ++ H))) [] 11 (by kernel_rfl) (by kernel_rfl) (by kernel_rfl) (fun _ h => by first | exact h | exact h.tail | exact h.tail.tail | exact h.tail.tail.tail | exact h.tail.tail.tail.tail) ?_
        refine takesR [0, 1, 2, 3, 4, 5, 6, 7, 8, 9, 10] [0, 5, 8, 9, 10, 23, 7, 38] 0 [true, true, true, true, true, true, true, true, true, true, true] [(0, .pointer (some ⟨t, 0, none⟩)), (5, .pointer (some ⟨g.b, 0, none⟩)), (8, .slice (some ⟨sb, so, none⟩) wy.length cap), (9, .int .i64 (wy.length : Int)), (10, .int .i64 (u : Int)), (23, .pointer (some ⟨it1, 0, none⟩)), (7, .pointer (some ⟨z.b, 0, none⟩)), (38, .bool (z.n.par == g.n.id))] [(⟨z.b, 1, none⟩, .int .i64 z.n.par), (⟨g.b, 0, none⟩, .int .i64 g.n.id)] rfl (fun _ d _ _ _ h => by cases d <;> exact h) (fun _ h => by first | exact h | exact h.tail | exact h.tail.tail | exact h.tail.tail.tail | exact h.tail.tail.tail.tail) (hasC (up (up (up (nodeAt (T := shD g.n.id g.n.now dn T1) (List.mem_of_getElem? hzD) (j := 1) rfl)))) (hasC (up (up (up (nodeAt (T := shD g.n.id g.n.now dn T1) (List.mem_of_getElem? hgD) (j := 0) rfl)))) has0)) (fun _ => by kernel_rfl) ?_
        refine drawnR (by kernel_rfl) ?_
        refine condR (b := z.n.par == g.n.id) (by kernel_rfl) (fun _ => by kernel_rfl) (fun h3 => ?_) (fun h3 => ?_)
        · skip
          have hpar : z.n.par = g.n.id := by simpa using h3
          have hzN := hT1.mem_n (List.mem_of_getElem? hz)
          have hzp := hd1.pass z.n hzN
          obtain ⟨R, hR, hR2⟩ := perm1 hzD
          have hgR : g ∈ R := by rcases List.mem_cons.1 (hR.mem_iff.1 (List.mem_of_getElem? hgD)) with e | e; (subst e; exact absurd hpar.symm (hs1.ne_par hzN)); exact e
          have hz' : shT g.n.id g.n.now z = { z with n := { z.n with pass := mxI 0 (z.n.pass - g.n.now) } } := by unfold shT shG; rw [if_pos (by simpa using hpar)]
          have hR3 : (shD g.n.id g.n.now (dn ++ [j]) T1).Perm ({ z with n := { z.n with pass := mxI 0 (z.n.pass - g.n.now) } } :: R) := by rw [← shD_set hz, hz']; exact hR2 _
          refine PT.open1c (hR) ?_
          refine drawR (fun w => Sat w (rngS it1 mb (T1.map kp) (dn ++ [j]) :: row wE 50 (.slice (some ⟨sb, so, none⟩) wy.length cap) wy :: blk t 57 [.map (some mb)] :: blk z.b 54 [.int .i64 z.n.id, .int .i64 z.n.par, .int .i64 z.n.wt, .int .i64 z.n.pass, .bool z.n.thr, .bool z.n.rdy, .int .i64 z.n.now, .pointer (some ⟨z.ib, 0, none⟩)] :: idxS z.ib 60 z.q :: (nodesL R ++ H))) [16] 17 (by kernel_rfl) (by kernel_rfl) (by kernel_rfl) (fun _ h => by first | exact h | exact h.tail | exact h.tail.tail | exact h.tail.tail.tail | exact h.tail.tail.tail.tail) ?_
          refine takesR [0, 1, 2, 3, 4, 5, 6, 7, 8, 9, 10] [0, 5, 8, 9, 10, 23, 39, 49] 6 [true, true, true, true, true, true, true, true, true, true, true, false, false, false, false, false, false] [(0, .pointer (some ⟨t, 0, none⟩)), (5, .pointer (some ⟨g.b, 0, none⟩)), (8, .slice (some ⟨sb, so, none⟩) wy.length cap), (9, .int .i64 (wy.length : Int)), (10, .int .i64 (u : Int)), (23, .pointer (some ⟨it1, 0, none⟩)), (39, .pointer (some ⟨z.b, 0, none⟩)), (49, .int .i64 (IntKind.i64.wrap (z.n.pass - g.n.now)))] [(⟨z.b, 3, none⟩, .int .i64 z.n.pass), (⟨g.b, 6, none⟩, .int .i64 g.n.now)] rfl (fun _ d _ _ _ h => by cases d <;> exact h) (fun _ h => by first | exact h | exact h.tail | exact h.tail.tail | exact h.tail.tail.tail | exact h.tail.tail.tail.tail) (hasC (blkAt (T := 54) (cs := [.int .i64 z.n.id, .int .i64 z.n.par, .int .i64 z.n.wt, .int .i64 z.n.pass, .bool z.n.thr, .bool z.n.rdy, .int .i64 z.n.now, .pointer (some ⟨z.ib, 0, none⟩)]) 3 rfl rfl) (hasC (up (up (up (up (up (nodeAt (T := R) hgR (j := 6) rfl)))))) has0)) (fun _ => by kernel_rfl) ?_
          refine oneR 11 5 [true, true, true, true, true, true, true, true, true, true, true, true, false, false, false, false, false] rfl rfl (by kernel_rfl) (callS 33 [.int .i64 0, .int .i64 (IntKind.i64.wrap (z.n.pass - g.n.now))] (some 50) (fun _ => .complex .f64 (floatOfInt .f64 0) (floatOfInt .f64 (IntKind.i64.wrap (z.n.pass - g.n.now)))) (fun (_ : Unit) => (rngS it1 mb (T1.map kp) (dn ++ [j]) :: row wE 50 (.slice (some ⟨sb, so, none⟩) wy.length cap) wy :: blk t 57 [.map (some mb)] :: blk z.b 54 [.int .i64 z.n.id, .int .i64 z.n.par, .int .i64 z.n.wt, .int .i64 z.n.pass, .bool z.n.thr, .bool z.n.rdy, .int .i64 z.n.now, .pointer (some ⟨z.ib, 0, none⟩)] :: idxS z.ib 60 z.q :: (nodesL R ++ H))) (fun _ => by kernel_rfl) (pair_walk _ 0 (IntKind.i64.wrap (z.n.pass - g.n.now)))) (fun _ _ h hn => by first | exact h | exact h.tail | exact h.tail.tail | exact h.tail.tail.tail | exact h.tail.tail.tail.tail | exact absurd hn (by decide)) (fun _ => ?_)
          rw [show IntKind.i64.wrap (z.n.pass - g.n.now) = (z.n.pass - g.n.now) by rw [w64 (by omega) (by omega)]]
          refine oneR 12 4 [true, true, true, true, true, true, true, true, true, true, true, true, true, false, false, false, false] rfl rfl (by kernel_rfl) (callS 32 [.complex .f64 (floatOfInt .f64 0) (floatOfInt .f64 (z.n.pass - g.n.now))] (some 51) (fun _ => .int .i64 (mxI 0 (z.n.pass - g.n.now))) (fun _ => (rngS it1 mb (T1.map kp) (dn ++ [j]) :: row wE 50 (.slice (some ⟨sb, so, none⟩) wy.length cap) wy :: blk t 57 [.map (some mb)] :: blk z.b 54 [.int .i64 z.n.id, .int .i64 z.n.par, .int .i64 z.n.wt, .int .i64 z.n.pass, .bool z.n.thr, .bool z.n.rdy, .int .i64 z.n.now, .pointer (some ⟨z.ib, 0, none⟩)] :: idxS z.ib 60 z.q :: (nodesL R ++ H))) (fun _ => by kernel_rfl) (later_walk _ 0 (z.n.pass - g.n.now) (by decide) (by omega))) (fun _ _ h hn => by first | exact h | exact h.tail | exact h.tail.tail | exact h.tail.tail.tail | exact h.tail.tail.tail.tail | exact absurd hn (by decide)) (fun _ => ?_)
          refine takesR [13, 14, 15] [51, 0, 5, 8, 9, 10, 23, 54] 1 [true, true, true, true, true, true, true, true, true, true, true, true, true, true, true, true, false] [(51, .int .i64 (mxI 0 (z.n.pass - g.n.now))), (0, .pointer (some ⟨t, 0, none⟩)), (5, .pointer (some ⟨g.b, 0, none⟩)), (8, .slice (some ⟨sb, so, none⟩) wy.length cap), (9, .int .i64 (wy.length : Int)), (10, .int .i64 (u : Int)), (23, .pointer (some ⟨it1, 0, none⟩)), (54, .pointer (some ⟨z.b, 3, none⟩))] [] rfl (fun _ d _ _ _ h => by cases d <;> exact h) (fun _ h => by first | exact h | exact h.tail | exact h.tail.tail | exact h.tail.tail.tail | exact h.tail.tail.tail.tail) has0 (fun _ => by kernel_rfl) ?_
          refine DT.pick 3 rfl ?_
          refine oneR 16 0 [true, true, true, true, true, true, true, true, true, true, true, true, true, true, true, true, true] rfl rfl (by kernel_rfl) (storeS [(3, .int .i64 (mxI 0 (z.n.pass - g.n.now)))] [.int .i64 z.n.id, .int .i64 z.n.par, .int .i64 z.n.wt, .int .i64 (mxI 0 (z.n.pass - g.n.now)), .bool z.n.thr, .bool z.n.rdy, .int .i64 z.n.now, .pointer (some ⟨z.ib, 0, none⟩)] (fun _ => by kernel_rfl) (by kernel_rfl) (by kernel_rfl)) (fun _ _ h hn => by first | exact h | exact h.tail | exact h.tail.tail | exact h.tail.tail.tail | exact h.tail.tail.tail.tail | exact absurd hn (by decide)) (fun _ => ?_)
          refine drawnR (by kernel_rfl) ?_
          refine PT.pick 0 rfl ?_
          refine PT.pick 3 rfl ?_
          refine PT.pick 3 rfl ?_
          refine PT.pick 3 rfl ?_
          refine PT.close1c ({ z with n := { z.n with pass := mxI 0 (z.n.pass - g.n.now) } }) (hR3) ?_
          refine PT.keep (L' := [(0, .pointer (some ⟨t, 0, none⟩)), (5, .pointer (some ⟨g.b, 0, none⟩)), (8, .slice (some ⟨sb, so, none⟩) wy.length cap), (9, .int .i64 (wy.length : Int)), (10, .int .i64 (u : Int)), (23, .pointer (some ⟨it1, 0, none⟩))]) [0, 5, 8, 9, 10, 23] rfl ?_
          exact againG (k2 - 1) (dn ++ [j]) rfl rfl (by omega) ⟨by rw [List.length_append, List.length_singleton]; omega, List.nodup_append.2 ⟨hdnd, by simp, by intro a ha b hb; simp at hb; subst hb; exact fun e => hnj (e ▸ ha)⟩, by intro a ha; rcases List.mem_append.1 ha with ha | ha; exact hdl a ha; (simp at ha; subst ha; exact (List.getElem?_eq_some_iff.1 hz).1)⟩
        · skip
          have hpar : z.n.par ≠ g.n.id := by simpa using h3
          refine skipR (by kernel_rfl) ?_
          rw [← shD_skip hz hpar]
          refine PT.keep (L' := [(0, .pointer (some ⟨t, 0, none⟩)), (5, .pointer (some ⟨g.b, 0, none⟩)), (8, .slice (some ⟨sb, so, none⟩) wy.length cap), (9, .int .i64 (wy.length : Int)), (10, .int .i64 (u : Int)), (23, .pointer (some ⟨it1, 0, none⟩))]) [0, 5, 8, 9, 10, 23] rfl ?_
          exact againG (k2 - 1) (dn ++ [j]) rfl rfl (by omega) ⟨by rw [List.length_append, List.length_singleton]; omega, List.nodup_append.2 ⟨hdnd, by simp, by intro a ha b hb; simp at hb; subst hb; exact fun e => hnj (e ▸ ha)⟩, by intro a ha; rcases List.mem_append.1 ha with ha | ha; exact hdl a ha; (simp at ha; subst ha; exact (List.getElem?_eq_some_iff.1 hz).1)⟩
  · skip
    have hu : ¬ u < wy.length := by have := of_decide_eq_false h1; omega
    refine exitR 0 (by kernel_rfl) (by kernel_rfl) ?_
    refine thenX ?_
    refine thenX ?_
    refine leaveR ?_
    refine done0 (.tuple #[]) (fun _ => by kernel_rfl) (fun w hs => ?_) .normal (.inl rfl)
    exact ⟨⟨T1, by rw [hfold, List.drop_eq_nil_of_le (by omega)]; exact hT1, hsm⟩, rfl, hs⟩
end Go.Proofs.YtjbjngikaiggdaaGreat
