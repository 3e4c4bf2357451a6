/- tree: wakes. Conditions: none. -/
import Derived.Test.YtjbjngikaiggdaaGreatTr
set_option linter.unusedVariables false
set_option linter.unusedSimpArgs false
namespace Go.Proofs.YtjbjngikaiggdaaGreat
open Go.RowKit G
set_option maxRecDepth 100000 in
theorem wakes_walk {N : List Nr} {T : List Nd} (hT : OkT N T) (hsk : SK N) (hlb : LB N) {i0 : Nat} {x : Nd} (hx : T[i0]? = some x) (H : List SP) (t mb : Nat) : ∀ w, Sat w (blk t 57 [.map (some mb)] :: mapS mb (T.map kp) :: (nodesL T ++ H)) → Calls Tryz.prog 19 #[.pointer (some ⟨t, 0, none⟩), .pointer (some ⟨x.b, 0, none⟩)] w (Ret (ι := { T' : List Nd // OkT (wakeN 6 N x.n.id) T' ∧ SameT T T' }) (fun _ => .tuple #[]) fun T' => blk t 57 [.map (some mb)] :: mapS mb (T'.1.map kp) :: (nodesL T'.1 ++ H)) := by
  obtain ⟨rk, hrk⟩ := hsk.rk
  refine enterG (fn := Tryz.f19) 58 [.pointer (some ⟨t, 0, none⟩), .pointer (some ⟨x.b, 0, none⟩)] Tryz.func19 (by kernel_rfl) (by kernel_rfl) (by kernel_rfl) ?_
  refine scopeG 0 (fun (s : List Nd × Nd) => [(0, .pointer (some ⟨t, 0, none⟩)), (1, .pointer (some ⟨s.2.b, 0, none⟩))]) (fun (s : List Nd × Nd) => (blk t 57 [.map (some mb)] :: mapS mb (s.1.map kp) :: (nodesL s.1 ++ H))) (fun k (s : List Nd × Nd) => Climb wakeN N x.n.id T rk k s.1 s.2) (by kernel_rfl) (by kernel_rfl) (by kernel_rfl) (by kernel_rfl) ?_ ?_
  · skip
    rintro k ⟨T1, x1⟩ hC K hK
    obtain ⟨⟨N1, hT1, hs1, hb1, hr1, he⟩, hsame, ⟨i, hi⟩, hle⟩ := hC
    simp only at hT1 hsame hi hle he
    have hm := List.mem_of_getElem? hi
    have hnd := hs1.nd
    have hpos := hr1.pos (hT1.mem_n hm)
    obtain ⟨k, rfl⟩ : ∃ k', k = k' + 1 := ⟨k - 1, by omega⟩
    have hgx := hT1.at hnd hi
    refine seqR (by kernel_rfl) ?_
    refine seqR (by kernel_rfl) ?_
    refine regionR 5 (by kernel_rfl) (by kernel_rfl) ?_
    refine (runR (H := (blk t 57 [.map (some mb)] :: mapS mb (T1.map kp) :: (nodesL T1 ++ H))) (z := 0) 5 [0, 1, 9] [(0, .pointer (some ⟨t, 0, none⟩)), (1, .pointer (some ⟨x1.b, 0, none⟩)), (9, .bool x1.n.rdy)] [(⟨x1.b, 5, none⟩, .bool x1.n.rdy)] (hasC (up (up (nodeAt (T := T1) hm (j := 5) rfl))) has0) (fun _ => by kernel_rfl) (endR ?_) : RT _ _ _ _ _ _ 5 _)
    refine condR (b := x1.n.rdy) (by kernel_rfl) (fun _ => by kernel_rfl) (fun h1 => ?_) (fun h1 => ?_)
    · skip
      refine retR (by kernel_rfl) ?_
      refine thenV ?_
      refine jumpV ?_
      refine done0 (.tuple #[]) (fun _ => by kernel_rfl) (fun w hs => ?_) .ret (.inr rfl)
      exact ⟨⟨T1, by rw [he, wakeN, hgx]; simp only [h1, if_true]; exact hT1, hsame⟩, rfl, hs⟩
    · skip
      cases hg : gt N1 x1.n.par with
      | none =>
        obtain ⟨R, hR, hR2⟩ := perm1 hi
        refine PT.open1 (hR) ?_
        refine skipR (by kernel_rfl) ?_
        refine seqR (by kernel_rfl) ?_
        refine regionR 5 (by kernel_rfl) (by kernel_rfl) ?_
        refine (run0 (z := 1) 4 [0, 1, 13] [(0, .pointer (some ⟨t, 0, none⟩)), (1, .pointer (some ⟨x1.b, 0, none⟩)), (13, .pointer (some ⟨x1.b, 5, none⟩))] (fun _ => by kernel_rfl) ?_ : RT _ _ _ _ _ _ 5 _)
        refine (RT.pick 2 rfl ?_ : RT _ _ _ (blk t 57 [.map (some mb)] :: mapS mb (T1.map kp) :: blk x1.b 54 [.int .i64 x1.n.id, .int .i64 x1.n.par, .int .i64 x1.n.wt, .int .i64 x1.n.pass, .bool x1.n.thr, .bool x1.n.rdy, .int .i64 x1.n.now, .pointer (some ⟨x1.ib, 0, none⟩)] :: idxS x1.ib 60 x1.q :: (nodesL R ++ H)) _ _ 1 _)
        refine (stepR (z := 0) (storeS [(5, .bool true)] [.int .i64 x1.n.id, .int .i64 x1.n.par, .int .i64 x1.n.wt, .int .i64 x1.n.pass, .bool x1.n.thr, .bool true, .int .i64 x1.n.now, .pointer (some ⟨x1.ib, 0, none⟩)] (fun _ => by kernel_rfl) (by kernel_rfl) (by kernel_rfl)) (fun _ => ?_) : RT _ _ _ _ _ _ 1 _)
        refine endR ?_
        refine seqR (by kernel_rfl) ?_
        refine drawR (fun w => Sat w (blk x1.b 54 [.int .i64 x1.n.id, .int .i64 x1.n.par, .int .i64 x1.n.wt, .int .i64 x1.n.pass, .bool x1.n.thr, .bool true, .int .i64 x1.n.now, .pointer (some ⟨x1.ib, 0, none⟩)] :: blk t 57 [.map (some mb)] :: mapS mb (T1.map kp) :: idxS x1.ib 60 x1.q :: (nodesL R ++ H))) [] 11 (by kernel_rfl) (by kernel_rfl) (by kernel_rfl) (fun _ h => by first | exact h | exact h.tail | exact h.tail.tail | exact h.tail.tail.tail | exact h.tail.tail.tail.tail) ?_
        refine takesR [0, 1, 2, 3, 4, 5, 6, 7, 8] [0, 1, 17, 22] 2 [true, true, true, true, true, true, true, true, true, false, false] [(0, .pointer (some ⟨t, 0, none⟩)), (1, .pointer (some ⟨x1.b, 0, none⟩)), (17, .map (some mb)), (22, .int .i64 x1.n.par)] [(⟨t, 0, none⟩, .map (some mb)), (⟨x1.b, 1, none⟩, .int .i64 x1.n.par)] rfl (fun _ d _ _ _ h => by cases d <;> exact h) (fun _ h => by first | exact h | exact h.tail | exact h.tail.tail | exact h.tail.tail.tail | exact h.tail.tail.tail.tail) (hasC (blkAt (T := 57) (cs := [.map (some mb)]) 1 rfl rfl) (hasC (blkAt (T := 54) (cs := [.int .i64 x1.n.id, .int .i64 x1.n.par, .int .i64 x1.n.wt, .int .i64 x1.n.pass, .bool x1.n.thr, .bool true, .int .i64 x1.n.now, .pointer (some ⟨x1.ib, 0, none⟩)]) 0 rfl rfl) has0)) (fun _ => by kernel_rfl) ?_
        refine takeR1 9 1 [true, true, true, true, true, true, true, true, true, true, false] rfl rfl (by kernel_rfl) (fun _ d _ _ _ h => by cases d <;> exact h) (fun _ h => by first | exact h | exact h.tail | exact h.tail.tail | exact h.tail.tail.tail | exact h.tail.tail.tail.tail) (lookY 55 (.tmp 17) (.tmp 22) false mb x1.n.par (T1.map kp) (.pointer none) (.pointer none) 3 50 (some 23) (fun _ => by kernel_rfl) (by kernel_rfl) (by kernel_rfl) (fun _ => by kernel_rfl) (fun _ => by kernel_rfl) Tryz.underlying55 (by kernel_rfl) (fun _ => by kernel_rfl) (mapAt (H := (blk x1.b 54 [.int .i64 x1.n.id, .int .i64 x1.n.par, .int .i64 x1.n.wt, .int .i64 x1.n.pass, .bool x1.n.thr, .bool true, .int .i64 x1.n.now, .pointer (some ⟨x1.ib, 0, none⟩)] :: blk t 57 [.map (some mb)] :: mapS mb (T1.map kp) :: idxS x1.ib 60 x1.q :: (nodesL R ++ H))) (i := 2) rfl) (by rw [lk_none hT1 hg]; rfl)) ?_
        refine takesR [10] [0, 1, 4] 0 [true, true, true, true, true, true, true, true, true, true, true] [(0, .pointer (some ⟨t, 0, none⟩)), (1, .pointer (some ⟨x1.b, 0, none⟩)), (4, .pointer none)] [] rfl (fun _ d _ _ _ h => by cases d <;> exact h) (fun _ h => by first | exact h | exact h.tail | exact h.tail.tail | exact h.tail.tail.tail | exact h.tail.tail.tail.tail) has0 (fun _ => by kernel_rfl) ?_
        refine drawnR (by kernel_rfl) ?_
        refine seqR (by kernel_rfl) ?_
        refine seqR (by kernel_rfl) ?_
        refine regionR 2 (by kernel_rfl) (by kernel_rfl) ?_
        refine (run0 (z := 0) 2 [0, 1, 4, 25] [(0, .pointer (some ⟨t, 0, none⟩)), (1, .pointer (some ⟨x1.b, 0, none⟩)), (4, .pointer none), (25, .bool true)] (fun _ => by kernel_rfl) (endR ?_) : RT _ _ _ _ _ _ 2 _)
        refine condR (b := true) (by kernel_rfl) (fun _ => by kernel_rfl) (fun _ => ?_) (fun h => by cases h)
        refine retR (by kernel_rfl) ?_
        refine thenV ?_
        refine jumpV ?_
        refine PT.pick 0 rfl ?_
        refine PT.pick 2 rfl ?_
        refine PT.pick 2 rfl ?_
        refine PT.close1 ({ x1 with n := { x1.n with rdy := true } }) (hR2 _) ?_
        have hsm : SameT T1 (T1.set i { x1 with n := { x1.n with rdy := true } }) := SameT.set hi ⟨rfl, rfl, rfl⟩
        rw [← hsm.kp]
        refine done0 (.tuple #[]) (fun _ => by kernel_rfl) (fun w hs => ?_) .ret (.inr rfl)
        exact ⟨⟨_, by rw [he, wakeN, hgx]; simp only [h1, hg, Bool.false_eq_true, if_false]; exact hT1.one hnd hi (f := fun x => { x with rdy := true }) ⟨fun _ => rfl, fun _ => rfl, fun _ => rfl⟩ (.inl (gt_none.1 hg)), hsame.trans hsm⟩, rfl, hs⟩
      | some y =>
        obtain ⟨j, p, hj, hpn, hpk⟩ := hT1.get hg
        obtain ⟨hij, hput, hql, hqs, hf1, hf2, hT2, hsm, hs2, hb2⟩ := wake_round hT1 hs1 hb1 hi hj hpk h1
        obtain ⟨R, hR, hR2⟩ := perm2 hi hj hij
        refine PT.open2 (hR) ?_
        refine skipR (by kernel_rfl) ?_
        refine seqR (by kernel_rfl) ?_
        refine regionR 5 (by kernel_rfl) (by kernel_rfl) ?_
        refine (run0 (z := 1) 4 [0, 1, 13] [(0, .pointer (some ⟨t, 0, none⟩)), (1, .pointer (some ⟨x1.b, 0, none⟩)), (13, .pointer (some ⟨x1.b, 5, none⟩))] (fun _ => by kernel_rfl) ?_ : RT _ _ _ _ _ _ 5 _)
        refine (RT.pick 2 rfl ?_ : RT _ _ _ (blk t 57 [.map (some mb)] :: mapS mb (T1.map kp) :: blk x1.b 54 [.int .i64 x1.n.id, .int .i64 x1.n.par, .int .i64 x1.n.wt, .int .i64 x1.n.pass, .bool x1.n.thr, .bool x1.n.rdy, .int .i64 x1.n.now, .pointer (some ⟨x1.ib, 0, none⟩)] :: idxS x1.ib 60 x1.q :: blk p.b 54 [.int .i64 p.n.id, .int .i64 p.n.par, .int .i64 p.n.wt, .int .i64 p.n.pass, .bool p.n.thr, .bool p.n.rdy, .int .i64 p.n.now, .pointer (some ⟨p.ib, 0, none⟩)] :: idxS p.ib 60 p.q :: (nodesL R ++ H)) _ _ 1 _)
        refine (stepR (z := 0) (storeS [(5, .bool true)] [.int .i64 x1.n.id, .int .i64 x1.n.par, .int .i64 x1.n.wt, .int .i64 x1.n.pass, .bool x1.n.thr, .bool true, .int .i64 x1.n.now, .pointer (some ⟨x1.ib, 0, none⟩)] (fun _ => by kernel_rfl) (by kernel_rfl) (by kernel_rfl)) (fun _ => ?_) : RT _ _ _ _ _ _ 1 _)
        refine endR ?_
        refine seqR (by kernel_rfl) ?_
        refine drawR (fun w => Sat w (blk x1.b 54 [.int .i64 x1.n.id, .int .i64 x1.n.par, .int .i64 x1.n.wt, .int .i64 x1.n.pass, .bool x1.n.thr, .bool true, .int .i64 x1.n.now, .pointer (some ⟨x1.ib, 0, none⟩)] :: blk t 57 [.map (some mb)] :: mapS mb (T1.map kp) :: idxS x1.ib 60 x1.q :: blk p.b 54 [.int .i64 p.n.id, .int .i64 p.n.par, .int .i64 p.n.wt, .int .i64 p.n.pass, .bool p.n.thr, .bool p.n.rdy, .int .i64 p.n.now, .pointer (some ⟨p.ib, 0, none⟩)] :: idxS p.ib 60 p.q :: (nodesL R ++ H))) [] 11 (by kernel_rfl) (by kernel_rfl) (by kernel_rfl) (fun _ h => by first | exact h | exact h.tail | exact h.tail.tail | exact h.tail.tail.tail | exact h.tail.tail.tail.tail) ?_
        refine takesR [0, 1, 2, 3, 4, 5, 6, 7, 8] [0, 1, 17, 22] 2 [true, true, true, true, true, true, true, true, true, false, false] [(0, .pointer (some ⟨t, 0, none⟩)), (1, .pointer (some ⟨x1.b, 0, none⟩)), (17, .map (some mb)), (22, .int .i64 x1.n.par)] [(⟨t, 0, none⟩, .map (some mb)), (⟨x1.b, 1, none⟩, .int .i64 x1.n.par)] rfl (fun _ d _ _ _ h => by cases d <;> exact h) (fun _ h => by first | exact h | exact h.tail | exact h.tail.tail | exact h.tail.tail.tail | exact h.tail.tail.tail.tail) (hasC (blkAt (T := 57) (cs := [.map (some mb)]) 1 rfl rfl) (hasC (blkAt (T := 54) (cs := [.int .i64 x1.n.id, .int .i64 x1.n.par, .int .i64 x1.n.wt, .int .i64 x1.n.pass, .bool x1.n.thr, .bool true, .int .i64 x1.n.now, .pointer (some ⟨x1.ib, 0, none⟩)]) 0 rfl rfl) has0)) (fun _ => by kernel_rfl) ?_
        refine takeR1 9 1 [true, true, true, true, true, true, true, true, true, true, false] rfl rfl (by kernel_rfl) (fun _ d _ _ _ h => by cases d <;> exact h) (fun _ h => by first | exact h | exact h.tail | exact h.tail.tail | exact h.tail.tail.tail | exact h.tail.tail.tail.tail) (lookY 55 (.tmp 17) (.tmp 22) false mb x1.n.par (T1.map kp) (.pointer none) (.pointer (some ⟨p.b, 0, none⟩)) 3 50 (some 23) (fun _ => by kernel_rfl) (by kernel_rfl) (by kernel_rfl) (fun _ => by kernel_rfl) (fun _ => by kernel_rfl) Tryz.underlying55 (by kernel_rfl) (fun _ => by kernel_rfl) (mapAt (H := (blk x1.b 54 [.int .i64 x1.n.id, .int .i64 x1.n.par, .int .i64 x1.n.wt, .int .i64 x1.n.pass, .bool x1.n.thr, .bool true, .int .i64 x1.n.now, .pointer (some ⟨x1.ib, 0, none⟩)] :: blk t 57 [.map (some mb)] :: mapS mb (T1.map kp) :: idxS x1.ib 60 x1.q :: blk p.b 54 [.int .i64 p.n.id, .int .i64 p.n.par, .int .i64 p.n.wt, .int .i64 p.n.pass, .bool p.n.thr, .bool p.n.rdy, .int .i64 p.n.now, .pointer (some ⟨p.ib, 0, none⟩)] :: idxS p.ib 60 p.q :: (nodesL R ++ H))) (i := 2) rfl) (by rw [lk_some hT1 hnd hj hpk]; rfl)) ?_
        refine takesR [10] [0, 1, 4] 0 [true, true, true, true, true, true, true, true, true, true, true] [(0, .pointer (some ⟨t, 0, none⟩)), (1, .pointer (some ⟨x1.b, 0, none⟩)), (4, .pointer (some ⟨p.b, 0, none⟩))] [] rfl (fun _ d _ _ _ h => by cases d <;> exact h) (fun _ h => by first | exact h | exact h.tail | exact h.tail.tail | exact h.tail.tail.tail | exact h.tail.tail.tail.tail) has0 (fun _ => by kernel_rfl) ?_
        refine drawnR (by kernel_rfl) ?_
        refine seqR (by kernel_rfl) ?_
        refine seqR (by kernel_rfl) ?_
        refine regionR 2 (by kernel_rfl) (by kernel_rfl) ?_
        refine (run0 (z := 0) 2 [0, 1, 4, 25] [(0, .pointer (some ⟨t, 0, none⟩)), (1, .pointer (some ⟨x1.b, 0, none⟩)), (4, .pointer (some ⟨p.b, 0, none⟩)), (25, .bool false)] (fun _ => by kernel_rfl) (endR ?_) : RT _ _ _ _ _ _ 2 _)
        refine condR (b := false) (by kernel_rfl) (fun _ => by kernel_rfl) (fun h => by cases h) (fun _ => ?_)
        refine skipR (by kernel_rfl) ?_
        refine seqR (by kernel_rfl) ?_
        refine drawR (fun w => Sat w (blk x1.b 54 [.int .i64 x1.n.id, .int .i64 x1.n.par, .int .i64 x1.n.wt, .int .i64 x1.n.pass, .bool x1.n.thr, .bool true, .int .i64 x1.n.now, .pointer (some ⟨x1.ib, 0, none⟩)] :: blk t 57 [.map (some mb)] :: mapS mb (T1.map kp) :: idxS x1.ib 60 x1.q :: blk p.b 54 [.int .i64 p.n.id, .int .i64 p.n.par, .int .i64 p.n.wt, .int .i64 p.n.pass, .bool p.n.thr, .bool p.n.rdy, .int .i64 p.n.now, .pointer (some ⟨p.ib, 0, none⟩)] :: idxS p.ib 60 p.q :: (nodesL R ++ H))) [15] 16 (by kernel_rfl) (by kernel_rfl) (by kernel_rfl) (fun _ h => by first | exact h | exact h.tail | exact h.tail.tail | exact h.tail.tail.tail | exact h.tail.tail.tail.tail) ?_
        refine takesR [0, 1, 2, 3, 4, 5, 6, 7, 8, 9] [0, 1, 4, 26, 31, 35] 6 [true, true, true, true, true, true, true, true, true, true, false, false, false, false, false, false] [(0, .pointer (some ⟨t, 0, none⟩)), (1, .pointer (some ⟨x1.b, 0, none⟩)), (4, .pointer (some ⟨p.b, 0, none⟩)), (26, .pointer (some ⟨x1.b, 0, none⟩)), (31, .int .i64 x1.n.pass), (35, .int .i64 p.n.now)] [(⟨x1.b, 3, none⟩, .int .i64 x1.n.pass), (⟨p.b, 6, none⟩, .int .i64 p.n.now)] rfl (fun _ d _ _ _ h => by cases d <;> exact h) (fun _ h => by first | exact h | exact h.tail | exact h.tail.tail | exact h.tail.tail.tail | exact h.tail.tail.tail.tail) (hasC (blkAt (T := 54) (cs := [.int .i64 x1.n.id, .int .i64 x1.n.par, .int .i64 x1.n.wt, .int .i64 x1.n.pass, .bool x1.n.thr, .bool true, .int .i64 x1.n.now, .pointer (some ⟨x1.ib, 0, none⟩)]) 0 rfl rfl) (hasC (blkAt (T := 54) (cs := [.int .i64 p.n.id, .int .i64 p.n.par, .int .i64 p.n.wt, .int .i64 p.n.pass, .bool p.n.thr, .bool p.n.rdy, .int .i64 p.n.now, .pointer (some ⟨p.ib, 0, none⟩)]) 4 rfl rfl) has0)) (fun _ => by kernel_rfl) ?_
        refine oneR 10 5 [true, true, true, true, true, true, true, true, true, true, true, false, false, false, false, false] rfl rfl (by kernel_rfl) (callS 33 [.int .i64 x1.n.pass, .int .i64 p.n.now] (some 36) (fun _ => .complex .f64 (floatOfInt .f64 x1.n.pass) (floatOfInt .f64 p.n.now)) (fun (_ : Unit) => (blk x1.b 54 [.int .i64 x1.n.id, .int .i64 x1.n.par, .int .i64 x1.n.wt, .int .i64 x1.n.pass, .bool x1.n.thr, .bool true, .int .i64 x1.n.now, .pointer (some ⟨x1.ib, 0, none⟩)] :: blk t 57 [.map (some mb)] :: mapS mb (T1.map kp) :: idxS x1.ib 60 x1.q :: blk p.b 54 [.int .i64 p.n.id, .int .i64 p.n.par, .int .i64 p.n.wt, .int .i64 p.n.pass, .bool p.n.thr, .bool p.n.rdy, .int .i64 p.n.now, .pointer (some ⟨p.ib, 0, none⟩)] :: idxS p.ib 60 p.q :: (nodesL R ++ H))) (fun _ => by kernel_rfl) (pair_walk _ x1.n.pass p.n.now)) (fun _ _ h hn => by first | exact h | exact h.tail | exact h.tail.tail | exact h.tail.tail.tail | exact h.tail.tail.tail.tail | exact absurd hn (by decide)) (fun _ => ?_)
        refine oneR 11 4 [true, true, true, true, true, true, true, true, true, true, true, true, false, false, false, false] rfl rfl (by kernel_rfl) (callS 32 [.complex .f64 (floatOfInt .f64 x1.n.pass) (floatOfInt .f64 p.n.now)] (some 37) (fun _ => .int .i64 (mxI x1.n.pass p.n.now)) (fun _ => (blk x1.b 54 [.int .i64 x1.n.id, .int .i64 x1.n.par, .int .i64 x1.n.wt, .int .i64 x1.n.pass, .bool x1.n.thr, .bool true, .int .i64 x1.n.now, .pointer (some ⟨x1.ib, 0, none⟩)] :: blk t 57 [.map (some mb)] :: mapS mb (T1.map kp) :: idxS x1.ib 60 x1.q :: blk p.b 54 [.int .i64 p.n.id, .int .i64 p.n.par, .int .i64 p.n.wt, .int .i64 p.n.pass, .bool p.n.thr, .bool p.n.rdy, .int .i64 p.n.now, .pointer (some ⟨p.ib, 0, none⟩)] :: idxS p.ib 60 p.q :: (nodesL R ++ H))) (fun _ => by kernel_rfl) (later_walk _ x1.n.pass p.n.now hf1 hf2)) (fun _ _ h hn => by first | exact h | exact h.tail | exact h.tail.tail | exact h.tail.tail.tail | exact h.tail.tail.tail.tail | exact absurd hn (by decide)) (fun _ => ?_)
        refine takesR [12, 13, 14] [37, 0, 1, 4, 40] 1 [true, true, true, true, true, true, true, true, true, true, true, true, true, true, true, false] [(37, .int .i64 (mxI x1.n.pass p.n.now)), (0, .pointer (some ⟨t, 0, none⟩)), (1, .pointer (some ⟨x1.b, 0, none⟩)), (4, .pointer (some ⟨p.b, 0, none⟩)), (40, .pointer (some ⟨x1.b, 3, none⟩))] [] rfl (fun _ d _ _ _ h => by cases d <;> exact h) (fun _ h => by first | exact h | exact h.tail | exact h.tail.tail | exact h.tail.tail.tail | exact h.tail.tail.tail.tail) has0 (fun _ => by kernel_rfl) ?_
        refine oneR 15 0 [true, true, true, true, true, true, true, true, true, true, true, true, true, true, true, true] rfl rfl (by kernel_rfl) (storeS [(3, .int .i64 (mxI x1.n.pass p.n.now))] [.int .i64 x1.n.id, .int .i64 x1.n.par, .int .i64 x1.n.wt, .int .i64 (mxI x1.n.pass p.n.now), .bool x1.n.thr, .bool true, .int .i64 x1.n.now, .pointer (some ⟨x1.ib, 0, none⟩)] (fun _ => by kernel_rfl) (by kernel_rfl) (by kernel_rfl)) (fun _ _ h hn => by first | exact h | exact h.tail | exact h.tail.tail | exact h.tail.tail.tail | exact h.tail.tail.tail.tail | exact absurd hn (by decide)) (fun _ => ?_)
        refine drawnR (by kernel_rfl) ?_
        refine seqR (by kernel_rfl) ?_
        refine seqR (by kernel_rfl) ?_
        refine PT.pick 5 rfl ?_
        refine drawR (fun w => Sat w (blk x1.b 54 [.int .i64 x1.n.id, .int .i64 x1.n.par, .int .i64 x1.n.wt, .int .i64 (mxI x1.n.pass p.n.now), .bool x1.n.thr, .bool true, .int .i64 x1.n.now, .pointer (some ⟨x1.ib, 0, none⟩)] :: blk t 57 [.map (some mb)] :: mapS mb (T1.map kp) :: idxS x1.ib 60 x1.q :: blk p.b 54 [.int .i64 p.n.id, .int .i64 p.n.par, .int .i64 p.n.wt, .int .i64 p.n.pass, .bool p.n.thr, .bool p.n.rdy, .int .i64 p.n.now, .pointer (some ⟨p.ib, 0, none⟩)] :: (nodesL R ++ H))) [] 16 (by kernel_rfl) (by kernel_rfl) (by kernel_rfl) (fun _ h => by first | exact h | exact h.tail | exact h.tail.tail | exact h.tail.tail.tail | exact h.tail.tail.tail.tail) ?_
        refine takesR [0, 1, 2, 3, 4, 5, 6, 7, 8, 9, 10, 11, 12, 13] [0, 1, 4, 44, 49, 54] 2 [true, true, true, true, true, true, true, true, true, true, true, true, true, true, false, false] [(0, .pointer (some ⟨t, 0, none⟩)), (1, .pointer (some ⟨x1.b, 0, none⟩)), (4, .pointer (some ⟨p.b, 0, none⟩)), (44, .pointer (some ⟨p.ib, 0, none⟩)), (49, .int .i64 (mxI x1.n.pass p.n.now)), (54, .int .i64 x1.n.id)] [(⟨p.b, 7, none⟩, .pointer (some ⟨p.ib, 0, none⟩)), (⟨x1.b, 3, none⟩, .int .i64 (mxI x1.n.pass p.n.now)), (⟨x1.b, 0, none⟩, .int .i64 x1.n.id)] rfl (fun _ d _ _ _ h => by cases d <;> exact h) (fun _ h => by first | exact h | exact h.tail | exact h.tail.tail | exact h.tail.tail.tail | exact h.tail.tail.tail.tail) (hasC (blkAt (T := 54) (cs := [.int .i64 p.n.id, .int .i64 p.n.par, .int .i64 p.n.wt, .int .i64 p.n.pass, .bool p.n.thr, .bool p.n.rdy, .int .i64 p.n.now, .pointer (some ⟨p.ib, 0, none⟩)]) 4 rfl rfl) (hasC (blkAt (T := 54) (cs := [.int .i64 x1.n.id, .int .i64 x1.n.par, .int .i64 x1.n.wt, .int .i64 (mxI x1.n.pass p.n.now), .bool x1.n.thr, .bool true, .int .i64 x1.n.now, .pointer (some ⟨x1.ib, 0, none⟩)]) 0 rfl rfl) (hasC (blkAt (T := 54) (cs := [.int .i64 x1.n.id, .int .i64 x1.n.par, .int .i64 x1.n.wt, .int .i64 (mxI x1.n.pass p.n.now), .bool x1.n.thr, .bool true, .int .i64 x1.n.now, .pointer (some ⟨x1.ib, 0, none⟩)]) 0 rfl rfl) has0))) (fun _ => by kernel_rfl) ?_
        refine oneR 14 1 [true, true, true, true, true, true, true, true, true, true, true, true, true, true, true, false] rfl rfl (by kernel_rfl) (callS 34 [.pointer (some ⟨p.ib, 0, none⟩), .int .i64 (mxI x1.n.pass p.n.now), .int .i64 x1.n.id] (some 55) (fun _ => .nilIface) (fun _ => (idxS p.ib 60 (insE (mxI x1.n.pass p.n.now, x1.n.id) p.q) :: blk x1.b 54 [.int .i64 x1.n.id, .int .i64 x1.n.par, .int .i64 x1.n.wt, .int .i64 (mxI x1.n.pass p.n.now), .bool x1.n.thr, .bool true, .int .i64 x1.n.now, .pointer (some ⟨x1.ib, 0, none⟩)] :: blk t 57 [.map (some mb)] :: mapS mb (T1.map kp) :: idxS x1.ib 60 x1.q :: blk p.b 54 [.int .i64 p.n.id, .int .i64 p.n.par, .int .i64 p.n.wt, .int .i64 p.n.pass, .bool p.n.thr, .bool p.n.rdy, .int .i64 p.n.now, .pointer (some ⟨p.ib, 0, none⟩)] :: (nodesL R ++ H))) (fun _ => by kernel_rfl) (put_ok hput hqs hql _ _)) (fun _ _ h hn => by first | exact h | exact h.tail | exact h.tail.tail | exact h.tail.tail.tail | exact h.tail.tail.tail.tail | exact absurd hn (by decide)) (fun _ => ?_)
        refine takesR [15] [0, 1, 4, 56] 0 [true, true, true, true, true, true, true, true, true, true, true, true, true, true, true, true] [(0, .pointer (some ⟨t, 0, none⟩)), (1, .pointer (some ⟨x1.b, 0, none⟩)), (4, .pointer (some ⟨p.b, 0, none⟩)), (56, .bool false)] [] rfl (fun _ d _ _ _ h => by cases d <;> exact h) (fun _ h => by first | exact h | exact h.tail | exact h.tail.tail | exact h.tail.tail.tail | exact h.tail.tail.tail.tail) has0 (fun _ => by kernel_rfl) ?_
        refine drawnR (by kernel_rfl) ?_
        refine condR (b := false) (by kernel_rfl) (fun _ => by kernel_rfl) (fun h => by cases h) (fun _ => ?_)
        refine skipR (by kernel_rfl) ?_
        refine seqR (by kernel_rfl) ?_
        refine regionR 2 (by kernel_rfl) (by kernel_rfl) ?_
        refine (run0 (z := 0) 2 [0, 1] [(0, .pointer (some ⟨t, 0, none⟩)), (1, .pointer (some ⟨p.b, 0, none⟩))] (fun _ => by kernel_rfl) (endR ?_) : RT _ _ _ _ _ _ 2 _)
        refine gotoR 0 (by kernel_rfl) (by kernel_rfl) ?_
        refine PT.pick 0 rfl ?_
        refine PT.pick 5 rfl ?_
        refine PT.pick 5 rfl ?_
        refine PT.pick 3 rfl ?_
        refine PT.pick 5 rfl ?_
        refine PT.pick 5 rfl ?_
        refine PT.close2 ({ x1 with n := wkF p.n.now x1.n }) ({ p with q := insE (mxI x1.n.pass p.n.now, x1.n.id) p.q }) (hR2 _ _) ?_
        rw [← hsm.kp]
        have hpj : ((T1.set i { x1 with n := wkF p.n.now x1.n }).set j { p with q := insE (mxI x1.n.pass p.n.now, x1.n.id) p.q })[j]? = some { p with q := insE (mxI x1.n.pass p.n.now, x1.n.id) p.q } := by rw [List.getElem?_set_self (by rw [List.length_set]; exact (List.getElem?_eq_some_iff.1 hj).1)]
        refine PT.keep (L' := [(0, .pointer (some ⟨t, 0, none⟩)), (1, .pointer (some ⟨p.b, 0, none⟩))]) [0, 1] rfl ?_
        exact jumpR (hK k (_, { p with q := insE (mxI x1.n.pass p.n.now, x1.n.id) p.q }) (by omega) ⟨⟨_, hT2, hs2, hb2, hr1.ups (wkF_skel _), by rw [he, wakeN, hgx]; simp only [h1, hg, Bool.false_eq_true, if_false]; rw [← hpn, hpk]; rfl⟩, hsame.trans hsm, ⟨j, hpj⟩, by have := RK.up hs1 hr1 (hT1.mem_n hm) (hT1.mem_n (List.mem_of_getElem? hj)) hpk; simp only; omega⟩)
  · skip
    intro K hK
    refine seqR (by kernel_rfl) ?_
    refine labelR (by kernel_rfl) ?_
    refine PT.keep (L' := [(0, .pointer (some ⟨t, 0, none⟩)), (1, .pointer (some ⟨x.b, 0, none⟩))]) [0, 1] rfl ?_
    refine codeR (by kernel_rfl) (hK 6 (T, x) ⟨⟨N, hT, hsk, hlb, hrk, rfl⟩, SameT.refl T, ⟨i0, hx⟩, by have := (hrk _ (hT.mem_n (List.mem_of_getElem? hx))).2.2.1; simp only; omega⟩)
end Go.Proofs.YtjbjngikaiggdaaGreat
