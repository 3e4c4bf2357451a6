/- tree: rests. Conditions: none. -/
import Derived.Test.YtjbjngikaiggdaaGreatTr
set_option linter.unusedVariables false
set_option linter.unusedSimpArgs false
namespace Go.Proofs.YtjbjngikaiggdaaGreat
open Go.RowKit G
theorem q_kid {N : List Nr} {T : List Nd} (h : OkT N T) {x : Nd} (hx : x ∈ T) : x.q ≠ [] ↔ kidR N x.n.id ≠ [] := by
  rw [kidR_ne]
  constructor
  · intro hq
    obtain ⟨⟨p, k⟩, he⟩ := List.exists_mem_of_ne_nil _ hq
    exact ⟨p, k, (h.mem x hx p k).1 he⟩
  · rintro ⟨p, k, hk⟩
    exact List.ne_nil_of_mem ((h.mem x hx p k).2 hk)
theorem rest_test {N : List Nr} {T : List Nd} (h : OkT N T) {x : Nd} (hx : x ∈ T) : (!x.n.rdy || decide ((x.q.length : Int) > 0)) = true ↔ (x.n.rdy = false ∨ kidR N x.n.id ≠ []) := by
  rw [← q_kid h hx, Bool.or_eq_true, decide_eq_true_eq, Bool.not_eq_true']
  have : ((x.q.length : Int) > 0) ↔ x.q ≠ [] := by
    constructor
    · intro h e; rw [e] at h; simp at h
    · intro h; have := List.length_pos_iff.2 h; omega
  rw [this]
set_option maxRecDepth 100000 in
theorem rests_walk {N : List Nr} {T : List Nd} (hT : OkT N T) (hsk : SK N) (hlb : LB N) {i0 : Nat} {x : Nd} (hx : T[i0]? = some x) (H : List SP) (t mb : Nat) : ∀ w, Sat w (blk t 57 [.map (some mb)] :: mapS mb (T.map kp) :: (nodesL T ++ H)) → Calls Tryz.prog 20 #[.pointer (some ⟨t, 0, none⟩), .pointer (some ⟨x.b, 0, none⟩)] w (Ret (ι := { T' : List Nd // OkT (restN 6 N x.n.id) T' ∧ SameT T T' }) (fun _ => .tuple #[]) fun T' => blk t 57 [.map (some mb)] :: mapS mb (T'.1.map kp) :: (nodesL T'.1 ++ H)) := by
  obtain ⟨rk, hrk⟩ := hsk.rk
  refine enterG (fn := Tryz.f20) 49 [.pointer (some ⟨t, 0, none⟩), .pointer (some ⟨x.b, 0, none⟩)] Tryz.func20 (by kernel_rfl) (by kernel_rfl) (by kernel_rfl) ?_
  refine scopeG 0 (fun (s : List Nd × Nd) => [(0, .pointer (some ⟨t, 0, none⟩)), (1, .pointer (some ⟨s.2.b, 0, none⟩))]) (fun (s : List Nd × Nd) => (blk t 57 [.map (some mb)] :: mapS mb (s.1.map kp) :: (nodesL s.1 ++ H))) (fun k (s : List Nd × Nd) => Climb restN N x.n.id T rk k s.1 s.2) (by kernel_rfl) (by kernel_rfl) (by kernel_rfl) (by kernel_rfl) ?_ ?_
  · skip
    rintro k ⟨T1, x1⟩ hC K hK
    obtain ⟨⟨N1, hT1, hs1, hb1, hr1, he⟩, hsame, ⟨i, hi⟩, hle⟩ := hC
    simp only at hT1 hsame hi hle he
    have hm := List.mem_of_getElem? hi
    have hnd := hs1.nd
    have hpos := hr1.pos (hT1.mem_n hm)
    obtain ⟨k, rfl⟩ : ∃ k', k = k' + 1 := ⟨k - 1, by omega⟩
    have hgx := hT1.at hnd hi
    have htest := rest_test hT1 hm
    cases hg : gt N1 x1.n.par with
    | none =>
      obtain ⟨R, hR, hR2⟩ := perm1 hi
      refine PT.open1 (hR) ?_
      refine seqR (by kernel_rfl) ?_
      refine seqR (by kernel_rfl) ?_
      refine regionR 14 (by kernel_rfl) (by kernel_rfl) ?_
      refine (runR (H := (blk t 57 [.map (some mb)] :: mapS mb (T1.map kp) :: blk x1.b 54 [.int .i64 x1.n.id, .int .i64 x1.n.par, .int .i64 x1.n.wt, .int .i64 x1.n.pass, .bool x1.n.thr, .bool x1.n.rdy, .int .i64 x1.n.now, .pointer (some ⟨x1.ib, 0, none⟩)] :: idxS x1.ib 60 x1.q :: (nodesL R ++ H))) (z := 7) 7 [0, 1, 11] [(0, .pointer (some ⟨t, 0, none⟩)), (1, .pointer (some ⟨x1.b, 0, none⟩)), (11, .bool (!x1.n.rdy))] [(⟨x1.b, 5, none⟩, .bool x1.n.rdy)] (hasC (blkAt (T := 54) (cs := [.int .i64 x1.n.id, .int .i64 x1.n.par, .int .i64 x1.n.wt, .int .i64 x1.n.pass, .bool x1.n.thr, .bool x1.n.rdy, .int .i64 x1.n.now, .pointer (some ⟨x1.ib, 0, none⟩)]) 2 rfl rfl) has0) (fun _ => by kernel_rfl) ?_ : RT _ _ _ _ _ _ 14 _)
      refine (segR (ι := Unit) (z := 0) 7 (fun _ => [(0, .pointer (some ⟨t, 0, none⟩)), (1, .pointer (some ⟨x1.b, 0, none⟩)), (18, .bool ((!x1.n.rdy) || (decide ((x1.q.length : Int) > 0))))]) (fun _ => (blk t 57 [.map (some mb)] :: mapS mb (T1.map kp) :: blk x1.b 54 [.int .i64 x1.n.id, .int .i64 x1.n.par, .int .i64 x1.n.wt, .int .i64 x1.n.pass, .bool x1.n.thr, .bool x1.n.rdy, .int .i64 x1.n.now, .pointer (some ⟨x1.ib, 0, none⟩)] :: idxS x1.ib 60 x1.q :: (nodesL R ++ H))) ?_ (fun _ => ?_) : RT _ _ _ _ _ _ 7 _)
      · cases hg7 : (!x1.n.rdy) with
        | true =>
          refine (run0 (z := 0) 7 [0, 1, 18] [(0, .pointer (some ⟨t, 0, none⟩)), (1, .pointer (some ⟨x1.b, 0, none⟩)), (18, .bool true)] (fun _ => by kernel_rfl) (endR ?_) : RT _ _ _ _ _ _ 7 _)
          refine PT.keep (L' := [(0, .pointer (some ⟨t, 0, none⟩)), (1, .pointer (some ⟨x1.b, 0, none⟩)), (18, .bool (true || (decide ((x1.q.length : Int) > 0))))]) [0, 1, 18] rfl ?_
          exact midR () rfl rfl
        | false =>
          refine (runR (H := (blk t 57 [.map (some mb)] :: mapS mb (T1.map kp) :: blk x1.b 54 [.int .i64 x1.n.id, .int .i64 x1.n.par, .int .i64 x1.n.wt, .int .i64 x1.n.pass, .bool x1.n.thr, .bool x1.n.rdy, .int .i64 x1.n.now, .pointer (some ⟨x1.ib, 0, none⟩)] :: idxS x1.ib 60 x1.q :: (nodesL R ++ H))) (z := 3) 4 [0, 1, 11, 15] [(0, .pointer (some ⟨t, 0, none⟩)), (1, .pointer (some ⟨x1.b, 0, none⟩)), (11, .bool false), (15, .pointer (some ⟨x1.ib, 0, none⟩))] [(⟨x1.b, 7, none⟩, .pointer (some ⟨x1.ib, 0, none⟩))] (hasC (blkAt (T := 54) (cs := [.int .i64 x1.n.id, .int .i64 x1.n.par, .int .i64 x1.n.wt, .int .i64 x1.n.pass, .bool x1.n.thr, .bool x1.n.rdy, .int .i64 x1.n.now, .pointer (some ⟨x1.ib, 0, none⟩)]) 2 rfl rfl) has0) (fun _ => by kernel_rfl) ?_ : RT _ _ _ _ _ _ 7 _)
          refine (stepR (z := 2) (callS 35 [.pointer (some ⟨x1.ib, 0, none⟩)] (some 16) (fun _ => .int .i64 (x1.q.length : Int)) (fun (_ : Unit) => (blk t 57 [.map (some mb)] :: mapS mb (T1.map kp) :: blk x1.b 54 [.int .i64 x1.n.id, .int .i64 x1.n.par, .int .i64 x1.n.wt, .int .i64 x1.n.pass, .bool x1.n.thr, .bool x1.n.rdy, .int .i64 x1.n.now, .pointer (some ⟨x1.ib, 0, none⟩)] :: idxS x1.ib 60 x1.q :: (nodesL R ++ H))) (fun _ => by kernel_rfl) (same_at 3 rfl (len_idx _ x1.ib 60 x1.q))) (fun _ => ?_) : RT _ _ _ _ _ _ 3 _)
          refine (run0 (z := 0) 2 [0, 1, 18] [(0, .pointer (some ⟨t, 0, none⟩)), (1, .pointer (some ⟨x1.b, 0, none⟩)), (18, .bool (decide ((x1.q.length : Int) > 0)))] (fun _ => by kernel_rfl) (endR ?_) : RT _ _ _ _ _ _ 2 _)
          refine PT.keep (L' := [(0, .pointer (some ⟨t, 0, none⟩)), (1, .pointer (some ⟨x1.b, 0, none⟩)), (18, .bool (false || (decide ((x1.q.length : Int) > 0))))]) [0, 1, 18] rfl ?_
          exact midR () rfl rfl
      refine endR ?_
      refine condR (b := (!x1.n.rdy) || (decide ((x1.q.length : Int) > 0))) (by kernel_rfl) (fun _ => by kernel_rfl) (fun h1 => ?_) (fun h1 => ?_)
      · skip
        refine PT.close1 x1 (hR) ?_
        refine retR (by kernel_rfl) ?_
        refine thenV ?_
        refine jumpV ?_
        refine done0 (.tuple #[]) (fun _ => by kernel_rfl) (fun w hs => ?_) .ret (.inr rfl)
        exact ⟨⟨T1, by rw [he, restN, hgx]; simp only [if_pos (htest.1 h1)]; exact hT1, hsame⟩, rfl, hs⟩
      · skip
        refine skipR (by kernel_rfl) ?_
        refine seqR (by kernel_rfl) ?_
        refine regionR 5 (by kernel_rfl) (by kernel_rfl) ?_
        refine (run0 (z := 1) 4 [0, 1, 22] [(0, .pointer (some ⟨t, 0, none⟩)), (1, .pointer (some ⟨x1.b, 0, none⟩)), (22, .pointer (some ⟨x1.b, 5, none⟩))] (fun _ => by kernel_rfl) ?_ : RT _ _ _ _ _ _ 5 _)
        refine (RT.pick 2 rfl ?_ : RT _ _ _ (blk t 57 [.map (some mb)] :: mapS mb (T1.map kp) :: blk x1.b 54 [.int .i64 x1.n.id, .int .i64 x1.n.par, .int .i64 x1.n.wt, .int .i64 x1.n.pass, .bool x1.n.thr, .bool x1.n.rdy, .int .i64 x1.n.now, .pointer (some ⟨x1.ib, 0, none⟩)] :: idxS x1.ib 60 x1.q :: (nodesL R ++ H)) _ _ 1 _)
        refine (stepR (z := 0) (storeS [(5, .bool false)] [.int .i64 x1.n.id, .int .i64 x1.n.par, .int .i64 x1.n.wt, .int .i64 x1.n.pass, .bool x1.n.thr, .bool false, .int .i64 x1.n.now, .pointer (some ⟨x1.ib, 0, none⟩)] (fun _ => by kernel_rfl) (by kernel_rfl) (by kernel_rfl)) (fun _ => ?_) : RT _ _ _ _ _ _ 1 _)
        refine endR ?_
        refine seqR (by kernel_rfl) ?_
        refine drawR (fun w => Sat w (blk x1.b 54 [.int .i64 x1.n.id, .int .i64 x1.n.par, .int .i64 x1.n.wt, .int .i64 x1.n.pass, .bool x1.n.thr, .bool false, .int .i64 x1.n.now, .pointer (some ⟨x1.ib, 0, none⟩)] :: blk t 57 [.map (some mb)] :: mapS mb (T1.map kp) :: idxS x1.ib 60 x1.q :: (nodesL R ++ H))) [] 11 (by kernel_rfl) (by kernel_rfl) (by kernel_rfl) (fun _ h => by first | exact h | exact h.tail | exact h.tail.tail | exact h.tail.tail.tail | exact h.tail.tail.tail.tail) ?_
        refine takesR [0, 1, 2, 3, 4, 5, 6, 7, 8] [0, 1, 26, 31] 2 [true, true, true, true, true, true, true, true, true, false, false] [(0, .pointer (some ⟨t, 0, none⟩)), (1, .pointer (some ⟨x1.b, 0, none⟩)), (26, .map (some mb)), (31, .int .i64 x1.n.par)] [(⟨t, 0, none⟩, .map (some mb)), (⟨x1.b, 1, none⟩, .int .i64 x1.n.par)] rfl (fun _ d _ _ _ h => by cases d <;> exact h) (fun _ h => by first | exact h | exact h.tail | exact h.tail.tail | exact h.tail.tail.tail | exact h.tail.tail.tail.tail) (hasC (blkAt (T := 57) (cs := [.map (some mb)]) 1 rfl rfl) (hasC (blkAt (T := 54) (cs := [.int .i64 x1.n.id, .int .i64 x1.n.par, .int .i64 x1.n.wt, .int .i64 x1.n.pass, .bool x1.n.thr, .bool false, .int .i64 x1.n.now, .pointer (some ⟨x1.ib, 0, none⟩)]) 0 rfl rfl) has0)) (fun _ => by kernel_rfl) ?_
        refine takeR1 9 1 [true, true, true, true, true, true, true, true, true, true, false] rfl rfl (by kernel_rfl) (fun _ d _ _ _ h => by cases d <;> exact h) (fun _ h => by first | exact h | exact h.tail | exact h.tail.tail | exact h.tail.tail.tail | exact h.tail.tail.tail.tail) (lookY 55 (.tmp 26) (.tmp 31) false mb x1.n.par (T1.map kp) (.pointer none) (.pointer none) 3 50 (some 32) (fun _ => by kernel_rfl) (by kernel_rfl) (by kernel_rfl) (fun _ => by kernel_rfl) (fun _ => by kernel_rfl) Tryz.underlying55 (by kernel_rfl) (fun _ => by kernel_rfl) (mapAt (H := (blk x1.b 54 [.int .i64 x1.n.id, .int .i64 x1.n.par, .int .i64 x1.n.wt, .int .i64 x1.n.pass, .bool x1.n.thr, .bool false, .int .i64 x1.n.now, .pointer (some ⟨x1.ib, 0, none⟩)] :: blk t 57 [.map (some mb)] :: mapS mb (T1.map kp) :: idxS x1.ib 60 x1.q :: (nodesL R ++ H))) (i := 2) rfl) (by rw [lk_none hT1 hg]; rfl)) ?_
        refine takesR [10] [0, 1, 4] 0 [true, true, true, true, true, true, true, true, true, true, true] [(0, .pointer (some ⟨t, 0, none⟩)), (1, .pointer (some ⟨x1.b, 0, none⟩)), (4, .pointer none)] [] rfl (fun _ d _ _ _ h => by cases d <;> exact h) (fun _ h => by first | exact h | exact h.tail | exact h.tail.tail | exact h.tail.tail.tail | exact h.tail.tail.tail.tail) has0 (fun _ => by kernel_rfl) ?_
        refine drawnR (by kernel_rfl) ?_
        refine seqR (by kernel_rfl) ?_
        refine seqR (by kernel_rfl) ?_
        refine drawR (fun w => Sat w (blk x1.b 54 [.int .i64 x1.n.id, .int .i64 x1.n.par, .int .i64 x1.n.wt, .int .i64 x1.n.pass, .bool x1.n.thr, .bool false, .int .i64 x1.n.now, .pointer (some ⟨x1.ib, 0, none⟩)] :: blk t 57 [.map (some mb)] :: mapS mb (T1.map kp) :: idxS x1.ib 60 x1.q :: (nodesL R ++ H))) [] 15 (by kernel_rfl) (by kernel_rfl) (by kernel_rfl) (fun _ h => by first | exact h | exact h.tail | exact h.tail.tail | exact h.tail.tail.tail | exact h.tail.tail.tail.tail) ?_
        refine takesR [0, 1, 2, 3, 4, 5, 6, 7, 8, 9, 10, 11, 12, 13, 14] [0, 1, 4, 47] 0 [true, true, true, true, true, true, true, true, true, true, true, true, true, true, true] [(0, .pointer (some ⟨t, 0, none⟩)), (1, .pointer (some ⟨x1.b, 0, none⟩)), (4, .pointer none), (47, .bool true)] [] rfl (fun _ d _ _ _ h => by cases d <;> exact h) (fun _ h => by first | exact h | exact h.tail | exact h.tail.tail | exact h.tail.tail.tail | exact h.tail.tail.tail.tail) has0 (fun _ => by kernel_rfl) ?_
        refine drawnR (by kernel_rfl) ?_
        refine condR (b := true) (by kernel_rfl) (fun _ => by kernel_rfl) (fun _ => ?_) (fun h => by cases h)
        refine retR (by kernel_rfl) ?_
        refine thenV ?_
        refine jumpV ?_
        refine PT.pick 0 rfl ?_
        refine PT.pick 2 rfl ?_
        refine PT.pick 2 rfl ?_
        refine PT.close1 ({ x1 with n := rsF x1.n }) (hR2 _) ?_
        have hsm : SameT T1 (T1.set i { x1 with n := rsF x1.n }) := SameT.set hi ⟨rfl, rfl, rfl⟩
        have h2 : ¬ (x1.n.rdy = false ∨ kidR N1 x1.n.id ≠ []) := fun h => by rw [htest.2 h] at h1; cases h1
        rw [← hsm.kp]
        refine done0 (.tuple #[]) (fun _ => by kernel_rfl) (fun w hs => ?_) .ret (.inr rfl)
        exact ⟨⟨_, by rw [he, restN, hgx]; simp only [if_neg h2, hg]; exact hT1.one hnd hi rsF_skel (.inl (gt_none.1 hg)), hsame.trans hsm⟩, rfl, hs⟩
    | some y =>
      obtain ⟨j, p, hj, hpn, hpk⟩ := hT1.get hg
      have hij : i ≠ j := fun e => by subst e; rw [hi] at hj; cases hj; exact hs1.ne_par (hT1.mem_n hm) hpk
      obtain ⟨R, hR, hR2⟩ := perm2 hi hj hij
      refine PT.open2 (hR) ?_
      refine seqR (by kernel_rfl) ?_
      refine seqR (by kernel_rfl) ?_
      refine regionR 14 (by kernel_rfl) (by kernel_rfl) ?_
      refine (runR (H := (blk t 57 [.map (some mb)] :: mapS mb (T1.map kp) :: blk x1.b 54 [.int .i64 x1.n.id, .int .i64 x1.n.par, .int .i64 x1.n.wt, .int .i64 x1.n.pass, .bool x1.n.thr, .bool x1.n.rdy, .int .i64 x1.n.now, .pointer (some ⟨x1.ib, 0, none⟩)] :: idxS x1.ib 60 x1.q :: blk p.b 54 [.int .i64 p.n.id, .int .i64 p.n.par, .int .i64 p.n.wt, .int .i64 p.n.pass, .bool p.n.thr, .bool p.n.rdy, .int .i64 p.n.now, .pointer (some ⟨p.ib, 0, none⟩)] :: idxS p.ib 60 p.q :: (nodesL R ++ H))) (z := 7) 7 [0, 1, 11] [(0, .pointer (some ⟨t, 0, none⟩)), (1, .pointer (some ⟨x1.b, 0, none⟩)), (11, .bool (!x1.n.rdy))] [(⟨x1.b, 5, none⟩, .bool x1.n.rdy)] (hasC (blkAt (T := 54) (cs := [.int .i64 x1.n.id, .int .i64 x1.n.par, .int .i64 x1.n.wt, .int .i64 x1.n.pass, .bool x1.n.thr, .bool x1.n.rdy, .int .i64 x1.n.now, .pointer (some ⟨x1.ib, 0, none⟩)]) 2 rfl rfl) has0) (fun _ => by kernel_rfl) ?_ : RT _ _ _ _ _ _ 14 _)
      refine (segR (ι := Unit) (z := 0) 7 (fun _ => [(0, .pointer (some ⟨t, 0, none⟩)), (1, .pointer (some ⟨x1.b, 0, none⟩)), (18, .bool ((!x1.n.rdy) || (decide ((x1.q.length : Int) > 0))))]) (fun _ => (blk t 57 [.map (some mb)] :: mapS mb (T1.map kp) :: blk x1.b 54 [.int .i64 x1.n.id, .int .i64 x1.n.par, .int .i64 x1.n.wt, .int .i64 x1.n.pass, .bool x1.n.thr, .bool x1.n.rdy, .int .i64 x1.n.now, .pointer (some ⟨x1.ib, 0, none⟩)] :: idxS x1.ib 60 x1.q :: blk p.b 54 [.int .i64 p.n.id, .int .i64 p.n.par, .int .i64 p.n.wt, .int .i64 p.n.pass, .bool p.n.thr, .bool p.n.rdy, .int .i64 p.n.now, .pointer (some ⟨p.ib, 0, none⟩)] :: idxS p.ib 60 p.q :: (nodesL R ++ H))) ?_ (fun _ => ?_) : RT _ _ _ _ _ _ 7 _)
      · cases hg7 : (!x1.n.rdy) with
        | true =>
          refine (run0 (z := 0) 7 [0, 1, 18] [(0, .pointer (some ⟨t, 0, none⟩)), (1, .pointer (some ⟨x1.b, 0, none⟩)), (18, .bool true)] (fun _ => by kernel_rfl) (endR ?_) : RT _ _ _ _ _ _ 7 _)
          refine PT.keep (L' := [(0, .pointer (some ⟨t, 0, none⟩)), (1, .pointer (some ⟨x1.b, 0, none⟩)), (18, .bool (true || (decide ((x1.q.length : Int) > 0))))]) [0, 1, 18] rfl ?_
          exact midR () rfl rfl
        | false =>
          refine (runR (H := (blk t 57 [.map (some mb)] :: mapS mb (T1.map kp) :: blk x1.b 54 [.int .i64 x1.n.id, .int .i64 x1.n.par, .int .i64 x1.n.wt, .int .i64 x1.n.pass, .bool x1.n.thr, .bool x1.n.rdy, .int .i64 x1.n.now, .pointer (some ⟨x1.ib, 0, none⟩)] :: idxS x1.ib 60 x1.q :: blk p.b 54 [.int .i64 p.n.id, .int .i64 p.n.par, .int .i64 p.n.wt, .int .i64 p.n.pass, .bool p.n.thr, .bool p.n.rdy, .int .i64 p.n.now, .pointer (some ⟨p.ib, 0, none⟩)] :: idxS p.ib 60 p.q :: (nodesL R ++ H))) (z := 3) 4 [0, 1, 11, 15] [(0, .pointer (some ⟨t, 0, none⟩)), (1, .pointer (some ⟨x1.b, 0, none⟩)), (11, .bool false), (15, .pointer (some ⟨x1.ib, 0, none⟩))] [(⟨x1.b, 7, none⟩, .pointer (some ⟨x1.ib, 0, none⟩))] (hasC (blkAt (T := 54) (cs := [.int .i64 x1.n.id, .int .i64 x1.n.par, .int .i64 x1.n.wt, .int .i64 x1.n.pass, .bool x1.n.thr, .bool x1.n.rdy, .int .i64 x1.n.now, .pointer (some ⟨x1.ib, 0, none⟩)]) 2 rfl rfl) has0) (fun _ => by kernel_rfl) ?_ : RT _ _ _ _ _ _ 7 _)
          refine (stepR (z := 2) (callS 35 [.pointer (some ⟨x1.ib, 0, none⟩)] (some 16) (fun _ => .int .i64 (x1.q.length : Int)) (fun (_ : Unit) => (blk t 57 [.map (some mb)] :: mapS mb (T1.map kp) :: blk x1.b 54 [.int .i64 x1.n.id, .int .i64 x1.n.par, .int .i64 x1.n.wt, .int .i64 x1.n.pass, .bool x1.n.thr, .bool x1.n.rdy, .int .i64 x1.n.now, .pointer (some ⟨x1.ib, 0, none⟩)] :: idxS x1.ib 60 x1.q :: blk p.b 54 [.int .i64 p.n.id, .int .i64 p.n.par, .int .i64 p.n.wt, .int .i64 p.n.pass, .bool p.n.thr, .bool p.n.rdy, .int .i64 p.n.now, .pointer (some ⟨p.ib, 0, none⟩)] :: idxS p.ib 60 p.q :: (nodesL R ++ H))) (fun _ => by kernel_rfl) (same_at 3 rfl (len_idx _ x1.ib 60 x1.q))) (fun _ => ?_) : RT _ _ _ _ _ _ 3 _)
          refine (run0 (z := 0) 2 [0, 1, 18] [(0, .pointer (some ⟨t, 0, none⟩)), (1, .pointer (some ⟨x1.b, 0, none⟩)), (18, .bool (decide ((x1.q.length : Int) > 0)))] (fun _ => by kernel_rfl) (endR ?_) : RT _ _ _ _ _ _ 2 _)
          refine PT.keep (L' := [(0, .pointer (some ⟨t, 0, none⟩)), (1, .pointer (some ⟨x1.b, 0, none⟩)), (18, .bool (false || (decide ((x1.q.length : Int) > 0))))]) [0, 1, 18] rfl ?_
          exact midR () rfl rfl
      refine endR ?_
      refine condR (b := (!x1.n.rdy) || (decide ((x1.q.length : Int) > 0))) (by kernel_rfl) (fun _ => by kernel_rfl) (fun h1 => ?_) (fun h1 => ?_)
      · skip
        refine PT.close2 x1 p (hR) ?_
        refine retR (by kernel_rfl) ?_
        refine thenV ?_
        refine jumpV ?_
        refine done0 (.tuple #[]) (fun _ => by kernel_rfl) (fun w hs => ?_) .ret (.inr rfl)
        exact ⟨⟨T1, by rw [he, restN, hgx]; simp only [if_pos (htest.1 h1)]; exact hT1, hsame⟩, rfl, hs⟩
      · skip
        have h2 : ¬ (x1.n.rdy = false ∨ kidR N1 x1.n.id ≠ []) := fun h => by rw [htest.2 h] at h1; cases h1
        have hrd : x1.n.rdy = true := by cases hc : x1.n.rdy with | true => rfl | false => exact absurd (.inl hc) h2
        obtain ⟨_, hql, q, hdr, hT2, hsm, hs2, hb2⟩ := rest_round hT1 hs1 hb1 hi hj hpk hrd
        refine skipR (by kernel_rfl) ?_
        refine seqR (by kernel_rfl) ?_
        refine regionR 5 (by kernel_rfl) (by kernel_rfl) ?_
        refine (run0 (z := 1) 4 [0, 1, 22] [(0, .pointer (some ⟨t, 0, none⟩)), (1, .pointer (some ⟨x1.b, 0, none⟩)), (22, .pointer (some ⟨x1.b, 5, none⟩))] (fun _ => by kernel_rfl) ?_ : RT _ _ _ _ _ _ 5 _)
        refine (RT.pick 2 rfl ?_ : RT _ _ _ (blk t 57 [.map (some mb)] :: mapS mb (T1.map kp) :: blk x1.b 54 [.int .i64 x1.n.id, .int .i64 x1.n.par, .int .i64 x1.n.wt, .int .i64 x1.n.pass, .bool x1.n.thr, .bool x1.n.rdy, .int .i64 x1.n.now, .pointer (some ⟨x1.ib, 0, none⟩)] :: idxS x1.ib 60 x1.q :: blk p.b 54 [.int .i64 p.n.id, .int .i64 p.n.par, .int .i64 p.n.wt, .int .i64 p.n.pass, .bool p.n.thr, .bool p.n.rdy, .int .i64 p.n.now, .pointer (some ⟨p.ib, 0, none⟩)] :: idxS p.ib 60 p.q :: (nodesL R ++ H)) _ _ 1 _)
        refine (stepR (z := 0) (storeS [(5, .bool false)] [.int .i64 x1.n.id, .int .i64 x1.n.par, .int .i64 x1.n.wt, .int .i64 x1.n.pass, .bool x1.n.thr, .bool false, .int .i64 x1.n.now, .pointer (some ⟨x1.ib, 0, none⟩)] (fun _ => by kernel_rfl) (by kernel_rfl) (by kernel_rfl)) (fun _ => ?_) : RT _ _ _ _ _ _ 1 _)
        refine endR ?_
        refine seqR (by kernel_rfl) ?_
        refine drawR (fun w => Sat w (blk x1.b 54 [.int .i64 x1.n.id, .int .i64 x1.n.par, .int .i64 x1.n.wt, .int .i64 x1.n.pass, .bool x1.n.thr, .bool false, .int .i64 x1.n.now, .pointer (some ⟨x1.ib, 0, none⟩)] :: blk t 57 [.map (some mb)] :: mapS mb (T1.map kp) :: idxS x1.ib 60 x1.q :: blk p.b 54 [.int .i64 p.n.id, .int .i64 p.n.par, .int .i64 p.n.wt, .int .i64 p.n.pass, .bool p.n.thr, .bool p.n.rdy, .int .i64 p.n.now, .pointer (some ⟨p.ib, 0, none⟩)] :: idxS p.ib 60 p.q :: (nodesL R ++ H))) [] 11 (by kernel_rfl) (by kernel_rfl) (by kernel_rfl) (fun _ h => by first | exact h | exact h.tail | exact h.tail.tail | exact h.tail.tail.tail | exact h.tail.tail.tail.tail) ?_
        refine takesR [0, 1, 2, 3, 4, 5, 6, 7, 8] [0, 1, 26, 31] 2 [true, true, true, true, true, true, true, true, true, false, false] [(0, .pointer (some ⟨t, 0, none⟩)), (1, .pointer (some ⟨x1.b, 0, none⟩)), (26, .map (some mb)), (31, .int .i64 x1.n.par)] [(⟨t, 0, none⟩, .map (some mb)), (⟨x1.b, 1, none⟩, .int .i64 x1.n.par)] rfl (fun _ d _ _ _ h => by cases d <;> exact h) (fun _ h => by first | exact h | exact h.tail | exact h.tail.tail | exact h.tail.tail.tail | exact h.tail.tail.tail.tail) (hasC (blkAt (T := 57) (cs := [.map (some mb)]) 1 rfl rfl) (hasC (blkAt (T := 54) (cs := [.int .i64 x1.n.id, .int .i64 x1.n.par, .int .i64 x1.n.wt, .int .i64 x1.n.pass, .bool x1.n.thr, .bool false, .int .i64 x1.n.now, .pointer (some ⟨x1.ib, 0, none⟩)]) 0 rfl rfl) has0)) (fun _ => by kernel_rfl) ?_
        refine takeR1 9 1 [true, true, true, true, true, true, true, true, true, true, false] rfl rfl (by kernel_rfl) (fun _ d _ _ _ h => by cases d <;> exact h) (fun _ h => by first | exact h | exact h.tail | exact h.tail.tail | exact h.tail.tail.tail | exact h.tail.tail.tail.tail) (lookY 55 (.tmp 26) (.tmp 31) false mb x1.n.par (T1.map kp) (.pointer none) (.pointer (some ⟨p.b, 0, none⟩)) 3 50 (some 32) (fun _ => by kernel_rfl) (by kernel_rfl) (by kernel_rfl) (fun _ => by kernel_rfl) (fun _ => by kernel_rfl) Tryz.underlying55 (by kernel_rfl) (fun _ => by kernel_rfl) (mapAt (H := (blk x1.b 54 [.int .i64 x1.n.id, .int .i64 x1.n.par, .int .i64 x1.n.wt, .int .i64 x1.n.pass, .bool x1.n.thr, .bool false, .int .i64 x1.n.now, .pointer (some ⟨x1.ib, 0, none⟩)] :: blk t 57 [.map (some mb)] :: mapS mb (T1.map kp) :: idxS x1.ib 60 x1.q :: blk p.b 54 [.int .i64 p.n.id, .int .i64 p.n.par, .int .i64 p.n.wt, .int .i64 p.n.pass, .bool p.n.thr, .bool p.n.rdy, .int .i64 p.n.now, .pointer (some ⟨p.ib, 0, none⟩)] :: idxS p.ib 60 p.q :: (nodesL R ++ H))) (i := 2) rfl) (by rw [lk_some hT1 hnd hj hpk]; rfl)) ?_
        refine takesR [10] [0, 1, 4] 0 [true, true, true, true, true, true, true, true, true, true, true] [(0, .pointer (some ⟨t, 0, none⟩)), (1, .pointer (some ⟨x1.b, 0, none⟩)), (4, .pointer (some ⟨p.b, 0, none⟩))] [] rfl (fun _ d _ _ _ h => by cases d <;> exact h) (fun _ h => by first | exact h | exact h.tail | exact h.tail.tail | exact h.tail.tail.tail | exact h.tail.tail.tail.tail) has0 (fun _ => by kernel_rfl) ?_
        refine drawnR (by kernel_rfl) ?_
        refine seqR (by kernel_rfl) ?_
        refine seqR (by kernel_rfl) ?_
        refine PT.pick 5 rfl ?_
        refine drawR (fun w => Sat w (blk x1.b 54 [.int .i64 x1.n.id, .int .i64 x1.n.par, .int .i64 x1.n.wt, .int .i64 x1.n.pass, .bool x1.n.thr, .bool false, .int .i64 x1.n.now, .pointer (some ⟨x1.ib, 0, none⟩)] :: blk t 57 [.map (some mb)] :: mapS mb (T1.map kp) :: idxS x1.ib 60 x1.q :: blk p.b 54 [.int .i64 p.n.id, .int .i64 p.n.par, .int .i64 p.n.wt, .int .i64 p.n.pass, .bool p.n.thr, .bool p.n.rdy, .int .i64 p.n.now, .pointer (some ⟨p.ib, 0, none⟩)] :: (nodesL R ++ H))) [] 15 (by kernel_rfl) (by kernel_rfl) (by kernel_rfl) (fun _ h => by first | exact h | exact h.tail | exact h.tail.tail | exact h.tail.tail.tail | exact h.tail.tail.tail.tail) ?_
        refine takesR [0, 1, 2, 3, 4, 5, 6, 7, 8, 9, 10, 11] [0, 1, 4, 35, 39, 44] 3 [true, true, true, true, true, true, true, true, true, true, true, true, false, false, false] [(0, .pointer (some ⟨t, 0, none⟩)), (1, .pointer (some ⟨x1.b, 0, none⟩)), (4, .pointer (some ⟨p.b, 0, none⟩)), (35, .bool false), (39, .pointer (some ⟨p.ib, 0, none⟩)), (44, .int .i64 x1.n.id)] [(⟨p.b, 7, none⟩, .pointer (some ⟨p.ib, 0, none⟩)), (⟨x1.b, 0, none⟩, .int .i64 x1.n.id)] rfl (fun _ d _ _ _ h => by cases d <;> exact h) (fun _ h => by first | exact h | exact h.tail | exact h.tail.tail | exact h.tail.tail.tail | exact h.tail.tail.tail.tail) (hasC (blkAt (T := 54) (cs := [.int .i64 p.n.id, .int .i64 p.n.par, .int .i64 p.n.wt, .int .i64 p.n.pass, .bool p.n.thr, .bool p.n.rdy, .int .i64 p.n.now, .pointer (some ⟨p.ib, 0, none⟩)]) 4 rfl rfl) (hasC (blkAt (T := 54) (cs := [.int .i64 x1.n.id, .int .i64 x1.n.par, .int .i64 x1.n.wt, .int .i64 x1.n.pass, .bool x1.n.thr, .bool false, .int .i64 x1.n.now, .pointer (some ⟨x1.ib, 0, none⟩)]) 0 rfl rfl) has0)) (fun _ => by kernel_rfl) ?_
        refine oneR 12 2 [true, true, true, true, true, true, true, true, true, true, true, true, true, false, false] rfl rfl (by kernel_rfl) (callS 36 [.pointer (some ⟨p.ib, 0, none⟩), .int .i64 x1.n.id] (some 45) (fun _ => .nilIface) (fun _ => (idxS p.ib 60 q :: blk x1.b 54 [.int .i64 x1.n.id, .int .i64 x1.n.par, .int .i64 x1.n.wt, .int .i64 x1.n.pass, .bool x1.n.thr, .bool false, .int .i64 x1.n.now, .pointer (some ⟨x1.ib, 0, none⟩)] :: blk t 57 [.map (some mb)] :: mapS mb (T1.map kp) :: idxS x1.ib 60 x1.q :: blk p.b 54 [.int .i64 p.n.id, .int .i64 p.n.par, .int .i64 p.n.wt, .int .i64 p.n.pass, .bool p.n.thr, .bool p.n.rdy, .int .i64 p.n.now, .pointer (some ⟨p.ib, 0, none⟩)] :: (nodesL R ++ H))) (fun _ => by kernel_rfl) (drop_ok hdr hql _ _)) (fun _ _ h hn => by first | exact h | exact h.tail | exact h.tail.tail | exact h.tail.tail.tail | exact h.tail.tail.tail.tail | exact absurd hn (by decide)) (fun _ => ?_)
        refine takesR [13, 14] [0, 1, 4, 47] 0 [true, true, true, true, true, true, true, true, true, true, true, true, true, true, true] [(0, .pointer (some ⟨t, 0, none⟩)), (1, .pointer (some ⟨x1.b, 0, none⟩)), (4, .pointer (some ⟨p.b, 0, none⟩)), (47, .bool false)] [] rfl (fun _ d _ _ _ h => by cases d <;> exact h) (fun _ h => by first | exact h | exact h.tail | exact h.tail.tail | exact h.tail.tail.tail | exact h.tail.tail.tail.tail) has0 (fun _ => by kernel_rfl) ?_
        refine drawnR (by kernel_rfl) ?_
        refine condR (b := false) (by kernel_rfl) (fun _ => by kernel_rfl) (fun h => by cases h) (fun _ => ?_)
        refine skipR (by kernel_rfl) ?_
        refine seqR (by kernel_rfl) ?_
        refine regionR 2 (by kernel_rfl) (by kernel_rfl) ?_
        refine (run0 (z := 0) 2 [0, 1] [(0, .pointer (some ⟨t, 0, none⟩)), (1, .pointer (some ⟨p.b, 0, none⟩))] (fun _ => by kernel_rfl) (endR ?_) : RT _ _ _ _ _ _ 2 _)
        refine gotoR 0 (by kernel_rfl) (by kernel_rfl) ?_
        refine PT.pick 0 rfl ?_
        refine PT.pick 5 rfl ?_
        refine PT.pick 5 rfl ?_
        refine PT.pick 3 rfl ?_
        refine PT.pick 5 rfl ?_
        refine PT.pick 5 rfl ?_
        refine PT.close2 ({ x1 with n := rsF x1.n }) ({ p with q := q }) (hR2 _ _) ?_
        rw [← hsm.kp]
        have hpj : ((T1.set i { x1 with n := rsF x1.n }).set j { p with q := q })[j]? = some { p with q := q } := by rw [List.getElem?_set_self (by rw [List.length_set]; exact (List.getElem?_eq_some_iff.1 hj).1)]
        refine PT.keep (L' := [(0, .pointer (some ⟨t, 0, none⟩)), (1, .pointer (some ⟨p.b, 0, none⟩))]) [0, 1] rfl ?_
        exact jumpR (hK k (_, { p with q := q }) (by omega) ⟨⟨_, hT2, hs2, hb2, hr1.ups rsF_skel, by rw [he, restN, hgx]; simp only [if_neg h2, hg]; rw [hpk]; rfl⟩, hsame.trans hsm, ⟨j, hpj⟩, by have := RK.up hs1 hr1 (hT1.mem_n hm) (hT1.mem_n (List.mem_of_getElem? hj)) hpk; simp only; omega⟩)
  · skip
    intro K hK
    refine seqR (by kernel_rfl) ?_
    refine labelR (by kernel_rfl) ?_
    refine PT.keep (L' := [(0, .pointer (some ⟨t, 0, none⟩)), (1, .pointer (some ⟨x.b, 0, none⟩))]) [0, 1] rfl ?_
    refine codeR (by kernel_rfl) (hK 6 (T, x) ⟨⟨N, hT, hsk, hlb, hrk, rfl⟩, SameT.refl T, ⟨i0, hx⟩, by have := (hrk _ (hT.mem_n (List.mem_of_getElem? hx))).2.2.1; simp only; omega⟩)
end Go.Proofs.YtjbjngikaiggdaaGreat
