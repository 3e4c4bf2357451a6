/- tree: Ready, sets, has. Conditions: none. -/
import Derived.Test.YtjbjngikaiggdaaGreatTw
import Derived.Test.YtjbjngikaiggdaaGreatTz
set_option linter.unusedVariables false
set_option linter.unusedSimpArgs false
namespace Go.Proofs.YtjbjngikaiggdaaGreat
open Go.RowKit G
set_option maxRecDepth 100000 in
theorem ready_walk {N : List Nr} {T : List Nd} (hT : OkT N T) (hsk : SK N) (hlb : LB N) (H : List SP) (t mb : Nat) (id : Int) (r : Bool) : ∀ w, Sat w (blk t 57 [.map (some mb)] :: mapS mb (T.map kp) :: (nodesL T ++ H)) → Calls Tryz.prog 8 #[.pointer (some ⟨t, 0, none⟩), .int .i64 id, .bool r] w (Ret (ι := { T' : List Nd // OkT (readyN N id r).2 T' ∧ SameT T T' }) (fun _ => pqErr (readyN N id r).1) fun T' => blk t 57 [.map (some mb)] :: mapS mb (T'.1.map kp) :: (nodesL T'.1 ++ H)) := by
  refine enterG (fn := Tryz.f8) 38 [.pointer (some ⟨t, 0, none⟩), .int .i64 id, .bool r] Tryz.func8 (by kernel_rfl) (by kernel_rfl) (by kernel_rfl) ?_
  cases hg : gt N id with
  | none =>
    refine seqR (by kernel_rfl) ?_
    refine regionR 1 (by kernel_rfl) (by kernel_rfl) ?_
    refine (run0 (z := 0) 1 [0, 1, 2, 6] [(0, .pointer (some ⟨t, 0, none⟩)), (1, .int .i64 id), (2, .bool r), (6, .nilIface)] (fun _ => by kernel_rfl) (endR ?_) : RT _ _ _ _ _ _ 1 _)
    refine seqR (by kernel_rfl) ?_
    refine regionR 11 (by kernel_rfl) (by kernel_rfl) ?_
    refine (runR (H := (blk t 57 [.map (some mb)] :: mapS mb (T.map kp) :: (nodesL T ++ H))) (z := 6) 5 [0, 2, 6, 13, 14] [(0, .pointer (some ⟨t, 0, none⟩)), (2, .bool r), (6, .nilIface), (13, .map (some mb)), (14, .int .i64 id)] [(⟨t, 0, none⟩, .map (some mb))] (hasC (blkAt (T := 57) (cs := [.map (some mb)]) 0 rfl rfl) has0) (fun _ => by kernel_rfl) ?_ : RT _ _ _ _ _ _ 11 _)
    refine (stepR (z := 5) (yldS (lookY 55 (.tmp 13) (.tmp 14) true mb id (T.map kp) (.pointer none) (.tuple #[.pointer none, .bool false]) 3 50 (some 15) (fun _ => by kernel_rfl) (by kernel_rfl) (by kernel_rfl) (fun _ => by kernel_rfl) (fun _ => by kernel_rfl) Tryz.underlying55 (by kernel_rfl) (fun _ => by kernel_rfl) (mapAt (H := (blk t 57 [.map (some mb)] :: mapS mb (T.map kp) :: (nodesL T ++ H))) (i := 1) rfl) (by rw [lk_none hT hg]; rfl))) (fun _ => ?_) : RT _ _ _ _ _ _ 6 _)
    refine (run0 (z := 0) 5 [0, 2, 6, 7, 8] [(0, .pointer (some ⟨t, 0, none⟩)), (2, .bool r), (6, .nilIface), (7, .pointer none), (8, .bool false)] (fun _ => by kernel_rfl) (endR ?_) : RT _ _ _ _ _ _ 5 _)
    refine seqR (by kernel_rfl) ?_
    refine blockR 0 (by kernel_rfl) (by kernel_rfl) ?_
    refine seqR (by kernel_rfl) ?_
    refine regionR 11 (by kernel_rfl) (by kernel_rfl) ?_
    refine (run0 (z := 0) 11 [0, 2, 6, 7, 21] [(0, .pointer (some ⟨t, 0, none⟩)), (2, .bool r), (6, .nilIface), (7, .pointer none), (21, .bool true)] (fun _ => by kernel_rfl) (endR ?_) : RT _ _ _ _ _ _ 11 _)
    refine condR (b := true) (by kernel_rfl) (fun _ => by kernel_rfl) (fun _ => ?_) (fun h => by cases h)
    refine seqR (by kernel_rfl) ?_
    refine regionR 2 (by kernel_rfl) (by kernel_rfl) ?_
    refine (run0 (z := 0) 2 [6] [(6, .iface 46 (.int .i64 13))] (fun _ => by kernel_rfl) (endR ?_) : RT _ _ _ _ _ _ 2 _)
    refine retR (by kernel_rfl) ?_
    refine blockV ?_
    refine thenV ?_
    have hrn : readyN N id r = (13, N) := by rw [readyN, hg]
    refine done0 (.iface 46 (.int .i64 13)) (fun _ => by kernel_rfl) (fun w hs => ?_) .ret (.inr rfl)
    exact ⟨⟨T, by rw [hrn]; exact hT, SameT.refl T⟩, by show _ = Ending.returned (pqErr (readyN N id r).1); rw [hrn]; rfl, hs⟩
  | some y =>
    obtain ⟨i, z, hi, hzn, hzk⟩ := hT.get hg
    have hm := List.mem_of_getElem? hi
    refine seqR (by kernel_rfl) ?_
    refine regionR 1 (by kernel_rfl) (by kernel_rfl) ?_
    refine (run0 (z := 0) 1 [0, 1, 2, 6] [(0, .pointer (some ⟨t, 0, none⟩)), (1, .int .i64 id), (2, .bool r), (6, .nilIface)] (fun _ => by kernel_rfl) (endR ?_) : RT _ _ _ _ _ _ 1 _)
    refine seqR (by kernel_rfl) ?_
    refine regionR 11 (by kernel_rfl) (by kernel_rfl) ?_
    refine (runR (H := (blk t 57 [.map (some mb)] :: mapS mb (T.map kp) :: (nodesL T ++ H))) (z := 6) 5 [0, 2, 6, 13, 14] [(0, .pointer (some ⟨t, 0, none⟩)), (2, .bool r), (6, .nilIface), (13, .map (some mb)), (14, .int .i64 id)] [(⟨t, 0, none⟩, .map (some mb))] (hasC (blkAt (T := 57) (cs := [.map (some mb)]) 0 rfl rfl) has0) (fun _ => by kernel_rfl) ?_ : RT _ _ _ _ _ _ 11 _)
    refine (stepR (z := 5) (yldS (lookY 55 (.tmp 13) (.tmp 14) true mb id (T.map kp) (.pointer none) (.tuple #[.pointer (some ⟨z.b, 0, none⟩), .bool true]) 3 50 (some 15) (fun _ => by kernel_rfl) (by kernel_rfl) (by kernel_rfl) (fun _ => by kernel_rfl) (fun _ => by kernel_rfl) Tryz.underlying55 (by kernel_rfl) (fun _ => by kernel_rfl) (mapAt (H := (blk t 57 [.map (some mb)] :: mapS mb (T.map kp) :: (nodesL T ++ H))) (i := 1) rfl) (by rw [lk_some hT hsk.nd hi hzk]; rfl))) (fun _ => ?_) : RT _ _ _ _ _ _ 6 _)
    refine (run0 (z := 0) 5 [0, 2, 6, 7, 8] [(0, .pointer (some ⟨t, 0, none⟩)), (2, .bool r), (6, .nilIface), (7, .pointer (some ⟨z.b, 0, none⟩)), (8, .bool true)] (fun _ => by kernel_rfl) (endR ?_) : RT _ _ _ _ _ _ 5 _)
    refine seqR (by kernel_rfl) ?_
    refine blockR 0 (by kernel_rfl) (by kernel_rfl) ?_
    refine seqR (by kernel_rfl) ?_
    refine regionR 11 (by kernel_rfl) (by kernel_rfl) ?_
    refine (runR (H := (blk t 57 [.map (some mb)] :: mapS mb (T.map kp) :: (nodesL T ++ H))) (z := 0) 11 [0, 2, 6, 7, 21] [(0, .pointer (some ⟨t, 0, none⟩)), (2, .bool r), (6, .nilIface), (7, .pointer (some ⟨z.b, 0, none⟩)), (21, .bool (!z.n.thr))] [(⟨z.b, 4, none⟩, .bool z.n.thr)] (hasC (up (up (nodeAt (T := T) hm (j := 4) rfl))) has0) (fun _ => by kernel_rfl) (endR ?_) : RT _ _ _ _ _ _ 11 _)
    refine condR (b := !z.n.thr) (by kernel_rfl) (fun _ => by kernel_rfl) (fun h1 => ?_) (fun h1 => ?_)
    · skip
      have hth : y.thr = false := by rw [← hzn]; simpa using h1
      refine seqR (by kernel_rfl) ?_
      refine regionR 2 (by kernel_rfl) (by kernel_rfl) ?_
      refine (run0 (z := 0) 2 [6] [(6, .iface 46 (.int .i64 13))] (fun _ => by kernel_rfl) (endR ?_) : RT _ _ _ _ _ _ 2 _)
      refine retR (by kernel_rfl) ?_
      refine blockV ?_
      refine thenV ?_
      have hrn : readyN N id r = (13, N) := by rw [readyN, hg]; simp only [hth]; rfl
      refine done0 (.iface 46 (.int .i64 13)) (fun _ => by kernel_rfl) (fun w hs => ?_) .ret (.inr rfl)
      exact ⟨⟨T, by rw [hrn]; exact hT, SameT.refl T⟩, by show _ = Ending.returned (pqErr (readyN N id r).1); rw [hrn]; rfl, hs⟩
    · skip
      have hth : y.thr = true := by rw [← hzn]; simpa using h1
      refine seqR (by kernel_rfl) ?_
      refine regionR 2 (by kernel_rfl) (by kernel_rfl) ?_
      refine (run0 (z := 0) 2 [0, 6, 7, 33] [(0, .pointer (some ⟨t, 0, none⟩)), (6, .nilIface), (7, .pointer (some ⟨z.b, 0, none⟩)), (33, .bool r)] (fun _ => by kernel_rfl) (endR ?_) : RT _ _ _ _ _ _ 2 _)
      refine condR (b := r) (by kernel_rfl) (fun _ => by kernel_rfl) (fun h2 => ?_) (fun h2 => ?_)
      · skip
        refine regionR 3 (by kernel_rfl) (by kernel_rfl) ?_
        refine (run0 (z := 1) 2 [6, 35, 36] [(6, .nilIface), (35, .pointer (some ⟨t, 0, none⟩)), (36, .pointer (some ⟨z.b, 0, none⟩))] (fun _ => by kernel_rfl) ?_ : RT _ _ _ _ _ _ 3 _)
        refine (stepR (z := 0) (callS 19 [.pointer (some ⟨t, 0, none⟩), .pointer (some ⟨z.b, 0, none⟩)] (some 37) (fun (T' : { T' : List Nd // OkT (wakeN 6 N z.n.id) T' ∧ SameT T T' }) => .tuple #[]) (fun (T' : { T' : List Nd // OkT (wakeN 6 N z.n.id) T' ∧ SameT T T' }) => blk t 57 [.map (some mb)] :: mapS mb (T'.1.map kp) :: (nodesL T'.1 ++ H)) (fun _ => by kernel_rfl) (wakes_walk hT hsk hlb hi H t mb)) (fun (T' : { T' : List Nd // OkT (wakeN 6 N z.n.id) T' ∧ SameT T T' }) => ?_) : RT _ _ _ _ _ _ 1 _)
        refine endR ?_
        refine seqR (by kernel_rfl) ?_
        refine regionR 1 (by kernel_rfl) (by kernel_rfl) ?_
        refine (run0 (z := 0) 1 [6] [(6, .nilIface)] (fun _ => by kernel_rfl) (endR ?_) : RT _ _ _ _ _ _ 1 _)
        refine retR (by kernel_rfl) ?_
        have hrn : readyN N id r = (0, wakeN 6 N z.n.id) := by rw [readyN, hg]; simp only [hth, h2, if_true]; rw [← hzk]
        refine done0 (.nilIface) (fun _ => by kernel_rfl) (fun w hs => ?_) .ret (.inr rfl)
        exact ⟨⟨T'.1, by rw [hrn]; exact T'.2.1, T'.2.2⟩, by show _ = Ending.returned (pqErr (readyN N id r).1); rw [hrn]; rfl, hs⟩
      · skip
        refine regionR 3 (by kernel_rfl) (by kernel_rfl) ?_
        refine (run0 (z := 1) 2 [6, 18, 19] [(6, .nilIface), (18, .pointer (some ⟨t, 0, none⟩)), (19, .pointer (some ⟨z.b, 0, none⟩))] (fun _ => by kernel_rfl) ?_ : RT _ _ _ _ _ _ 3 _)
        refine (stepR (z := 0) (callS 20 [.pointer (some ⟨t, 0, none⟩), .pointer (some ⟨z.b, 0, none⟩)] (some 20) (fun (T' : { T' : List Nd // OkT (restN 6 N z.n.id) T' ∧ SameT T T' }) => .tuple #[]) (fun (T' : { T' : List Nd // OkT (restN 6 N z.n.id) T' ∧ SameT T T' }) => blk t 57 [.map (some mb)] :: mapS mb (T'.1.map kp) :: (nodesL T'.1 ++ H)) (fun _ => by kernel_rfl) (rests_walk hT hsk hlb hi H t mb)) (fun (T' : { T' : List Nd // OkT (restN 6 N z.n.id) T' ∧ SameT T T' }) => ?_) : RT _ _ _ _ _ _ 1 _)
        refine endR ?_
        refine seqR (by kernel_rfl) ?_
        refine regionR 1 (by kernel_rfl) (by kernel_rfl) ?_
        refine (run0 (z := 0) 1 [6] [(6, .nilIface)] (fun _ => by kernel_rfl) (endR ?_) : RT _ _ _ _ _ _ 1 _)
        refine retR (by kernel_rfl) ?_
        have hrn : readyN N id r = (0, restN 6 N z.n.id) := by rw [readyN, hg]; simp only [hth, h2, if_true, Bool.false_eq_true, if_false]; rw [← hzk]
        refine done0 (.nilIface) (fun _ => by kernel_rfl) (fun w hs => ?_) .ret (.inr rfl)
        exact ⟨⟨T'.1, by rw [hrn]; exact T'.2.1, T'.2.2⟩, by show _ = Ending.returned (pqErr (readyN N id r).1); rw [hrn]; rfl, hs⟩
theorem set_same {α : Type} {l : List α} {i : Nat} {x : α} (h : l[i]? = some x) : l.set i x = l := by
  apply List.ext_getElem?
  intro j
  rw [List.getElem?_set]
  split
  · rename_i e; subst e; rw [if_pos (List.getElem?_eq_some_iff.1 h).1, h]
  · rfl
set_option maxRecDepth 100000 in
theorem sets_walk {N : List Nr} {T : List Nd} (hT : OkT N T) (hsk : SK N) (hlb : LB N) {i : Nat} {x : Nd} (hi : T[i]? = some x) {y : Nr} (hg : gt N x.n.par = some y) {P : Int} (hP : 0 ≤ P ∧ P ≤ 1099511627776) (H : List SP) (t mb : Nat) : ∀ w, Sat w (blk t 57 [.map (some mb)] :: mapS mb (T.map kp) :: (nodesL T ++ H)) → Calls Tryz.prog 22 #[.pointer (some ⟨t, 0, none⟩), .pointer (some ⟨x.b, 0, none⟩), .int .i64 P] w (Ret (ι := { T' : List Nd // OkT (upN N x.n.id (psF P)) T' ∧ SameT T T' ∧ SK (upN N x.n.id (psF P)) ∧ LB (upN N x.n.id (psF P)) }) (fun _ => .nilIface) fun T' => blk t 57 [.map (some mb)] :: mapS mb (T'.1.map kp) :: (nodesL T'.1 ++ H)) := by
  have hm := List.mem_of_getElem? hi
  obtain ⟨j, p, hj, hpn, hpk⟩ := hT.get hg
  have hij : i ≠ j := fun e => by subst e; rw [hi] at hj; cases hj; exact hsk.ne_par (hT.mem_n hm) hpk
  obtain ⟨R, hR, hR2⟩ := perm2 hi hj hij
  refine enterG (fn := Tryz.f22) 43 [.pointer (some ⟨t, 0, none⟩), .pointer (some ⟨x.b, 0, none⟩), .int .i64 P] Tryz.func22 (by kernel_rfl) (by kernel_rfl) (by kernel_rfl) ?_
  refine PT.open2 (hR) ?_
  refine seqR (by kernel_rfl) ?_
  refine regionR 1 (by kernel_rfl) (by kernel_rfl) ?_
  refine (run0 (z := 0) 1 [0, 1, 2, 6] [(0, .pointer (some ⟨t, 0, none⟩)), (1, .pointer (some ⟨x.b, 0, none⟩)), (2, .int .i64 P), (6, .nilIface)] (fun _ => by kernel_rfl) (endR ?_) : RT _ _ _ _ _ _ 1 _)
  refine seqR (by kernel_rfl) ?_
  refine regionR 6 (by kernel_rfl) (by kernel_rfl) ?_
  refine (run0 (z := 1) 5 [0, 1, 2, 6, 9, 12] [(0, .pointer (some ⟨t, 0, none⟩)), (1, .pointer (some ⟨x.b, 0, none⟩)), (2, .int .i64 P), (6, .nilIface), (9, .int .i64 P), (12, .pointer (some ⟨x.b, 3, none⟩))] (fun _ => by kernel_rfl) ?_ : RT _ _ _ _ _ _ 6 _)
  refine (RT.pick 2 rfl ?_ : RT _ _ _ (blk t 57 [.map (some mb)] :: mapS mb (T.map kp) :: blk x.b 54 [.int .i64 x.n.id, .int .i64 x.n.par, .int .i64 x.n.wt, .int .i64 x.n.pass, .bool x.n.thr, .bool x.n.rdy, .int .i64 x.n.now, .pointer (some ⟨x.ib, 0, none⟩)] :: idxS x.ib 60 x.q :: blk p.b 54 [.int .i64 p.n.id, .int .i64 p.n.par, .int .i64 p.n.wt, .int .i64 p.n.pass, .bool p.n.thr, .bool p.n.rdy, .int .i64 p.n.now, .pointer (some ⟨p.ib, 0, none⟩)] :: idxS p.ib 60 p.q :: (nodesL R ++ H)) _ _ 1 _)
  refine (stepR (z := 0) (storeS [(3, .int .i64 P)] [.int .i64 x.n.id, .int .i64 x.n.par, .int .i64 x.n.wt, .int .i64 P, .bool x.n.thr, .bool x.n.rdy, .int .i64 x.n.now, .pointer (some ⟨x.ib, 0, none⟩)] (fun _ => by kernel_rfl) (by kernel_rfl) (by kernel_rfl)) (fun _ => ?_) : RT _ _ _ _ _ _ 1 _)
  refine endR ?_
  refine seqR (by kernel_rfl) ?_
  refine seqR (by kernel_rfl) ?_
  refine drawR (fun w => Sat w (blk x.b 54 [.int .i64 x.n.id, .int .i64 x.n.par, .int .i64 x.n.wt, .int .i64 P, .bool x.n.thr, .bool x.n.rdy, .int .i64 x.n.now, .pointer (some ⟨x.ib, 0, none⟩)] :: blk t 57 [.map (some mb)] :: mapS mb (T.map kp) :: idxS x.ib 60 x.q :: blk p.b 54 [.int .i64 p.n.id, .int .i64 p.n.par, .int .i64 p.n.wt, .int .i64 p.n.pass, .bool p.n.thr, .bool p.n.rdy, .int .i64 p.n.now, .pointer (some ⟨p.ib, 0, none⟩)] :: idxS p.ib 60 p.q :: (nodesL R ++ H))) [] 11 (by kernel_rfl) (by kernel_rfl) (by kernel_rfl) (fun _ h => by first | exact h | exact h.tail | exact h.tail.tail | exact h.tail.tail.tail | exact h.tail.tail.tail.tail) ?_
  refine takesR [0, 1, 2, 3, 4, 5, 6, 7, 8] [1, 2, 6, 16, 21] 2 [true, true, true, true, true, true, true, true, true, false, false] [(1, .pointer (some ⟨x.b, 0, none⟩)), (2, .int .i64 P), (6, .nilIface), (16, .map (some mb)), (21, .int .i64 x.n.par)] [(⟨t, 0, none⟩, .map (some mb)), (⟨x.b, 1, none⟩, .int .i64 x.n.par)] rfl (fun _ d _ _ _ h => by cases d <;> exact h) (fun _ h => by first | exact h | exact h.tail | exact h.tail.tail | exact h.tail.tail.tail | exact h.tail.tail.tail.tail) (hasC (blkAt (T := 57) (cs := [.map (some mb)]) 1 rfl rfl) (hasC (blkAt (T := 54) (cs := [.int .i64 x.n.id, .int .i64 x.n.par, .int .i64 x.n.wt, .int .i64 P, .bool x.n.thr, .bool x.n.rdy, .int .i64 x.n.now, .pointer (some ⟨x.ib, 0, none⟩)]) 0 rfl rfl) has0)) (fun _ => by kernel_rfl) ?_
  refine takeR1 9 1 [true, true, true, true, true, true, true, true, true, true, false] rfl rfl (by kernel_rfl) (fun _ d _ _ _ h => by cases d <;> exact h) (fun _ h => by first | exact h | exact h.tail | exact h.tail.tail | exact h.tail.tail.tail | exact h.tail.tail.tail.tail) (lookY 55 (.tmp 16) (.tmp 21) false mb x.n.par (T.map kp) (.pointer none) (.pointer (some ⟨p.b, 0, none⟩)) 3 50 (some 22) (fun _ => by kernel_rfl) (by kernel_rfl) (by kernel_rfl) (fun _ => by kernel_rfl) (fun _ => by kernel_rfl) Tryz.underlying55 (by kernel_rfl) (fun _ => by kernel_rfl) (mapAt (H := (blk x.b 54 [.int .i64 x.n.id, .int .i64 x.n.par, .int .i64 x.n.wt, .int .i64 P, .bool x.n.thr, .bool x.n.rdy, .int .i64 x.n.now, .pointer (some ⟨x.ib, 0, none⟩)] :: blk t 57 [.map (some mb)] :: mapS mb (T.map kp) :: idxS x.ib 60 x.q :: blk p.b 54 [.int .i64 p.n.id, .int .i64 p.n.par, .int .i64 p.n.wt, .int .i64 p.n.pass, .bool p.n.thr, .bool p.n.rdy, .int .i64 p.n.now, .pointer (some ⟨p.ib, 0, none⟩)] :: idxS p.ib 60 p.q :: (nodesL R ++ H))) (i := 2) rfl) (by rw [lk_some hT hsk.nd hj hpk]; rfl)) ?_
  refine takesR [10] [1, 2, 6, 7] 0 [true, true, true, true, true, true, true, true, true, true, true] [(1, .pointer (some ⟨x.b, 0, none⟩)), (2, .int .i64 P), (6, .nilIface), (7, .pointer (some ⟨p.b, 0, none⟩))] [] rfl (fun _ d _ _ _ h => by cases d <;> exact h) (fun _ h => by first | exact h | exact h.tail | exact h.tail.tail | exact h.tail.tail.tail | exact h.tail.tail.tail.tail) has0 (fun _ => by kernel_rfl) ?_
  refine drawnR (by kernel_rfl) ?_
  refine seqR (by kernel_rfl) ?_
  refine regionR 9 (by kernel_rfl) (by kernel_rfl) ?_
  refine (runR (H := (blk x.b 54 [.int .i64 x.n.id, .int .i64 x.n.par, .int .i64 x.n.wt, .int .i64 P, .bool x.n.thr, .bool x.n.rdy, .int .i64 x.n.now, .pointer (some ⟨x.ib, 0, none⟩)] :: blk t 57 [.map (some mb)] :: mapS mb (T.map kp) :: idxS x.ib 60 x.q :: blk p.b 54 [.int .i64 p.n.id, .int .i64 p.n.par, .int .i64 p.n.wt, .int .i64 p.n.pass, .bool p.n.thr, .bool p.n.rdy, .int .i64 p.n.now, .pointer (some ⟨p.ib, 0, none⟩)] :: idxS p.ib 60 p.q :: (nodesL R ++ H))) (z := 0) 9 [1, 2, 6, 7, 31] [(1, .pointer (some ⟨x.b, 0, none⟩)), (2, .int .i64 P), (6, .nilIface), (7, .pointer (some ⟨p.b, 0, none⟩)), (31, .bool x.n.rdy)] [(⟨x.b, 5, none⟩, .bool x.n.rdy)] (hasC (blkAt (T := 54) (cs := [.int .i64 x.n.id, .int .i64 x.n.par, .int .i64 x.n.wt, .int .i64 P, .bool x.n.thr, .bool x.n.rdy, .int .i64 x.n.now, .pointer (some ⟨x.ib, 0, none⟩)]) 0 rfl rfl) has0) (fun _ => by kernel_rfl) (endR ?_) : RT _ _ _ _ _ _ 9 _)
  refine condR (b := x.n.rdy) (by kernel_rfl) (fun _ => by kernel_rfl) (fun h1 => ?_) (fun h1 => ?_)
  · skip
    obtain ⟨_, hql, hqs, q, hrk, hT2, hsm, hs2, hb2⟩ := sets_round hT hsk hlb hi hj hpk h1 hP
    refine seqR (by kernel_rfl) ?_
    refine PT.pick 5 rfl ?_
    refine drawR (fun w => Sat w (blk x.b 54 [.int .i64 x.n.id, .int .i64 x.n.par, .int .i64 x.n.wt, .int .i64 P, .bool x.n.thr, .bool x.n.rdy, .int .i64 x.n.now, .pointer (some ⟨x.ib, 0, none⟩)] :: blk t 57 [.map (some mb)] :: mapS mb (T.map kp) :: idxS x.ib 60 x.q :: blk p.b 54 [.int .i64 p.n.id, .int .i64 p.n.par, .int .i64 p.n.wt, .int .i64 p.n.pass, .bool p.n.thr, .bool p.n.rdy, .int .i64 p.n.now, .pointer (some ⟨p.ib, 0, none⟩)] :: (nodesL R ++ H))) [] 12 (by kernel_rfl) (by kernel_rfl) (by kernel_rfl) (fun _ h => by first | exact h | exact h.tail | exact h.tail.tail | exact h.tail.tail.tail | exact h.tail.tail.tail.tail) ?_
    refine takesR [0, 1, 2, 3, 4, 5, 6, 7, 8, 9] [6, 35, 40, 41] 2 [true, true, true, true, true, true, true, true, true, true, false, false] [(6, .nilIface), (35, .pointer (some ⟨p.ib, 0, none⟩)), (40, .int .i64 x.n.id), (41, .int .i64 P)] [(⟨p.b, 7, none⟩, .pointer (some ⟨p.ib, 0, none⟩)), (⟨x.b, 0, none⟩, .int .i64 x.n.id)] rfl (fun _ d _ _ _ h => by cases d <;> exact h) (fun _ h => by first | exact h | exact h.tail | exact h.tail.tail | exact h.tail.tail.tail | exact h.tail.tail.tail.tail) (hasC (blkAt (T := 54) (cs := [.int .i64 p.n.id, .int .i64 p.n.par, .int .i64 p.n.wt, .int .i64 p.n.pass, .bool p.n.thr, .bool p.n.rdy, .int .i64 p.n.now, .pointer (some ⟨p.ib, 0, none⟩)]) 4 rfl rfl) (hasC (blkAt (T := 54) (cs := [.int .i64 x.n.id, .int .i64 x.n.par, .int .i64 x.n.wt, .int .i64 P, .bool x.n.thr, .bool x.n.rdy, .int .i64 x.n.now, .pointer (some ⟨x.ib, 0, none⟩)]) 0 rfl rfl) has0)) (fun _ => by kernel_rfl) ?_
    refine oneR 10 1 [true, true, true, true, true, true, true, true, true, true, true, false] rfl rfl (by kernel_rfl) (callS 38 [.pointer (some ⟨p.ib, 0, none⟩), .int .i64 x.n.id, .int .i64 P] (some 42) (fun _ => .nilIface) (fun _ => (idxS p.ib 60 q :: blk x.b 54 [.int .i64 x.n.id, .int .i64 x.n.par, .int .i64 x.n.wt, .int .i64 P, .bool x.n.thr, .bool x.n.rdy, .int .i64 x.n.now, .pointer (some ⟨x.ib, 0, none⟩)] :: blk t 57 [.map (some mb)] :: mapS mb (T.map kp) :: idxS x.ib 60 x.q :: blk p.b 54 [.int .i64 p.n.id, .int .i64 p.n.par, .int .i64 p.n.wt, .int .i64 p.n.pass, .bool p.n.thr, .bool p.n.rdy, .int .i64 p.n.now, .pointer (some ⟨p.ib, 0, none⟩)] :: (nodesL R ++ H))) (fun _ => by kernel_rfl) (rekey_ok hrk hqs hql _ _)) (fun _ _ h hn => by first | exact h | exact h.tail | exact h.tail.tail | exact h.tail.tail.tail | exact h.tail.tail.tail.tail | exact absurd hn (by decide)) (fun _ => ?_)
    refine takesR [11] [6] 0 [true, true, true, true, true, true, true, true, true, true, true, true] [(6, .nilIface)] [] rfl (fun _ d _ _ _ h => by cases d <;> exact h) (fun _ h => by first | exact h | exact h.tail | exact h.tail.tail | exact h.tail.tail.tail | exact h.tail.tail.tail.tail) has0 (fun _ => by kernel_rfl) ?_
    refine drawnR (by kernel_rfl) ?_
    refine retR (by kernel_rfl) ?_
    refine thenV ?_
    refine PT.pick 0 rfl ?_
    refine PT.pick 5 rfl ?_
    refine PT.pick 5 rfl ?_
    refine PT.pick 3 rfl ?_
    refine PT.pick 5 rfl ?_
    refine PT.pick 5 rfl ?_
    refine PT.close2 ({ x with n := psF P x.n }) ({ p with q := q }) (hR2 _ _) ?_
    rw [← hsm.kp]
    refine done0 (.nilIface) (fun _ => by kernel_rfl) (fun w hs => ?_) .ret (.inr rfl)
    exact ⟨⟨_, hT2, hsm, hs2, hb2⟩, rfl, hs⟩
  · skip
    refine skipR (by kernel_rfl) ?_
    refine seqR (by kernel_rfl) ?_
    refine regionR 1 (by kernel_rfl) (by kernel_rfl) ?_
    refine (run0 (z := 0) 1 [6] [(6, .nilIface)] (fun _ => by kernel_rfl) (endR ?_) : RT _ _ _ _ _ _ 1 _)
    refine retR (by kernel_rfl) ?_
    refine PT.pick 0 rfl ?_
    refine PT.pick 2 rfl ?_
    refine PT.pick 2 rfl ?_
    refine PT.close2 ({ x with n := psF P x.n }) p (hR2 _ p) ?_
    have hsm : SameT T ((T.set i { x with n := psF P x.n }).set j p) := same2 hi hj hij ⟨rfl, rfl, rfl⟩ ⟨rfl, rfl, rfl⟩
    have hpj : (T.set i { x with n := psF P x.n })[j]? = some p := by rw [List.getElem?_set_ne hij]; exact hj
    have hsj : (T.set i { x with n := psF P x.n }).set j p = T.set i { x with n := psF P x.n } := set_same hpj
    rw [← hsm.kp]
    refine done0 (.nilIface) (fun _ => by kernel_rfl) (fun w hs => ?_) .ret (.inr rfl)
    exact ⟨⟨(T.set i { x with n := psF P x.n }).set j p, by rw [hsj]; exact hT.one hsk.nd hi (psF_skel P) (.inr ⟨rfl, .inr h1⟩), hsm, hsk.upN (psF_skel P), hlb.ups hsk.nd (hT.mem_n hm) (hlb.wt x.n (hT.mem_n hm)) hP (hlb.now x.n (hT.mem_n hm))⟩, rfl, hs⟩
end Go.Proofs.YtjbjngikaiggdaaGreat
