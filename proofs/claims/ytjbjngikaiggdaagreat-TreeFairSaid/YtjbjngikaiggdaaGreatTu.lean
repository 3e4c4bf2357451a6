/- tree: Add. Conditions: none. -/
import Derived.Test.YtjbjngikaiggdaaGreatTv
set_option linter.unusedVariables false
set_option linter.unusedSimpArgs false
namespace Go.Proofs.YtjbjngikaiggdaaGreat
open Go.RowKit G
theorem Sat.addT {t mb : Nat} {T : List Nd} {H : List SP} {x : Nd} {w : World} (h : Sat w (mapS mb (T.map kp ++ [kp x]) :: blk x.b 54 (ndc x) :: idxS x.ib 60 x.q :: blk t 57 [.map (some mb)] :: (nodesL T ++ H))) : Sat w (blk t 57 [.map (some mb)] :: mapS mb ((T ++ [x]).map kp) :: (nodesL (T ++ [x]) ++ H)) := by
  have h1 : Sat w (blk t 57 [.map (some mb)] :: mapS mb (T.map kp ++ [kp x]) :: (nodesL (x :: T) ++ H)) := h.pick 3 rfl
  have h2 : (T ++ [x]).map kp = T.map kp ++ [kp x] := by rw [List.map_append]; rfl
  rw [h2]
  exact Sat.nds (List.perm_append_comm (l₁ := [x]) (l₂ := T)) h1
set_option maxRecDepth 100000 in
theorem add_walk {N : List Nr} {T : List Nd} (hT : OkT N T) (hsk : SK N) (H : List SP) (t mb : Nat) (par id wt : Int) (thr : Bool) : ∀ w, Sat w (blk t 57 [.map (some mb)] :: mapS mb (T.map kp) :: (nodesL T ++ H)) → Calls Tryz.prog 7 #[.pointer (some ⟨t, 0, none⟩), .int .i64 par, .int .i64 id, .int .i64 wt, .bool thr] w (Ret (ι := { T' : List Nd // OkT (addN N par id wt thr).2 T' }) (fun _ => pqErr (addN N par id wt thr).1) fun T' => blk t 57 [.map (some mb)] :: mapS mb (T'.1.map kp) :: (nodesL T'.1 ++ H)) := by
  refine enterG (fn := Tryz.f7) 91 [.pointer (some ⟨t, 0, none⟩), .int .i64 par, .int .i64 id, .int .i64 wt, .bool thr] Tryz.func7 (by kernel_rfl) (by kernel_rfl) (by kernel_rfl) ?_
  cases hp : gt N par with
  | none =>
    cases hg : gt N id with
    | none =>
      refine seqR (by kernel_rfl) ?_
      refine regionR 1 (by kernel_rfl) (by kernel_rfl) ?_
      refine (run0 (z := 0) 1 [0, 1, 2, 3, 4, 10] [(0, .pointer (some ⟨t, 0, none⟩)), (1, .int .i64 par), (2, .int .i64 id), (3, .int .i64 wt), (4, .bool thr), (10, .nilIface)] (fun _ => by kernel_rfl) (endR ?_) : RT _ _ _ _ _ _ 1 _)
      refine seqR (by kernel_rfl) ?_
      refine regionR 11 (by kernel_rfl) (by kernel_rfl) ?_
      refine (runR (H := (blk t 57 [.map (some mb)] :: mapS mb (T.map kp) :: (nodesL T ++ H))) (z := 6) 5 [0, 1, 2, 3, 4, 10, 19, 20] [(0, .pointer (some ⟨t, 0, none⟩)), (1, .int .i64 par), (2, .int .i64 id), (3, .int .i64 wt), (4, .bool thr), (10, .nilIface), (19, .map (some mb)), (20, .int .i64 par)] [(⟨t, 0, none⟩, .map (some mb))] (hasC (blkAt (T := 57) (cs := [.map (some mb)]) 0 rfl rfl) has0) (fun _ => by kernel_rfl) ?_ : RT _ _ _ _ _ _ 11 _)
      refine (stepR (z := 5) (yldS (lookY 55 (.tmp 19) (.tmp 20) true mb par (T.map kp) (.pointer none) (.tuple #[.pointer none, .bool false]) 3 50 (some 21) (fun _ => by kernel_rfl) (by kernel_rfl) (by kernel_rfl) (fun _ => by kernel_rfl) (fun _ => by kernel_rfl) Tryz.underlying55 (by kernel_rfl) (fun _ => by kernel_rfl) (mapAt (H := (blk t 57 [.map (some mb)] :: mapS mb (T.map kp) :: (nodesL T ++ H))) (i := 1) rfl) (by rw [lk_none hT hp]; rfl))) (fun _ => ?_) : RT _ _ _ _ _ _ 6 _)
      refine (run0 (z := 0) 5 [0, 1, 2, 3, 4, 10, 11, 12] [(0, .pointer (some ⟨t, 0, none⟩)), (1, .int .i64 par), (2, .int .i64 id), (3, .int .i64 wt), (4, .bool thr), (10, .nilIface), (11, .pointer none), (12, .bool false)] (fun _ => by kernel_rfl) (endR ?_) : RT _ _ _ _ _ _ 5 _)
      refine seqR (by kernel_rfl) ?_
      refine regionR 11 (by kernel_rfl) (by kernel_rfl) ?_
      refine (runR (H := (blk t 57 [.map (some mb)] :: mapS mb (T.map kp) :: (nodesL T ++ H))) (z := 6) 5 [0, 1, 2, 3, 4, 10, 11, 12, 28, 29] [(0, .pointer (some ⟨t, 0, none⟩)), (1, .int .i64 par), (2, .int .i64 id), (3, .int .i64 wt), (4, .bool thr), (10, .nilIface), (11, .pointer none), (12, .bool false), (28, .map (some mb)), (29, .int .i64 id)] [(⟨t, 0, none⟩, .map (some mb))] (hasC (blkAt (T := 57) (cs := [.map (some mb)]) 0 rfl rfl) has0) (fun _ => by kernel_rfl) ?_ : RT _ _ _ _ _ _ 11 _)
      refine (stepR (z := 5) (yldS (lookY 55 (.tmp 28) (.tmp 29) true mb id (T.map kp) (.pointer none) (.tuple #[.pointer none, .bool false]) 3 50 (some 30) (fun _ => by kernel_rfl) (by kernel_rfl) (by kernel_rfl) (fun _ => by kernel_rfl) (fun _ => by kernel_rfl) Tryz.underlying55 (by kernel_rfl) (fun _ => by kernel_rfl) (mapAt (H := (blk t 57 [.map (some mb)] :: mapS mb (T.map kp) :: (nodesL T ++ H))) (i := 1) rfl) (by rw [lk_none hT hg]; rfl))) (fun _ => ?_) : RT _ _ _ _ _ _ 6 _)
      refine (run0 (z := 0) 5 [0, 1, 2, 3, 4, 10, 11, 12, 14] [(0, .pointer (some ⟨t, 0, none⟩)), (1, .int .i64 par), (2, .int .i64 id), (3, .int .i64 wt), (4, .bool thr), (10, .nilIface), (11, .pointer none), (12, .bool false), (14, .bool false)] (fun _ => by kernel_rfl) (endR ?_) : RT _ _ _ _ _ _ 5 _)
      refine seqR (by kernel_rfl) ?_
      refine blockR 0 (by kernel_rfl) (by kernel_rfl) ?_
      refine seqR (by kernel_rfl) ?_
      refine regionR 8 (by kernel_rfl) (by kernel_rfl) ?_
      refine (run0 (z := 7) 1 [0, 1, 2, 3, 4, 10, 11, 12, 14, 34] [(0, .pointer (some ⟨t, 0, none⟩)), (1, .int .i64 par), (2, .int .i64 id), (3, .int .i64 wt), (4, .bool thr), (10, .nilIface), (11, .pointer none), (12, .bool false), (14, .bool false), (34, .int .i64 wt)] (fun _ => by kernel_rfl) ?_ : RT _ _ _ _ _ _ 8 _)
      refine (stepR (z := 6) (callS 18 [.int .i64 wt] (some 35) (fun _ => .bool (isW wt)) (fun (_ : Unit) => (blk t 57 [.map (some mb)] :: mapS mb (T.map kp) :: (nodesL T ++ H))) (fun _ => by kernel_rfl) (strIs_walk _ wt)) (fun _ => ?_) : RT _ _ _ _ _ _ 7 _)
      refine (run0 (z := 4) 2 [0, 1, 2, 3, 4, 10, 11, 12, 14, 37] [(0, .pointer (some ⟨t, 0, none⟩)), (1, .int .i64 par), (2, .int .i64 id), (3, .int .i64 wt), (4, .bool thr), (10, .nilIface), (11, .pointer none), (12, .bool false), (14, .bool false), (37, .bool (!(isW wt)))] (fun _ => by kernel_rfl) ?_ : RT _ _ _ _ _ _ 6 _)
      refine (segR (ι := Unit) (z := 1) 3 (fun _ => [(0, .pointer (some ⟨t, 0, none⟩)), (1, .int .i64 par), (2, .int .i64 id), (3, .int .i64 wt), (4, .bool thr), (10, .nilIface), (11, .pointer none), (12, .bool false), (14, .bool false), (40, .bool ((!(isW wt)) || (decide (id < 1))))]) (fun _ => (blk t 57 [.map (some mb)] :: mapS mb (T.map kp) :: (nodesL T ++ H))) ?_ (fun _ => ?_) : RT _ _ _ _ _ _ 4 _)
      · cases hg4 : (!(isW wt)) with
        | true =>
          refine (run0 (z := 0) 3 [0, 1, 2, 3, 4, 10, 11, 12, 14, 40] [(0, .pointer (some ⟨t, 0, none⟩)), (1, .int .i64 par), (2, .int .i64 id), (3, .int .i64 wt), (4, .bool thr), (10, .nilIface), (11, .pointer none), (12, .bool false), (14, .bool false), (40, .bool true)] (fun _ => by kernel_rfl) (endR ?_) : RT _ _ _ _ _ _ 3 _)
          refine PT.keep (L' := [(0, .pointer (some ⟨t, 0, none⟩)), (1, .int .i64 par), (2, .int .i64 id), (3, .int .i64 wt), (4, .bool thr), (10, .nilIface), (11, .pointer none), (12, .bool false), (14, .bool false), (40, .bool (true || (decide (id < 1))))]) [0, 1, 2, 3, 4, 10, 11, 12, 14, 40] rfl ?_
          exact midR () rfl rfl
        | false =>
          refine (run0 (z := 0) 3 [0, 1, 2, 3, 4, 10, 11, 12, 14, 40] [(0, .pointer (some ⟨t, 0, none⟩)), (1, .int .i64 par), (2, .int .i64 id), (3, .int .i64 wt), (4, .bool thr), (10, .nilIface), (11, .pointer none), (12, .bool false), (14, .bool false), (40, .bool (decide (id < 1)))] (fun _ => by kernel_rfl) (endR ?_) : RT _ _ _ _ _ _ 3 _)
          refine PT.keep (L' := [(0, .pointer (some ⟨t, 0, none⟩)), (1, .int .i64 par), (2, .int .i64 id), (3, .int .i64 wt), (4, .bool thr), (10, .nilIface), (11, .pointer none), (12, .bool false), (14, .bool false), (40, .bool (false || (decide (id < 1))))]) [0, 1, 2, 3, 4, 10, 11, 12, 14, 40] rfl ?_
          exact midR () rfl rfl
      refine (run0 (z := 0) 1 [0, 1, 2, 3, 4, 10, 11, 12, 14, 33] [(0, .pointer (some ⟨t, 0, none⟩)), (1, .int .i64 par), (2, .int .i64 id), (3, .int .i64 wt), (4, .bool thr), (10, .nilIface), (11, .pointer none), (12, .bool false), (14, .bool false), (33, .bool ((!(isW wt)) || (decide (id < 1))))] (fun _ => by kernel_rfl) (endR ?_) : RT _ _ _ _ _ _ 1 _)
      refine condR (b := (!(isW wt)) || (decide (id < 1))) (by kernel_rfl) (fun _ => by kernel_rfl) (fun h1 => ?_) (fun h1 => ?_)
      · skip
        have hc1 : isW wt = false ∨ id < 1 := by simpa using h1
        have hrn : addN N par id wt thr = (10, N) := by rw [addN, if_pos hc1]
        refine seqR (by kernel_rfl) ?_
        refine regionR 2 (by kernel_rfl) (by kernel_rfl) ?_
        refine (run0 (z := 0) 2 [0, 1, 2, 3, 4, 10, 11] [(0, .pointer (some ⟨t, 0, none⟩)), (1, .int .i64 par), (2, .int .i64 id), (3, .int .i64 wt), (4, .bool thr), (10, .iface 46 (.int .i64 10)), (11, .pointer none)] (fun _ => by kernel_rfl) (endR ?_) : RT _ _ _ _ _ _ 2 _)
        refine retR (by kernel_rfl) ?_
        refine blockV ?_
        refine thenV ?_
        refine done0 (.iface 46 (.int .i64 10)) (fun _ => by kernel_rfl) (fun w hs => ?_) .ret (.inr rfl)
        exact ⟨⟨T, by rw [hrn]; exact hT⟩, by show _ = Ending.returned (pqErr (addN N par id wt thr).1); rw [hrn]; rfl, hs⟩
      · skip
        have hc1 : ¬ (isW wt = false ∨ id < 1) := by simpa using h1
        have hrn : addN N par id wt thr = (13, N) := by rw [addN, if_neg hc1, hp]
        refine seqR (by kernel_rfl) ?_
        refine regionR 10 (by kernel_rfl) (by kernel_rfl) ?_
        refine (run0 (z := 0) 10 [0, 1, 2, 3, 4, 10, 11, 14, 42] [(0, .pointer (some ⟨t, 0, none⟩)), (1, .int .i64 par), (2, .int .i64 id), (3, .int .i64 wt), (4, .bool thr), (10, .nilIface), (11, .pointer none), (14, .bool false), (42, .bool true)] (fun _ => by kernel_rfl) (endR ?_) : RT _ _ _ _ _ _ 10 _)
        refine condR (b := true) (by kernel_rfl) (fun _ => by kernel_rfl) (fun _ => ?_) (fun h => by cases h)
        refine seqR (by kernel_rfl) ?_
        refine regionR 2 (by kernel_rfl) (by kernel_rfl) ?_
        refine (run0 (z := 0) 2 [0, 1, 2, 3, 4, 10, 11] [(0, .pointer (some ⟨t, 0, none⟩)), (1, .int .i64 par), (2, .int .i64 id), (3, .int .i64 wt), (4, .bool thr), (10, .iface 46 (.int .i64 13)), (11, .pointer none)] (fun _ => by kernel_rfl) (endR ?_) : RT _ _ _ _ _ _ 2 _)
        refine retR (by kernel_rfl) ?_
        refine blockV ?_
        refine thenV ?_
        refine done0 (.iface 46 (.int .i64 13)) (fun _ => by kernel_rfl) (fun w hs => ?_) .ret (.inr rfl)
        exact ⟨⟨T, by rw [hrn]; exact hT⟩, by show _ = Ending.returned (pqErr (addN N par id wt thr).1); rw [hrn]; rfl, hs⟩
    | some y =>
      obtain ⟨i, z, hi, hzn, hzk⟩ := hT.get hg
      refine seqR (by kernel_rfl) ?_
      refine regionR 1 (by kernel_rfl) (by kernel_rfl) ?_
      refine (run0 (z := 0) 1 [0, 1, 2, 3, 4, 10] [(0, .pointer (some ⟨t, 0, none⟩)), (1, .int .i64 par), (2, .int .i64 id), (3, .int .i64 wt), (4, .bool thr), (10, .nilIface)] (fun _ => by kernel_rfl) (endR ?_) : RT _ _ _ _ _ _ 1 _)
      refine seqR (by kernel_rfl) ?_
      refine regionR 11 (by kernel_rfl) (by kernel_rfl) ?_
      refine (runR (H := (blk t 57 [.map (some mb)] :: mapS mb (T.map kp) :: (nodesL T ++ H))) (z := 6) 5 [0, 1, 2, 3, 4, 10, 19, 20] [(0, .pointer (some ⟨t, 0, none⟩)), (1, .int .i64 par), (2, .int .i64 id), (3, .int .i64 wt), (4, .bool thr), (10, .nilIface), (19, .map (some mb)), (20, .int .i64 par)] [(⟨t, 0, none⟩, .map (some mb))] (hasC (blkAt (T := 57) (cs := [.map (some mb)]) 0 rfl rfl) has0) (fun _ => by kernel_rfl) ?_ : RT _ _ _ _ _ _ 11 _)
      refine (stepR (z := 5) (yldS (lookY 55 (.tmp 19) (.tmp 20) true mb par (T.map kp) (.pointer none) (.tuple #[.pointer none, .bool false]) 3 50 (some 21) (fun _ => by kernel_rfl) (by kernel_rfl) (by kernel_rfl) (fun _ => by kernel_rfl) (fun _ => by kernel_rfl) Tryz.underlying55 (by kernel_rfl) (fun _ => by kernel_rfl) (mapAt (H := (blk t 57 [.map (some mb)] :: mapS mb (T.map kp) :: (nodesL T ++ H))) (i := 1) rfl) (by rw [lk_none hT hp]; rfl))) (fun _ => ?_) : RT _ _ _ _ _ _ 6 _)
      refine (run0 (z := 0) 5 [0, 1, 2, 3, 4, 10, 11, 12] [(0, .pointer (some ⟨t, 0, none⟩)), (1, .int .i64 par), (2, .int .i64 id), (3, .int .i64 wt), (4, .bool thr), (10, .nilIface), (11, .pointer none), (12, .bool false)] (fun _ => by kernel_rfl) (endR ?_) : RT _ _ _ _ _ _ 5 _)
      refine seqR (by kernel_rfl) ?_
      refine regionR 11 (by kernel_rfl) (by kernel_rfl) ?_
      refine (runR (H := (blk t 57 [.map (some mb)] :: mapS mb (T.map kp) :: (nodesL T ++ H))) (z := 6) 5 [0, 1, 2, 3, 4, 10, 11, 12, 28, 29] [(0, .pointer (some ⟨t, 0, none⟩)), (1, .int .i64 par), (2, .int .i64 id), (3, .int .i64 wt), (4, .bool thr), (10, .nilIface), (11, .pointer none), (12, .bool false), (28, .map (some mb)), (29, .int .i64 id)] [(⟨t, 0, none⟩, .map (some mb))] (hasC (blkAt (T := 57) (cs := [.map (some mb)]) 0 rfl rfl) has0) (fun _ => by kernel_rfl) ?_ : RT _ _ _ _ _ _ 11 _)
      refine (stepR (z := 5) (yldS (lookY 55 (.tmp 28) (.tmp 29) true mb id (T.map kp) (.pointer none) (.tuple #[.pointer (some ⟨z.b, 0, none⟩), .bool true]) 3 50 (some 30) (fun _ => by kernel_rfl) (by kernel_rfl) (by kernel_rfl) (fun _ => by kernel_rfl) (fun _ => by kernel_rfl) Tryz.underlying55 (by kernel_rfl) (fun _ => by kernel_rfl) (mapAt (H := (blk t 57 [.map (some mb)] :: mapS mb (T.map kp) :: (nodesL T ++ H))) (i := 1) rfl) (by rw [lk_some hT hsk.nd hi hzk]; rfl))) (fun _ => ?_) : RT _ _ _ _ _ _ 6 _)
      refine (run0 (z := 0) 5 [0, 1, 2, 3, 4, 10, 11, 12, 14] [(0, .pointer (some ⟨t, 0, none⟩)), (1, .int .i64 par), (2, .int .i64 id), (3, .int .i64 wt), (4, .bool thr), (10, .nilIface), (11, .pointer none), (12, .bool false), (14, .bool true)] (fun _ => by kernel_rfl) (endR ?_) : RT _ _ _ _ _ _ 5 _)
      refine seqR (by kernel_rfl) ?_
      refine blockR 0 (by kernel_rfl) (by kernel_rfl) ?_
      refine seqR (by kernel_rfl) ?_
      refine regionR 8 (by kernel_rfl) (by kernel_rfl) ?_
      refine (run0 (z := 7) 1 [0, 1, 2, 3, 4, 10, 11, 12, 14, 34] [(0, .pointer (some ⟨t, 0, none⟩)), (1, .int .i64 par), (2, .int .i64 id), (3, .int .i64 wt), (4, .bool thr), (10, .nilIface), (11, .pointer none), (12, .bool false), (14, .bool true), (34, .int .i64 wt)] (fun _ => by kernel_rfl) ?_ : RT _ _ _ _ _ _ 8 _)
      refine (stepR (z := 6) (callS 18 [.int .i64 wt] (some 35) (fun _ => .bool (isW wt)) (fun (_ : Unit) => (blk t 57 [.map (some mb)] :: mapS mb (T.map kp) :: (nodesL T ++ H))) (fun _ => by kernel_rfl) (strIs_walk _ wt)) (fun _ => ?_) : RT _ _ _ _ _ _ 7 _)
      refine (run0 (z := 4) 2 [0, 1, 2, 3, 4, 10, 11, 12, 14, 37] [(0, .pointer (some ⟨t, 0, none⟩)), (1, .int .i64 par), (2, .int .i64 id), (3, .int .i64 wt), (4, .bool thr), (10, .nilIface), (11, .pointer none), (12, .bool false), (14, .bool true), (37, .bool (!(isW wt)))] (fun _ => by kernel_rfl) ?_ : RT _ _ _ _ _ _ 6 _)
      refine (segR (ι := Unit) (z := 1) 3 (fun _ => [(0, .pointer (some ⟨t, 0, none⟩)), (1, .int .i64 par), (2, .int .i64 id), (3, .int .i64 wt), (4, .bool thr), (10, .nilIface), (11, .pointer none), (12, .bool false), (14, .bool true), (40, .bool ((!(isW wt)) || (decide (id < 1))))]) (fun _ => (blk t 57 [.map (some mb)] :: mapS mb (T.map kp) :: (nodesL T ++ H))) ?_ (fun _ => ?_) : RT _ _ _ _ _ _ 4 _)
      · cases hg4 : (!(isW wt)) with
        | true =>
          refine (run0 (z := 0) 3 [0, 1, 2, 3, 4, 10, 11, 12, 14, 40] [(0, .pointer (some ⟨t, 0, none⟩)), (1, .int .i64 par), (2, .int .i64 id), (3, .int .i64 wt), (4, .bool thr), (10, .nilIface), (11, .pointer none), (12, .bool false), (14, .bool true), (40, .bool true)] (fun _ => by kernel_rfl) (endR ?_) : RT _ _ _ _ _ _ 3 _)
          refine PT.keep (L' := [(0, .pointer (some ⟨t, 0, none⟩)), (1, .int .i64 par), (2, .int .i64 id), (3, .int .i64 wt), (4, .bool thr), (10, .nilIface), (11, .pointer none), (12, .bool false), (14, .bool true), (40, .bool (true || (decide (id < 1))))]) [0, 1, 2, 3, 4, 10, 11, 12, 14, 40] rfl ?_
          exact midR () rfl rfl
        | false =>
          refine (run0 (z := 0) 3 [0, 1, 2, 3, 4, 10, 11, 12, 14, 40] [(0, .pointer (some ⟨t, 0, none⟩)), (1, .int .i64 par), (2, .int .i64 id), (3, .int .i64 wt), (4, .bool thr), (10, .nilIface), (11, .pointer none), (12, .bool false), (14, .bool true), (40, .bool (decide (id < 1)))] (fun _ => by kernel_rfl) (endR ?_) : RT _ _ _ _ _ _ 3 _)
          refine PT.keep (L' := [(0, .pointer (some ⟨t, 0, none⟩)), (1, .int .i64 par), (2, .int .i64 id), (3, .int .i64 wt), (4, .bool thr), (10, .nilIface), (11, .pointer none), (12, .bool false), (14, .bool true), (40, .bool (false || (decide (id < 1))))]) [0, 1, 2, 3, 4, 10, 11, 12, 14, 40] rfl ?_
          exact midR () rfl rfl
      refine (run0 (z := 0) 1 [0, 1, 2, 3, 4, 10, 11, 12, 14, 33] [(0, .pointer (some ⟨t, 0, none⟩)), (1, .int .i64 par), (2, .int .i64 id), (3, .int .i64 wt), (4, .bool thr), (10, .nilIface), (11, .pointer none), (12, .bool false), (14, .bool true), (33, .bool ((!(isW wt)) || (decide (id < 1))))] (fun _ => by kernel_rfl) (endR ?_) : RT _ _ _ _ _ _ 1 _)
      refine condR (b := (!(isW wt)) || (decide (id < 1))) (by kernel_rfl) (fun _ => by kernel_rfl) (fun h1 => ?_) (fun h1 => ?_)
      · skip
        have hc1 : isW wt = false ∨ id < 1 := by simpa using h1
        have hrn : addN N par id wt thr = (10, N) := by rw [addN, if_pos hc1]
        refine seqR (by kernel_rfl) ?_
        refine regionR 2 (by kernel_rfl) (by kernel_rfl) ?_
        refine (run0 (z := 0) 2 [0, 1, 2, 3, 4, 10, 11] [(0, .pointer (some ⟨t, 0, none⟩)), (1, .int .i64 par), (2, .int .i64 id), (3, .int .i64 wt), (4, .bool thr), (10, .iface 46 (.int .i64 10)), (11, .pointer none)] (fun _ => by kernel_rfl) (endR ?_) : RT _ _ _ _ _ _ 2 _)
        refine retR (by kernel_rfl) ?_
        refine blockV ?_
        refine thenV ?_
        refine done0 (.iface 46 (.int .i64 10)) (fun _ => by kernel_rfl) (fun w hs => ?_) .ret (.inr rfl)
        exact ⟨⟨T, by rw [hrn]; exact hT⟩, by show _ = Ending.returned (pqErr (addN N par id wt thr).1); rw [hrn]; rfl, hs⟩
      · skip
        have hc1 : ¬ (isW wt = false ∨ id < 1) := by simpa using h1
        have hrn : addN N par id wt thr = (13, N) := by rw [addN, if_neg hc1, hp]
        refine seqR (by kernel_rfl) ?_
        refine regionR 10 (by kernel_rfl) (by kernel_rfl) ?_
        refine (run0 (z := 0) 10 [0, 1, 2, 3, 4, 10, 11, 14, 42] [(0, .pointer (some ⟨t, 0, none⟩)), (1, .int .i64 par), (2, .int .i64 id), (3, .int .i64 wt), (4, .bool thr), (10, .nilIface), (11, .pointer none), (14, .bool true), (42, .bool true)] (fun _ => by kernel_rfl) (endR ?_) : RT _ _ _ _ _ _ 10 _)
        refine condR (b := true) (by kernel_rfl) (fun _ => by kernel_rfl) (fun _ => ?_) (fun h => by cases h)
        refine seqR (by kernel_rfl) ?_
        refine regionR 2 (by kernel_rfl) (by kernel_rfl) ?_
        refine (run0 (z := 0) 2 [0, 1, 2, 3, 4, 10, 11] [(0, .pointer (some ⟨t, 0, none⟩)), (1, .int .i64 par), (2, .int .i64 id), (3, .int .i64 wt), (4, .bool thr), (10, .iface 46 (.int .i64 13)), (11, .pointer none)] (fun _ => by kernel_rfl) (endR ?_) : RT _ _ _ _ _ _ 2 _)
        refine retR (by kernel_rfl) ?_
        refine blockV ?_
        refine thenV ?_
        refine done0 (.iface 46 (.int .i64 13)) (fun _ => by kernel_rfl) (fun w hs => ?_) .ret (.inr rfl)
        exact ⟨⟨T, by rw [hrn]; exact hT⟩, by show _ = Ending.returned (pqErr (addN N par id wt thr).1); rw [hrn]; rfl, hs⟩
  | some p0 =>
    obtain ⟨j, p, hj, hpn, hpk⟩ := hT.get hp
    cases hg : gt N id with
    | none =>
      refine seqR (by kernel_rfl) ?_
      refine regionR 1 (by kernel_rfl) (by kernel_rfl) ?_
      refine (run0 (z := 0) 1 [0, 1, 2, 3, 4, 10] [(0, .pointer (some ⟨t, 0, none⟩)), (1, .int .i64 par), (2, .int .i64 id), (3, .int .i64 wt), (4, .bool thr), (10, .nilIface)] (fun _ => by kernel_rfl) (endR ?_) : RT _ _ _ _ _ _ 1 _)
      refine seqR (by kernel_rfl) ?_
      refine regionR 11 (by kernel_rfl) (by kernel_rfl) ?_
      refine (runR (H := (blk t 57 [.map (some mb)] :: mapS mb (T.map kp) :: (nodesL T ++ H))) (z := 6) 5 [0, 1, 2, 3, 4, 10, 19, 20] [(0, .pointer (some ⟨t, 0, none⟩)), (1, .int .i64 par), (2, .int .i64 id), (3, .int .i64 wt), (4, .bool thr), (10, .nilIface), (19, .map (some mb)), (20, .int .i64 par)] [(⟨t, 0, none⟩, .map (some mb))] (hasC (blkAt (T := 57) (cs := [.map (some mb)]) 0 rfl rfl) has0) (fun _ => by kernel_rfl) ?_ : RT _ _ _ _ _ _ 11 _)
      refine (stepR (z := 5) (yldS (lookY 55 (.tmp 19) (.tmp 20) true mb par (T.map kp) (.pointer none) (.tuple #[.pointer (some ⟨p.b, 0, none⟩), .bool true]) 3 50 (some 21) (fun _ => by kernel_rfl) (by kernel_rfl) (by kernel_rfl) (fun _ => by kernel_rfl) (fun _ => by kernel_rfl) Tryz.underlying55 (by kernel_rfl) (fun _ => by kernel_rfl) (mapAt (H := (blk t 57 [.map (some mb)] :: mapS mb (T.map kp) :: (nodesL T ++ H))) (i := 1) rfl) (by rw [lk_some hT hsk.nd hj hpk]; rfl))) (fun _ => ?_) : RT _ _ _ _ _ _ 6 _)
      refine (run0 (z := 0) 5 [0, 1, 2, 3, 4, 10, 11, 12] [(0, .pointer (some ⟨t, 0, none⟩)), (1, .int .i64 par), (2, .int .i64 id), (3, .int .i64 wt), (4, .bool thr), (10, .nilIface), (11, .pointer (some ⟨p.b, 0, none⟩)), (12, .bool true)] (fun _ => by kernel_rfl) (endR ?_) : RT _ _ _ _ _ _ 5 _)
      refine seqR (by kernel_rfl) ?_
      refine regionR 11 (by kernel_rfl) (by kernel_rfl) ?_
      refine (runR (H := (blk t 57 [.map (some mb)] :: mapS mb (T.map kp) :: (nodesL T ++ H))) (z := 6) 5 [0, 1, 2, 3, 4, 10, 11, 12, 28, 29] [(0, .pointer (some ⟨t, 0, none⟩)), (1, .int .i64 par), (2, .int .i64 id), (3, .int .i64 wt), (4, .bool thr), (10, .nilIface), (11, .pointer (some ⟨p.b, 0, none⟩)), (12, .bool true), (28, .map (some mb)), (29, .int .i64 id)] [(⟨t, 0, none⟩, .map (some mb))] (hasC (blkAt (T := 57) (cs := [.map (some mb)]) 0 rfl rfl) has0) (fun _ => by kernel_rfl) ?_ : RT _ _ _ _ _ _ 11 _)
      refine (stepR (z := 5) (yldS (lookY 55 (.tmp 28) (.tmp 29) true mb id (T.map kp) (.pointer none) (.tuple #[.pointer none, .bool false]) 3 50 (some 30) (fun _ => by kernel_rfl) (by kernel_rfl) (by kernel_rfl) (fun _ => by kernel_rfl) (fun _ => by kernel_rfl) Tryz.underlying55 (by kernel_rfl) (fun _ => by kernel_rfl) (mapAt (H := (blk t 57 [.map (some mb)] :: mapS mb (T.map kp) :: (nodesL T ++ H))) (i := 1) rfl) (by rw [lk_none hT hg]; rfl))) (fun _ => ?_) : RT _ _ _ _ _ _ 6 _)
      refine (run0 (z := 0) 5 [0, 1, 2, 3, 4, 10, 11, 12, 14] [(0, .pointer (some ⟨t, 0, none⟩)), (1, .int .i64 par), (2, .int .i64 id), (3, .int .i64 wt), (4, .bool thr), (10, .nilIface), (11, .pointer (some ⟨p.b, 0, none⟩)), (12, .bool true), (14, .bool false)] (fun _ => by kernel_rfl) (endR ?_) : RT _ _ _ _ _ _ 5 _)
      refine seqR (by kernel_rfl) ?_
      refine blockR 0 (by kernel_rfl) (by kernel_rfl) ?_
      refine seqR (by kernel_rfl) ?_
      refine regionR 8 (by kernel_rfl) (by kernel_rfl) ?_
      refine (run0 (z := 7) 1 [0, 1, 2, 3, 4, 10, 11, 12, 14, 34] [(0, .pointer (some ⟨t, 0, none⟩)), (1, .int .i64 par), (2, .int .i64 id), (3, .int .i64 wt), (4, .bool thr), (10, .nilIface), (11, .pointer (some ⟨p.b, 0, none⟩)), (12, .bool true), (14, .bool false), (34, .int .i64 wt)] (fun _ => by kernel_rfl) ?_ : RT _ _ _ _ _ _ 8 _)
      refine (stepR (z := 6) (callS 18 [.int .i64 wt] (some 35) (fun _ => .bool (isW wt)) (fun (_ : Unit) => (blk t 57 [.map (some mb)] :: mapS mb (T.map kp) :: (nodesL T ++ H))) (fun _ => by kernel_rfl) (strIs_walk _ wt)) (fun _ => ?_) : RT _ _ _ _ _ _ 7 _)
      refine (run0 (z := 4) 2 [0, 1, 2, 3, 4, 10, 11, 12, 14, 37] [(0, .pointer (some ⟨t, 0, none⟩)), (1, .int .i64 par), (2, .int .i64 id), (3, .int .i64 wt), (4, .bool thr), (10, .nilIface), (11, .pointer (some ⟨p.b, 0, none⟩)), (12, .bool true), (14, .bool false), (37, .bool (!(isW wt)))] (fun _ => by kernel_rfl) ?_ : RT _ _ _ _ _ _ 6 _)
      refine (segR (ι := Unit) (z := 1) 3 (fun _ => [(0, .pointer (some ⟨t, 0, none⟩)), (1, .int .i64 par), (2, .int .i64 id), (3, .int .i64 wt), (4, .bool thr), (10, .nilIface), (11, .pointer (some ⟨p.b, 0, none⟩)), (12, .bool true), (14, .bool false), (40, .bool ((!(isW wt)) || (decide (id < 1))))]) (fun _ => (blk t 57 [.map (some mb)] :: mapS mb (T.map kp) :: (nodesL T ++ H))) ?_ (fun _ => ?_) : RT _ _ _ _ _ _ 4 _)
      · cases hg4 : (!(isW wt)) with
        | true =>
          refine (run0 (z := 0) 3 [0, 1, 2, 3, 4, 10, 11, 12, 14, 40] [(0, .pointer (some ⟨t, 0, none⟩)), (1, .int .i64 par), (2, .int .i64 id), (3, .int .i64 wt), (4, .bool thr), (10, .nilIface), (11, .pointer (some ⟨p.b, 0, none⟩)), (12, .bool true), (14, .bool false), (40, .bool true)] (fun _ => by kernel_rfl) (endR ?_) : RT _ _ _ _ _ _ 3 _)
          refine PT.keep (L' := [(0, .pointer (some ⟨t, 0, none⟩)), (1, .int .i64 par), (2, .int .i64 id), (3, .int .i64 wt), (4, .bool thr), (10, .nilIface), (11, .pointer (some ⟨p.b, 0, none⟩)), (12, .bool true), (14, .bool false), (40, .bool (true || (decide (id < 1))))]) [0, 1, 2, 3, 4, 10, 11, 12, 14, 40] rfl ?_
          exact midR () rfl rfl
        | false =>
          refine (run0 (z := 0) 3 [0, 1, 2, 3, 4, 10, 11, 12, 14, 40] [(0, .pointer (some ⟨t, 0, none⟩)), (1, .int .i64 par), (2, .int .i64 id), (3, .int .i64 wt), (4, .bool thr), (10, .nilIface), (11, .pointer (some ⟨p.b, 0, none⟩)), (12, .bool true), (14, .bool false), (40, .bool (decide (id < 1)))] (fun _ => by kernel_rfl) (endR ?_) : RT _ _ _ _ _ _ 3 _)
          refine PT.keep (L' := [(0, .pointer (some ⟨t, 0, none⟩)), (1, .int .i64 par), (2, .int .i64 id), (3, .int .i64 wt), (4, .bool thr), (10, .nilIface), (11, .pointer (some ⟨p.b, 0, none⟩)), (12, .bool true), (14, .bool false), (40, .bool (false || (decide (id < 1))))]) [0, 1, 2, 3, 4, 10, 11, 12, 14, 40] rfl ?_
          exact midR () rfl rfl
      refine (run0 (z := 0) 1 [0, 1, 2, 3, 4, 10, 11, 12, 14, 33] [(0, .pointer (some ⟨t, 0, none⟩)), (1, .int .i64 par), (2, .int .i64 id), (3, .int .i64 wt), (4, .bool thr), (10, .nilIface), (11, .pointer (some ⟨p.b, 0, none⟩)), (12, .bool true), (14, .bool false), (33, .bool ((!(isW wt)) || (decide (id < 1))))] (fun _ => by kernel_rfl) (endR ?_) : RT _ _ _ _ _ _ 1 _)
      refine condR (b := (!(isW wt)) || (decide (id < 1))) (by kernel_rfl) (fun _ => by kernel_rfl) (fun h1 => ?_) (fun h1 => ?_)
      · skip
        have hc1 : isW wt = false ∨ id < 1 := by simpa using h1
        have hrn : addN N par id wt thr = (10, N) := by rw [addN, if_pos hc1]
        refine seqR (by kernel_rfl) ?_
        refine regionR 2 (by kernel_rfl) (by kernel_rfl) ?_
        refine (run0 (z := 0) 2 [0, 1, 2, 3, 4, 10, 11] [(0, .pointer (some ⟨t, 0, none⟩)), (1, .int .i64 par), (2, .int .i64 id), (3, .int .i64 wt), (4, .bool thr), (10, .iface 46 (.int .i64 10)), (11, .pointer (some ⟨p.b, 0, none⟩))] (fun _ => by kernel_rfl) (endR ?_) : RT _ _ _ _ _ _ 2 _)
        refine retR (by kernel_rfl) ?_
        refine blockV ?_
        refine thenV ?_
        refine done0 (.iface 46 (.int .i64 10)) (fun _ => by kernel_rfl) (fun w hs => ?_) .ret (.inr rfl)
        exact ⟨⟨T, by rw [hrn]; exact hT⟩, by show _ = Ending.returned (pqErr (addN N par id wt thr).1); rw [hrn]; rfl, hs⟩
      · skip
        have hc1 : ¬ (isW wt = false ∨ id < 1) := by simpa using h1
        refine seqR (by kernel_rfl) ?_
        refine regionR 10 (by kernel_rfl) (by kernel_rfl) ?_
        refine (runR (H := (blk t 57 [.map (some mb)] :: mapS mb (T.map kp) :: (nodesL T ++ H))) (z := 0) 10 [0, 1, 2, 3, 4, 10, 11, 14, 42] [(0, .pointer (some ⟨t, 0, none⟩)), (1, .int .i64 par), (2, .int .i64 id), (3, .int .i64 wt), (4, .bool thr), (10, .nilIface), (11, .pointer (some ⟨p.b, 0, none⟩)), (14, .bool false), (42, .bool p.n.thr)] [(⟨p.b, 4, none⟩, .bool p.n.thr)] (hasC (up (up (nodeAt (T := T) (List.mem_of_getElem? hj) (j := 4) rfl))) has0) (fun _ => by kernel_rfl) (endR ?_) : RT _ _ _ _ _ _ 10 _)
        refine condR (b := p.n.thr) (by kernel_rfl) (fun _ => by kernel_rfl) (fun h2 => ?_) (fun h2 => ?_)
        · skip
          have hth : p0.thr = true := by rw [← hpn]; simpa using h2
          have hrn : addN N par id wt thr = (13, N) := by rw [addN, if_neg hc1, hp]; simp only [if_pos hth]
          refine seqR (by kernel_rfl) ?_
          refine regionR 2 (by kernel_rfl) (by kernel_rfl) ?_
          refine (run0 (z := 0) 2 [0, 1, 2, 3, 4, 10, 11] [(0, .pointer (some ⟨t, 0, none⟩)), (1, .int .i64 par), (2, .int .i64 id), (3, .int .i64 wt), (4, .bool thr), (10, .iface 46 (.int .i64 13)), (11, .pointer (some ⟨p.b, 0, none⟩))] (fun _ => by kernel_rfl) (endR ?_) : RT _ _ _ _ _ _ 2 _)
          refine retR (by kernel_rfl) ?_
          refine blockV ?_
          refine thenV ?_
          refine done0 (.iface 46 (.int .i64 13)) (fun _ => by kernel_rfl) (fun w hs => ?_) .ret (.inr rfl)
          exact ⟨⟨T, by rw [hrn]; exact hT⟩, by show _ = Ending.returned (pqErr (addN N par id wt thr).1); rw [hrn]; rfl, hs⟩
        · skip
          have hth : ¬ p0.thr = true := by rw [← hpn]; simpa using h2
          refine seqR (by kernel_rfl) ?_
          refine regionR 2 (by kernel_rfl) (by kernel_rfl) ?_
          refine (run0 (z := 0) 2 [0, 1, 2, 3, 4, 10, 11, 53] [(0, .pointer (some ⟨t, 0, none⟩)), (1, .int .i64 par), (2, .int .i64 id), (3, .int .i64 wt), (4, .bool thr), (10, .nilIface), (11, .pointer (some ⟨p.b, 0, none⟩)), (53, .bool false)] (fun _ => by kernel_rfl) (endR ?_) : RT _ _ _ _ _ _ 2 _)
          refine condR (b := false) (by kernel_rfl) (fun _ => by kernel_rfl) (fun h => by cases h) (fun _ => ?_)
          refine seqR (by kernel_rfl) ?_
          refine regionR 9 (by kernel_rfl) (by kernel_rfl) ?_
          refine (run0 (z := 6) 3 [0, 1, 2, 3, 4, 10, 11, 59] [(0, .pointer (some ⟨t, 0, none⟩)), (1, .int .i64 par), (2, .int .i64 id), (3, .int .i64 wt), (4, .bool thr), (10, .nilIface), (11, .pointer (some ⟨p.b, 0, none⟩)), (59, .bool (!thr))] (fun _ => by kernel_rfl) ?_ : RT _ _ _ _ _ _ 9 _)
          refine (segR (ι := Unit) (z := 1) 5 (fun _ => [(0, .pointer (some ⟨t, 0, none⟩)), (1, .int .i64 par), (2, .int .i64 id), (3, .int .i64 wt), (4, .bool thr), (10, .nilIface), (11, .pointer (some ⟨p.b, 0, none⟩)), (64, .bool ((!thr) && (decide ((deepN 6 N par : Int) ≥ 4))))]) (fun _ => (blk t 57 [.map (some mb)] :: mapS mb (T.map kp) :: (nodesL T ++ H))) ?_ (fun _ => ?_) : RT _ _ _ _ _ _ 6 _)
          · cases hg3 : (!thr) with
            | true =>
              refine (run0 (z := 3) 2 [0, 1, 2, 3, 4, 10, 11, 59, 60, 61] [(0, .pointer (some ⟨t, 0, none⟩)), (1, .int .i64 par), (2, .int .i64 id), (3, .int .i64 wt), (4, .bool thr), (10, .nilIface), (11, .pointer (some ⟨p.b, 0, none⟩)), (59, .bool true), (60, .pointer (some ⟨t, 0, none⟩)), (61, .int .i64 par)] (fun _ => by kernel_rfl) ?_ : RT _ _ _ _ _ _ 5 _)
              refine (stepR (z := 2) (callS 16 [.pointer (some ⟨t, 0, none⟩), .int .i64 par] (some 62) (fun _ => .int .i64 (deepN 6 N par : Int)) (fun (_ : Unit) => (blk t 57 [.map (some mb)] :: mapS mb (T.map kp) :: (nodesL T ++ H))) (fun _ => by kernel_rfl) (deep_walk hT hsk H t mb par)) (fun _ => ?_) : RT _ _ _ _ _ _ 3 _)
              refine (run0 (z := 0) 2 [0, 1, 2, 3, 4, 10, 11, 64] [(0, .pointer (some ⟨t, 0, none⟩)), (1, .int .i64 par), (2, .int .i64 id), (3, .int .i64 wt), (4, .bool thr), (10, .nilIface), (11, .pointer (some ⟨p.b, 0, none⟩)), (64, .bool (decide ((deepN 6 N par : Int) ≥ 4)))] (fun _ => by kernel_rfl) (endR ?_) : RT _ _ _ _ _ _ 2 _)
              refine PT.keep (L' := [(0, .pointer (some ⟨t, 0, none⟩)), (1, .int .i64 par), (2, .int .i64 id), (3, .int .i64 wt), (4, .bool thr), (10, .nilIface), (11, .pointer (some ⟨p.b, 0, none⟩)), (64, .bool (true && (decide ((deepN 6 N par : Int) ≥ 4))))]) [0, 1, 2, 3, 4, 10, 11, 64] rfl ?_
              exact midR () rfl rfl
            | false =>
              refine (run0 (z := 0) 5 [0, 1, 2, 3, 4, 10, 11, 64] [(0, .pointer (some ⟨t, 0, none⟩)), (1, .int .i64 par), (2, .int .i64 id), (3, .int .i64 wt), (4, .bool thr), (10, .nilIface), (11, .pointer (some ⟨p.b, 0, none⟩)), (64, .bool false)] (fun _ => by kernel_rfl) (endR ?_) : RT _ _ _ _ _ _ 5 _)
              refine PT.keep (L' := [(0, .pointer (some ⟨t, 0, none⟩)), (1, .int .i64 par), (2, .int .i64 id), (3, .int .i64 wt), (4, .bool thr), (10, .nilIface), (11, .pointer (some ⟨p.b, 0, none⟩)), (64, .bool (false && (decide ((deepN 6 N par : Int) ≥ 4))))]) [0, 1, 2, 3, 4, 10, 11, 64] rfl ?_
              exact midR () rfl rfl
          refine (run0 (z := 0) 1 [0, 1, 2, 3, 4, 10, 11, 56] [(0, .pointer (some ⟨t, 0, none⟩)), (1, .int .i64 par), (2, .int .i64 id), (3, .int .i64 wt), (4, .bool thr), (10, .nilIface), (11, .pointer (some ⟨p.b, 0, none⟩)), (56, .bool ((!thr) && (decide ((deepN 6 N par : Int) ≥ 4))))] (fun _ => by kernel_rfl) (endR ?_) : RT _ _ _ _ _ _ 1 _)
          refine condR (b := (!thr) && (decide ((deepN 6 N par : Int) ≥ 4))) (by kernel_rfl) (fun _ => by kernel_rfl) (fun h3 => ?_) (fun h3 => ?_)
          · skip
            have hc3 : thr = false ∧ 4 ≤ deepN 6 N par := by simp at h3; exact ⟨h3.1, by omega⟩
            have hrn : addN N par id wt thr = (12, N) := by rw [addN, if_neg hc1, hp]; simp only [if_neg hth]; rw [if_neg (by rw [hg]; simp), if_pos hc3]
            refine seqR (by kernel_rfl) ?_
            refine regionR 2 (by kernel_rfl) (by kernel_rfl) ?_
            refine (run0 (z := 0) 2 [0, 1, 2, 3, 4, 10, 11] [(0, .pointer (some ⟨t, 0, none⟩)), (1, .int .i64 par), (2, .int .i64 id), (3, .int .i64 wt), (4, .bool thr), (10, .iface 46 (.int .i64 12)), (11, .pointer (some ⟨p.b, 0, none⟩))] (fun _ => by kernel_rfl) (endR ?_) : RT _ _ _ _ _ _ 2 _)
            refine retR (by kernel_rfl) ?_
            refine blockV ?_
            refine thenV ?_
            refine done0 (.iface 46 (.int .i64 12)) (fun _ => by kernel_rfl) (fun w hs => ?_) .ret (.inr rfl)
            exact ⟨⟨T, by rw [hrn]; exact hT⟩, by show _ = Ending.returned (pqErr (addN N par id wt thr).1); rw [hrn]; rfl, hs⟩
          · skip
            have hc3 : ¬ (thr = false ∧ 4 ≤ deepN 6 N par) := fun hc => by rw [hc.1] at h3; simp at h3; omega
            refine seqR (by kernel_rfl) ?_
            refine regionR 7 (by kernel_rfl) (by kernel_rfl) ?_
            refine (runR (H := (blk t 57 [.map (some mb)] :: mapS mb (T.map kp) :: (nodesL T ++ H))) (z := 3) 4 [0, 1, 2, 3, 4, 10, 11, 70] [(0, .pointer (some ⟨t, 0, none⟩)), (1, .int .i64 par), (2, .int .i64 id), (3, .int .i64 wt), (4, .bool thr), (10, .nilIface), (11, .pointer (some ⟨p.b, 0, none⟩)), (70, .map (some mb))] [(⟨t, 0, none⟩, .map (some mb))] (hasC (blkAt (T := 57) (cs := [.map (some mb)]) 0 rfl rfl) has0) (fun _ => by kernel_rfl) ?_ : RT _ _ _ _ _ _ 7 _)
            refine (stepR (z := 2) (yldS (mlenY 55 3 50 (.tmp 70) mb (T.map kp) (some 71) (fun _ => by kernel_rfl) (by kernel_rfl) (by kernel_rfl) (fun _ => by kernel_rfl) Tryz.underlying55 (mapAt (H := (blk t 57 [.map (some mb)] :: mapS mb (T.map kp) :: (nodesL T ++ H))) (i := 1) rfl))) (fun _ => ?_) : RT _ _ _ _ _ _ 3 _)
            refine (run0 (z := 0) 2 [0, 1, 2, 3, 4, 10, 11, 66] [(0, .pointer (some ⟨t, 0, none⟩)), (1, .int .i64 par), (2, .int .i64 id), (3, .int .i64 wt), (4, .bool thr), (10, .nilIface), (11, .pointer (some ⟨p.b, 0, none⟩)), (66, .bool (decide (((T.map kp).length : Int) ≥ 60)))] (fun _ => by kernel_rfl) (endR ?_) : RT _ _ _ _ _ _ 2 _)
            refine condR (b := decide (((T.map kp).length : Int) ≥ 60)) (by kernel_rfl) (fun _ => by kernel_rfl) (fun h4 => ?_) (fun h4 => ?_)
            · skip
              have hc4 : 60 ≤ N.length := by have := hT.len; simp at h4; omega
              have hrn : addN N par id wt thr = (14, N) := by rw [addN, if_neg hc1, hp]; simp only [if_neg hth]; rw [if_neg (by rw [hg]; simp), if_neg hc3, if_pos hc4]
              refine seqR (by kernel_rfl) ?_
              refine regionR 2 (by kernel_rfl) (by kernel_rfl) ?_
              refine (run0 (z := 0) 2 [0, 1, 2, 3, 4, 10, 11] [(0, .pointer (some ⟨t, 0, none⟩)), (1, .int .i64 par), (2, .int .i64 id), (3, .int .i64 wt), (4, .bool thr), (10, .iface 46 (.int .i64 14)), (11, .pointer (some ⟨p.b, 0, none⟩))] (fun _ => by kernel_rfl) (endR ?_) : RT _ _ _ _ _ _ 2 _)
              refine retR (by kernel_rfl) ?_
              refine blockV ?_
              refine thenV ?_
              refine done0 (.iface 46 (.int .i64 14)) (fun _ => by kernel_rfl) (fun w hs => ?_) .ret (.inr rfl)
              exact ⟨⟨T, by rw [hrn]; exact hT⟩, by show _ = Ending.returned (pqErr (addN N par id wt thr).1); rw [hrn]; rfl, hs⟩
            · skip
              have hc4 : ¬ 60 ≤ N.length := by have := hT.len; simp at h4; omega
              have hrn : addN N par id wt thr = (0, N ++ [{ id := id, par := par, wt := wt, pass := p0.now, thr := thr, rdy := false, now := 0 }]) := by rw [addN, if_neg hc1, hp]; simp only [if_neg hth]; rw [if_neg (by rw [hg]; simp), if_neg hc3, if_neg hc4]
              refine skipR (by kernel_rfl) ?_
              refine seqR (by kernel_rfl) ?_
              refine drawR (fun w => Sat w (blk t 57 [.map (some mb)] :: mapS mb (T.map kp) :: (nodesL T ++ H))) [17] 18 (by kernel_rfl) (by kernel_rfl) (by kernel_rfl) (fun _ h => by first | exact h | exact h.tail | exact h.tail.tail | exact h.tail.tail.tail | exact h.tail.tail.tail.tail) ?_
              refine takesR [0, 1, 2, 3, 4, 5, 6, 7, 8, 9, 10, 11, 12, 13] [10, 77, 78, 87] 4 [true, true, true, true, true, true, true, true, true, true, true, true, true, true, false, false, false, false] [(10, .nilIface), (77, .map (some mb)), (78, .int .i64 id), (87, .agg #[.int .i64 id, .int .i64 par, .int .i64 wt, .int .i64 p.n.now, .bool thr, .bool false])] [(⟨t, 0, none⟩, .map (some mb)), (⟨p.b, 6, none⟩, .int .i64 p.n.now)] rfl (fun _ d _ _ _ h => by cases d <;> exact h) (fun _ h => by first | exact h | exact h.tail | exact h.tail.tail | exact h.tail.tail.tail | exact h.tail.tail.tail.tail) (hasC (blkAt (T := 57) (cs := [.map (some mb)]) 0 rfl rfl) (hasC (up (up (nodeAt (T := T) (List.mem_of_getElem? hj) (j := 6) rfl))) has0)) (fun _ => by kernel_rfl) ?_
              refine oneR 14 3 [true, true, true, true, true, true, true, true, true, true, true, true, true, true, true, false, false, false] rfl rfl (by kernel_rfl) (callS 17 [.int .i64 60] (some 88) (fun (ib : Nat) => .pointer (some ⟨ib, 0, none⟩)) (fun (ib : Nat) => (idxS ib 60 ([] : List (Int × Int)) :: blk t 57 [.map (some mb)] :: mapS mb (T.map kp) :: (nodesL T ++ H))) (fun _ => by kernel_rfl) (new_walk _ 60)) (fun _ _ h hn => by first | exact h | exact h.tail | exact h.tail.tail | exact h.tail.tail.tail | exact h.tail.tail.tail.tail | exact absurd hn (by decide)) (fun (ib : Nat) => ?_)
              refine takesR [15] [10, 77, 78, 89] 2 [true, true, true, true, true, true, true, true, true, true, true, true, true, true, true, true, false, false] [(10, .nilIface), (77, .map (some mb)), (78, .int .i64 id), (89, .agg #[.int .i64 id, .int .i64 par, .int .i64 wt, .int .i64 p.n.now, .bool thr, .bool false, .int .i64 0, .pointer (some ⟨ib, 0, none⟩)])] [] rfl (fun _ d _ _ _ h => by cases d <;> exact h) (fun _ h => by first | exact h | exact h.tail | exact h.tail.tail | exact h.tail.tail.tail | exact h.tail.tail.tail.tail) has0 (fun _ => by kernel_rfl) ?_
              refine oneR 16 1 [true, true, true, true, true, true, true, true, true, true, true, true, true, true, true, true, true, false] rfl rfl (by kernel_rfl) (newS 54 [.int .i64 id, .int .i64 par, .int .i64 wt, .int .i64 p.n.now, .bool thr, .bool false, .int .i64 0, .pointer (some ⟨ib, 0, none⟩)] (some 90) (fun b => .pointer (some ⟨b, 0, none⟩)) (fun _ _ => by kernel_rfl)) (fun _ _ h hn => by first | exact h | exact h.tail | exact h.tail.tail | exact h.tail.tail.tail | exact h.tail.tail.tail.tail | exact absurd hn (by decide)) (fun b1 => ?_)
              refine DT.pick 3 rfl ?_
              refine oneR 17 0 [true, true, true, true, true, true, true, true, true, true, true, true, true, true, true, true, true, true] rfl rfl (by kernel_rfl) (updS 55 (.tmp 77) (.tmp 78) (.tmp 90) mb id (T.map kp) (.pointer (some ⟨b1, 0, none⟩)) 3 50 (fun _ => by kernel_rfl) (by kernel_rfl) (.inl (by kernel_rfl)) (fun _ => by kernel_rfl) (fun _ => by kernel_rfl) (fun _ => by kernel_rfl) Tryz.underlying55 (by kernel_rfl) (lk_none hT hg)) (fun _ _ h hn => by first | exact h | exact h.tail | exact h.tail.tail | exact h.tail.tail.tail | exact h.tail.tail.tail.tail | exact absurd hn (by decide)) (fun _ => ?_)
              refine drawnR (by kernel_rfl) ?_
              refine seqR (by kernel_rfl) ?_
              refine regionR 1 (by kernel_rfl) (by kernel_rfl) ?_
              refine (run0 (z := 0) 1 [10] [(10, .nilIface)] (fun _ => by kernel_rfl) (endR ?_) : RT _ _ _ _ _ _ 1 _)
              refine retR (by kernel_rfl) ?_
              have hpm := gt_mem hp
              have hno := gt_none.1 hg
              have hid : 1 ≤ id := by have : ¬ id < 1 := fun h => hc1 (.inr h); omega
              refine done0 (.nilIface) (fun _ => by kernel_rfl) (fun w hs => ?_) .ret (.inr rfl)
              exact ⟨⟨T ++ [⟨{ id := id, par := par, wt := wt, pass := p0.now, thr := thr, rdy := false, now := 0 }, [], b1, ib⟩], by rw [hrn]; exact hT.add hsk hpm.1 hpm.2 hid hno rfl b1 ib⟩, by show _ = Ending.returned (pqErr (addN N par id wt thr).1); rw [hrn]; rfl, Sat.addT (x := ⟨{ id := id, par := par, wt := wt, pass := p0.now, thr := thr, rdy := false, now := 0 }, [], b1, ib⟩) (by rw [← hpn]; exact hs)⟩
    | some y =>
      obtain ⟨i, z, hi, hzn, hzk⟩ := hT.get hg
      refine seqR (by kernel_rfl) ?_
      refine regionR 1 (by kernel_rfl) (by kernel_rfl) ?_
      refine (run0 (z := 0) 1 [0, 1, 2, 3, 4, 10] [(0, .pointer (some ⟨t, 0, none⟩)), (1, .int .i64 par), (2, .int .i64 id), (3, .int .i64 wt), (4, .bool thr), (10, .nilIface)] (fun _ => by kernel_rfl) (endR ?_) : RT _ _ _ _ _ _ 1 _)
      refine seqR (by kernel_rfl) ?_
      refine regionR 11 (by kernel_rfl) (by kernel_rfl) ?_
      refine (runR (H := (blk t 57 [.map (some mb)] :: mapS mb (T.map kp) :: (nodesL T ++ H))) (z := 6) 5 [0, 1, 2, 3, 4, 10, 19, 20] [(0, .pointer (some ⟨t, 0, none⟩)), (1, .int .i64 par), (2, .int .i64 id), (3, .int .i64 wt), (4, .bool thr), (10, .nilIface), (19, .map (some mb)), (20, .int .i64 par)] [(⟨t, 0, none⟩, .map (some mb))] (hasC (blkAt (T := 57) (cs := [.map (some mb)]) 0 rfl rfl) has0) (fun _ => by kernel_rfl) ?_ : RT _ _ _ _ _ _ 11 _)
      refine (stepR (z := 5) (yldS (lookY 55 (.tmp 19) (.tmp 20) true mb par (T.map kp) (.pointer none) (.tuple #[.pointer (some ⟨p.b, 0, none⟩), .bool true]) 3 50 (some 21) (fun _ => by kernel_rfl) (by kernel_rfl) (by kernel_rfl) (fun _ => by kernel_rfl) (fun _ => by kernel_rfl) Tryz.underlying55 (by kernel_rfl) (fun _ => by kernel_rfl) (mapAt (H := (blk t 57 [.map (some mb)] :: mapS mb (T.map kp) :: (nodesL T ++ H))) (i := 1) rfl) (by rw [lk_some hT hsk.nd hj hpk]; rfl))) (fun _ => ?_) : RT _ _ _ _ _ _ 6 _)
      refine (run0 (z := 0) 5 [0, 1, 2, 3, 4, 10, 11, 12] [(0, .pointer (some ⟨t, 0, none⟩)), (1, .int .i64 par), (2, .int .i64 id), (3, .int .i64 wt), (4, .bool thr), (10, .nilIface), (11, .pointer (some ⟨p.b, 0, none⟩)), (12, .bool true)] (fun _ => by kernel_rfl) (endR ?_) : RT _ _ _ _ _ _ 5 _)
      refine seqR (by kernel_rfl) ?_
      refine regionR 11 (by kernel_rfl) (by kernel_rfl) ?_
      refine (runR (H := (blk t 57 [.map (some mb)] :: mapS mb (T.map kp) :: (nodesL T ++ H))) (z := 6) 5 [0, 1, 2, 3, 4, 10, 11, 12, 28, 29] [(0, .pointer (some ⟨t, 0, none⟩)), (1, .int .i64 par), (2, .int .i64 id), (3, .int .i64 wt), (4, .bool thr), (10, .nilIface), (11, .pointer (some ⟨p.b, 0, none⟩)), (12, .bool true), (28, .map (some mb)), (29, .int .i64 id)] [(⟨t, 0, none⟩, .map (some mb))] (hasC (blkAt (T := 57) (cs := [.map (some mb)]) 0 rfl rfl) has0) (fun _ => by kernel_rfl) ?_ : RT _ _ _ _ _ _ 11 _)
      refine (stepR (z := 5) (yldS (lookY 55 (.tmp 28) (.tmp 29) true mb id (T.map kp) (.pointer none) (.tuple #[.pointer (some ⟨z.b, 0, none⟩), .bool true]) 3 50 (some 30) (fun _ => by kernel_rfl) (by kernel_rfl) (by kernel_rfl) (fun _ => by kernel_rfl) (fun _ => by kernel_rfl) Tryz.underlying55 (by kernel_rfl) (fun _ => by kernel_rfl) (mapAt (H := (blk t 57 [.map (some mb)] :: mapS mb (T.map kp) :: (nodesL T ++ H))) (i := 1) rfl) (by rw [lk_some hT hsk.nd hi hzk]; rfl))) (fun _ => ?_) : RT _ _ _ _ _ _ 6 _)
      refine (run0 (z := 0) 5 [0, 1, 2, 3, 4, 10, 11, 12, 14] [(0, .pointer (some ⟨t, 0, none⟩)), (1, .int .i64 par), (2, .int .i64 id), (3, .int .i64 wt), (4, .bool thr), (10, .nilIface), (11, .pointer (some ⟨p.b, 0, none⟩)), (12, .bool true), (14, .bool true)] (fun _ => by kernel_rfl) (endR ?_) : RT _ _ _ _ _ _ 5 _)
      refine seqR (by kernel_rfl) ?_
      refine blockR 0 (by kernel_rfl) (by kernel_rfl) ?_
      refine seqR (by kernel_rfl) ?_
      refine regionR 8 (by kernel_rfl) (by kernel_rfl) ?_
      refine (run0 (z := 7) 1 [0, 1, 2, 3, 4, 10, 11, 12, 14, 34] [(0, .pointer (some ⟨t, 0, none⟩)), (1, .int .i64 par), (2, .int .i64 id), (3, .int .i64 wt), (4, .bool thr), (10, .nilIface), (11, .pointer (some ⟨p.b, 0, none⟩)), (12, .bool true), (14, .bool true), (34, .int .i64 wt)] (fun _ => by kernel_rfl) ?_ : RT _ _ _ _ _ _ 8 _)
      refine (stepR (z := 6) (callS 18 [.int .i64 wt] (some 35) (fun _ => .bool (isW wt)) (fun (_ : Unit) => (blk t 57 [.map (some mb)] :: mapS mb (T.map kp) :: (nodesL T ++ H))) (fun _ => by kernel_rfl) (strIs_walk _ wt)) (fun _ => ?_) : RT _ _ _ _ _ _ 7 _)
      refine (run0 (z := 4) 2 [0, 1, 2, 3, 4, 10, 11, 12, 14, 37] [(0, .pointer (some ⟨t, 0, none⟩)), (1, .int .i64 par), (2, .int .i64 id), (3, .int .i64 wt), (4, .bool thr), (10, .nilIface), (11, .pointer (some ⟨p.b, 0, none⟩)), (12, .bool true), (14, .bool true), (37, .bool (!(isW wt)))] (fun _ => by kernel_rfl) ?_ : RT _ _ _ _ _ _ 6 _)
      refine (segR (ι := Unit) (z := 1) 3 (fun _ => [(0, .pointer (some ⟨t, 0, none⟩)), (1, .int .i64 par), (2, .int .i64 id), (3, .int .i64 wt), (4, .bool thr), (10, .nilIface), (11, .pointer (some ⟨p.b, 0, none⟩)), (12, .bool true), (14, .bool true), (40, .bool ((!(isW wt)) || (decide (id < 1))))]) (fun _ => (blk t 57 [.map (some mb)] :: mapS mb (T.map kp) :: (nodesL T ++ H))) ?_ (fun _ => ?_) : RT _ _ _ _ _ _ 4 _)
      · cases hg4 : (!(isW wt)) with
        | true =>
          refine (run0 (z := 0) 3 [0, 1, 2, 3, 4, 10, 11, 12, 14, 40] [(0, .pointer (some ⟨t, 0, none⟩)), (1, .int .i64 par), (2, .int .i64 id), (3, .int .i64 wt), (4, .bool thr), (10, .nilIface), (11, .pointer (some ⟨p.b, 0, none⟩)), (12, .bool true), (14, .bool true), (40, .bool true)] (fun _ => by kernel_rfl) (endR ?_) : RT _ _ _ _ _ _ 3 _)
          refine PT.keep (L' := [(0, .pointer (some ⟨t, 0, none⟩)), (1, .int .i64 par), (2, .int .i64 id), (3, .int .i64 wt), (4, .bool thr), (10, .nilIface), (11, .pointer (some ⟨p.b, 0, none⟩)), (12, .bool true), (14, .bool true), (40, .bool (true || (decide (id < 1))))]) [0, 1, 2, 3, 4, 10, 11, 12, 14, 40] rfl ?_
          exact midR () rfl rfl
        | false =>
          refine (run0 (z := 0) 3 [0, 1, 2, 3, 4, 10, 11, 12, 14, 40] [(0, .pointer (some ⟨t, 0, none⟩)), (1, .int .i64 par), (2, .int .i64 id), (3, .int .i64 wt), (4, .bool thr), (10, .nilIface), (11, .pointer (some ⟨p.b, 0, none⟩)), (12, .bool true), (14, .bool true), (40, .bool (decide (id < 1)))] (fun _ => by kernel_rfl) (endR ?_) : RT _ _ _ _ _ _ 3 _)
          refine PT.keep (L' := [(0, .pointer (some ⟨t, 0, none⟩)), (1, .int .i64 par), (2, .int .i64 id), (3, .int .i64 wt), (4, .bool thr), (10, .nilIface), (11, .pointer (some ⟨p.b, 0, none⟩)), (12, .bool true), (14, .bool true), (40, .bool (false || (decide (id < 1))))]) [0, 1, 2, 3, 4, 10, 11, 12, 14, 40] rfl ?_
          exact midR () rfl rfl
      refine (run0 (z := 0) 1 [0, 1, 2, 3, 4, 10, 11, 12, 14, 33] [(0, .pointer (some ⟨t, 0, none⟩)), (1, .int .i64 par), (2, .int .i64 id), (3, .int .i64 wt), (4, .bool thr), (10, .nilIface), (11, .pointer (some ⟨p.b, 0, none⟩)), (12, .bool true), (14, .bool true), (33, .bool ((!(isW wt)) || (decide (id < 1))))] (fun _ => by kernel_rfl) (endR ?_) : RT _ _ _ _ _ _ 1 _)
      refine condR (b := (!(isW wt)) || (decide (id < 1))) (by kernel_rfl) (fun _ => by kernel_rfl) (fun h1 => ?_) (fun h1 => ?_)
      · skip
        have hc1 : isW wt = false ∨ id < 1 := by simpa using h1
        have hrn : addN N par id wt thr = (10, N) := by rw [addN, if_pos hc1]
        refine seqR (by kernel_rfl) ?_
        refine regionR 2 (by kernel_rfl) (by kernel_rfl) ?_
        refine (run0 (z := 0) 2 [0, 1, 2, 3, 4, 10, 11] [(0, .pointer (some ⟨t, 0, none⟩)), (1, .int .i64 par), (2, .int .i64 id), (3, .int .i64 wt), (4, .bool thr), (10, .iface 46 (.int .i64 10)), (11, .pointer (some ⟨p.b, 0, none⟩))] (fun _ => by kernel_rfl) (endR ?_) : RT _ _ _ _ _ _ 2 _)
        refine retR (by kernel_rfl) ?_
        refine blockV ?_
        refine thenV ?_
        refine done0 (.iface 46 (.int .i64 10)) (fun _ => by kernel_rfl) (fun w hs => ?_) .ret (.inr rfl)
        exact ⟨⟨T, by rw [hrn]; exact hT⟩, by show _ = Ending.returned (pqErr (addN N par id wt thr).1); rw [hrn]; rfl, hs⟩
      · skip
        have hc1 : ¬ (isW wt = false ∨ id < 1) := by simpa using h1
        refine seqR (by kernel_rfl) ?_
        refine regionR 10 (by kernel_rfl) (by kernel_rfl) ?_
        refine (runR (H := (blk t 57 [.map (some mb)] :: mapS mb (T.map kp) :: (nodesL T ++ H))) (z := 0) 10 [0, 1, 2, 3, 4, 10, 11, 14, 42] [(0, .pointer (some ⟨t, 0, none⟩)), (1, .int .i64 par), (2, .int .i64 id), (3, .int .i64 wt), (4, .bool thr), (10, .nilIface), (11, .pointer (some ⟨p.b, 0, none⟩)), (14, .bool true), (42, .bool p.n.thr)] [(⟨p.b, 4, none⟩, .bool p.n.thr)] (hasC (up (up (nodeAt (T := T) (List.mem_of_getElem? hj) (j := 4) rfl))) has0) (fun _ => by kernel_rfl) (endR ?_) : RT _ _ _ _ _ _ 10 _)
        refine condR (b := p.n.thr) (by kernel_rfl) (fun _ => by kernel_rfl) (fun h2 => ?_) (fun h2 => ?_)
        · skip
          have hth : p0.thr = true := by rw [← hpn]; simpa using h2
          have hrn : addN N par id wt thr = (13, N) := by rw [addN, if_neg hc1, hp]; simp only [if_pos hth]
          refine seqR (by kernel_rfl) ?_
          refine regionR 2 (by kernel_rfl) (by kernel_rfl) ?_
          refine (run0 (z := 0) 2 [0, 1, 2, 3, 4, 10, 11] [(0, .pointer (some ⟨t, 0, none⟩)), (1, .int .i64 par), (2, .int .i64 id), (3, .int .i64 wt), (4, .bool thr), (10, .iface 46 (.int .i64 13)), (11, .pointer (some ⟨p.b, 0, none⟩))] (fun _ => by kernel_rfl) (endR ?_) : RT _ _ _ _ _ _ 2 _)
          refine retR (by kernel_rfl) ?_
          refine blockV ?_
          refine thenV ?_
          refine done0 (.iface 46 (.int .i64 13)) (fun _ => by kernel_rfl) (fun w hs => ?_) .ret (.inr rfl)
          exact ⟨⟨T, by rw [hrn]; exact hT⟩, by show _ = Ending.returned (pqErr (addN N par id wt thr).1); rw [hrn]; rfl, hs⟩
        · skip
          have hth : ¬ p0.thr = true := by rw [← hpn]; simpa using h2
          have hrn : addN N par id wt thr = (20, N) := by rw [addN, if_neg hc1, hp]; simp only [if_neg hth]; rw [if_pos (by rw [hg]; rfl)]
          refine seqR (by kernel_rfl) ?_
          refine regionR 2 (by kernel_rfl) (by kernel_rfl) ?_
          refine (run0 (z := 0) 2 [0, 1, 2, 3, 4, 10, 11, 53] [(0, .pointer (some ⟨t, 0, none⟩)), (1, .int .i64 par), (2, .int .i64 id), (3, .int .i64 wt), (4, .bool thr), (10, .nilIface), (11, .pointer (some ⟨p.b, 0, none⟩)), (53, .bool true)] (fun _ => by kernel_rfl) (endR ?_) : RT _ _ _ _ _ _ 2 _)
          refine condR (b := true) (by kernel_rfl) (fun _ => by kernel_rfl) (fun _ => ?_) (fun h => by cases h)
          refine seqR (by kernel_rfl) ?_
          refine regionR 2 (by kernel_rfl) (by kernel_rfl) ?_
          refine (run0 (z := 0) 2 [0, 1, 2, 3, 4, 10, 11] [(0, .pointer (some ⟨t, 0, none⟩)), (1, .int .i64 par), (2, .int .i64 id), (3, .int .i64 wt), (4, .bool thr), (10, .iface 46 (.int .i64 20)), (11, .pointer (some ⟨p.b, 0, none⟩))] (fun _ => by kernel_rfl) (endR ?_) : RT _ _ _ _ _ _ 2 _)
          refine retR (by kernel_rfl) ?_
          refine blockV ?_
          refine thenV ?_
          refine done0 (.iface 46 (.int .i64 20)) (fun _ => by kernel_rfl) (fun w hs => ?_) .ret (.inr rfl)
          exact ⟨⟨T, by rw [hrn]; exact hT⟩, by show _ = Ending.returned (pqErr (addN N par id wt thr).1); rw [hrn]; rfl, hs⟩
end Go.Proofs.YtjbjngikaiggdaaGreat
