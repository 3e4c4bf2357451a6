/- Texts put together: passq: insert, Put, Drop, Rekey. math/bits.Len of small numbers: its walk. slices.SortFunc of entries that are in order: it changes nothing. Conditions: the row is in order. passq: All, Shift. slices.Insert, slices.Delete of one element at rows of int. Whole numbers below 2^53 as floats: exact, in their order, back again; sums and products. Whole numbers as floats: comparisons, sums, conversions as operations. Maps of numbers in G. Maps of numbers in G: gone through; an entry that goes; how many. errors.Is of numbered errors: its walk. passq: entries compared; errors; what the laws know first. Trees: their nodes as a list, what each operation makes of it; nodes in memory. Trees: what an index holds of a group, when one node changes. A builtin of two operands in G; the greater of two whole numbers as floats. tree: strides, passes as floats; New, Deep, Node. Rows of numbers: slices.Index, Contains, Delete. A map's keys, sorted: slices.Sorted(maps.Keys(m)), by the shelf's contracts. tree: New, Deep, Node. Trees: one round of waking, of resting; another pass. Conditions: none. -/
import Derived.Test.YtlhjibkkkhgonaaGreatDoorMgKd0
import Derived.Lib.BitFns
import Derived.Lib.Tables
import Derived.Laws.FloatArith
import Ieee.Arith
import Derived.MapKept
import Derived.WideLaws
import Derived.Laws.IdiomRangeMap
import Derived.LaidEql
import Derived.Stop.Asserts
import Derived.RowKitTokens
import Derived.Lib.IfaceEq
import Derived.Laws.StructEq
import Derived.ChangeKeysEq
import Derived.Shelf.SlIterI.Sorted
import Derived.Shelf.SortM.Plain
import Derived.Shelf.SortM.SortNone
set_option linter.unusedVariables false
set_option linter.unusedSimpArgs false
namespace Go.Proofs.YtlhjibkkkhgonaaGreatDoor
open Go.RowKit G
def pinS (P : SP) (G : Nat → Prop) : SP := ⟨fun w F => P.holds w F ∧ F = G, fun h => P.lt h.1, fun h a => ⟨P.stay h.1 a, h.2⟩⟩
/-- A call that changes a row, by what it says of the row. -/
theorem rowCall {α : Type} {E : Enc α} {T : TypeId} {v : Value} {xs zs : List α} {H : List SP} {P : Program} {f : FuncId} {vs : Array Value}
  (h : ∀ w F, Row E T w F v xs → SatF H w (fun b => True ∧ ¬ F b) → Calls P f vs w (RowPost E T F w zs)) :
  ∀ w, Sat w (row E T v xs :: H) → Calls P f vs w (Ret (ι := Option Addr × Nat) (fun p => .slice p.1 zs.length p.2) fun p => row E T (.slice p.1 zs.length p.2) zs :: H) := by
 rintro w ⟨G, hG, _, h3⟩
 refine (h w G hG h3).mono ?_
 rintro e w' ⟨v', F', rfl, hr, hu, hf⟩
 have hp : Sat w (pinS (row E T v xs) G :: H) := ⟨G, ⟨hG, rfl⟩, fun _ _ => trivial, h3⟩
 have key : Sat w' (row E T v' zs :: H) := hp.change fun G' hG' => by
  obtain ⟨_, rfl⟩ := hG'
  exact ⟨hu, F', hr, hf⟩
 rcases hr with ⟨rfl, h0, _⟩ | ⟨b, o, c, cur, rfl, _⟩
 ·subst h0; exact ⟨(none, 0), rfl, key⟩
 ·exact ⟨(some ⟨b, o, none⟩, c), rfl, key⟩
theorem ins_walk (H : List SP) (j : Nat) (v : Value) (xs : List (Int × Int)) (x : Int × Int) (yb : Nat) (T' : TypeId) (hj : H[j]? = some (blk yb T' (slE.enc x))) (i : Nat) (hi : i ≤ xs.length) (hn : xs.length ≤ 1000000000) :
  ∀ w, Sat w (row slE 150 v xs :: H) → Calls Tryz.prog 134 #[v, .int .i64 i, .slice (some ⟨yb, 0, none⟩) 1 1] w (Ret (ι := Option Addr × Nat) (fun p => .slice p.1 (xs.take i ++ x :: xs.drop i).length p.2) fun p => row slE 150 (.slice p.1 (xs.take i ++ x :: xs.drop i).length p.2) (xs.take i ++ x :: xs.drop i) :: H) :=
 rowCall fun w F hr h3 => by
  obtain ⟨K, ⟨hk1, hk2⟩, hk3, _⟩ := SatF.pick j hj h3
  exact ins_sl w F v xs x hr yb T' hk1 ((hk3 yb ((hk2 yb).2 rfl)).2) i hi hn
theorem del_walk (H : List SP) (v : Value) (xs : List (Int × Int)) (i : Nat) (hi : i < xs.length) (hn : xs.length ≤ 1000000000) :
  ∀ w, Sat w (row slE 150 v xs :: H) → Calls Tryz.prog 125 #[v, .int .i64 i, .int .i64 ((i : Int) + 1)] w (Ret (ι := Option Addr × Nat) (fun p => .slice p.1 (xs.take i ++ xs.drop (i + 1)).length p.2) fun p => row slE 150 (.slice p.1 (xs.take i ++ xs.drop (i + 1)).length p.2) (xs.take i ++ xs.drop (i + 1)) :: H) :=
 rowCall fun w F hr _ => del_sl w F v xs hr i hi hn
/-- An entry where it belongs. -/
def insE (e : Int × Int) : List (Int × Int) → List (Int × Int)
 | [] => [e]
 | x :: r => if eLt x e then x :: insE e r else e :: x :: r
theorem insE_cut (e : Int × Int) : ∀ (l : List (Int × Int)) (i : Nat), CutE l e i → l.take i ++ e :: l.drop i = insE e l
 | [], i, h => by simp [insE]
 | x :: r, 0, h => by
  have := h.2.2 0 x (by omega) rfl
  simp [insE, this]
 | x :: r, i + 1, h => by
  have h1 := h.2.1 0 x (by omega) rfl
  have ih := insE_cut e r i ⟨by have := h.1; simp at this; omega, fun v y hv hy => h.2.1 (v + 1) y (by omega) (by simpa using hy), fun v y hv hy => h.2.2 (v + 1) y (by omega) (by simpa using hy)⟩
  simp only [insE, List.take_succ_cons, List.drop_succ_cons, List.cons_append, if_pos h1, ih]
set_option maxHeartbeats 1000000 in
set_option maxRecDepth 100000 in
theorem insert_walk (H : List SP) (b : Nat) (A : Option Addr) (cap : Nat) (room : Int) (l : List (Int × Int)) (p i : Int) (hsr : SrtE l) (hl : l.length < 1000000) : ∀ w, Sat w (blk b 171 [.slice A l.length cap, vi room] :: row slE 150 (.slice A l.length cap) l :: H) → Calls Tryz.prog 124 #[vp b, .agg #[vi p, vi i]] w (Ret (ι := Option Addr × Nat) (fun _ => .tuple #[]) fun x => blk b 171 [.slice x.1 (insE (p, i) l).length x.2, vi room] :: row slE 150 (.slice x.1 (insE (p, i) l).length x.2) (insE (p, i) l) :: H) := by
 refine enterG (fn := Tryz.f124) 26 [vp b, .agg #[vi p, vi i]] Tryz.func124 (by kernel_rfl) (by kernel_rfl) (by kernel_rfl) ?_
 refine Xq (Xg 1 (Xs (Xn 150 [vi p, vi i] (some 3) (fun b => vp b)) (fun b1 => ?_) 0))
 refine endR ?_
 refine Xq (Xy0 0 [] 11 ?_)
 refine Xt [0, 1, 2, 3, 4] [(3,vp b1), (0,vp b), (10,.slice A l.length cap), (11,.agg #[vi p, vi i])] [(⟨b, 0, none⟩, .slice A l.length cap), (⟨b1, 0, none⟩, vi p), (⟨b1, 1, none⟩, vi i)] (hasC (ba 1) (hasC (ba 0) (hasC (ba 0) has0))) ?_
 refine Xo 5 (Xa (some 12) (fun (x : {x : Nat × Bool // CutE l (p, i) x.1}) => .tuple #[vi (x.1.1 : Int), .bool x.1.2]) (bs_walk _ ⟨A, cap, l⟩ p i (rowKRat 2 rfl) hsr hl)) (fun (x : {x : Nat × Bool // CutE l (p, i) x.1}) => ?_)
 obtain ⟨⟨m, fo⟩, hcut⟩ := x
 dsimp only
 refine Xt [6, 7, 8, 9, 10] [(3,vp b1), (0,vp b), (4,vi m)] [] has0 ?_
 refine Xd ?_
 refine PT.pick 2 rfl ?_
 refine Xy0 1 [11] 12 ?_
 refine Xt [0, 1, 2, 3, 4, 5, 6] [(15,vp b), (19,.slice A l.length cap), (20,vi m), (21,.agg #[vi p, vi i])] [(⟨b, 0, none⟩, .slice A l.length cap), (⟨b1, 0, none⟩, vi p), (⟨b1, 1, none⟩, vi i)] (hasC (ba 1) (hasC (ba 0) (hasC (ba 0) has0))) ?_
 refine Xo 7 (Xn 150 [vi p, vi i] (some 22) (fun b => .slice (some ⟨b, 0, none⟩) 1 1)) (fun b2 => ?_)
 refine DT.pick 1 rfl ?_
 refine Xo 8 (Xa (some 23) (fun (r : Option Addr × Nat) => .slice r.1 (l.take m ++ (p, i) :: l.drop m).length r.2) (ins_walk (blk b2 150 [.int .i64 p, .int .i64 i] :: blk b1 150 [.int .i64 p, .int .i64 i] :: blk b 171 [.slice A l.length cap, .int .i64 room] :: H) 0 (.slice A l.length cap) l (p, i) b2 _ rfl m hcut.1 (by omega))) (fun (r : Option Addr × Nat) => ?_)
 rw [insE_cut (p, i) l m hcut]
 refine Xt [9, 10] [(23,.slice r.1 ((insE (p, i) l).length) r.2), (25,vp b)] [] has0 ?_
 refine DT.pick 3 rfl ?_
 refine Xo 11 (Xz [(0,.slice r.1 ((insE (p, i) l).length) r.2)]) (fun _ => ?_)
 refine Xd (Y1 (.tuple #[]) (fun w hs => ?_))
 exact ⟨r, rfl, Sat.erase 2 rfl (Sat.erase 2 rfl hs)⟩
def pqErr (e : Int) : Value := if e = 0 then .nilIface else .iface 66 (.int .i64 e)
def putE (room : Int) (l : List (Int × Int)) (p id : Int) : Int × List (Int × Int) :=
 if ((!isPassB p) || decide (id < 0)) = true then (10, l) else if findI l id ≥ 0 then (20, l) else if (l.length : Int) ≥ room then (14, l) else (0, insE (p, id) l)
set_option maxRecDepth 100000 in
theorem put_walk (H : List SP) (b : Nat) (A : Option Addr) (cap : Nat) (room : Int) (l : List (Int × Int)) (p id : Int) (hsr : SrtE l) (hl : l.length < 1000000) : ∀ w, Sat w (blk b 171 [.slice A l.length cap, vi room] :: row slE 150 (.slice A l.length cap) l :: H) → Calls Tryz.prog 107 #[vp b, vi p, vi id] w (Ret (ι := Option Addr × Nat) (fun _ => pqErr (putE room l p id).1) fun x => blk b 171 [.slice x.1 (putE room l p id).2.length x.2, vi room] :: row slE 150 (.slice x.1 (putE room l p id).2.length x.2) (putE room l p id).2 :: H) := by
 refine enterG (fn := Tryz.f107) 39 [vp b, vi p, vi id] Tryz.func107 (by kernel_rfl) (by kernel_rfl) (by kernel_rfl) ?_
 refine Xq (Xg 1 (Xe [(0,vp b), (1,vi p), (2,vi id), (6,.nilIface)] ?_ 1))
 refine Xq (Xb 0 (Xq (Xg 8 (Xr [(0,vp b), (1,vi p), (2,vi id), (6,.nilIface), (8,vi p)] ?_ 7 1))))
 refine Xs (Xa (some 9) (fun _ => .bool (isPassB p)) (isPass_walk _ p)) (fun _ => ?_) 6
 refine Xr [(0,vp b), (1,vi p), (2,vi id), (6,.nilIface), (11,.bool (!(isPassB p)))] ?_ 4 2
 refine (Xs0 1 3 [(0,vp b), (1,vi p), (2,vi id), (6,.nilIface), (14,.bool ((!(isPassB p)) || (decide (id < 0))))] ?_ ?_ : RT _ _ _ _ _ _ 4 _)
 ·cases hg4 : (!(isPassB p)) with
  | true =>
   refine Xe [(0,vp b), (1,vi p), (2,vi id), (6,.nilIface), (14,.bool true)] ?_ 3
   refine Xp [(0,vp b), (1,vi p), (2,vi id), (6,.nilIface), (14,.bool (true || (decide (id < 0))))] ?_
   exact midR () rfl rfl
  | false =>
   refine Xe [(0,vp b), (1,vi p), (2,vi id), (6,.nilIface), (14,.bool (decide (id < 0)))] ?_ 3
   refine Xp [(0,vp b), (1,vi p), (2,vi id), (6,.nilIface), (14,.bool (false || (decide (id < 0))))] ?_
   exact midR () rfl rfl
 refine Xe [(0,vp b), (1,vi p), (2,vi id), (6,.nilIface), (7,.bool ((!(isPassB p)) || (decide (id < 0))))] ?_ 1
 refine Xc ((!(isPassB p)) || (decide (id < 0))) (fun h1 => ?_) (fun h1 => ?_)
 ·skip
  refine Xq (Xg 2 (Xe [(0,vp b), (1,vi p), (2,vi id), (6,.iface 66 (vi 10))] ?_ 2))
  refine Xv (blockV (thenV (Y0 (.iface 66 (vi 10)) (fun w hs => ?_))))
  rw [putE, if_pos h1]; exact ⟨(A, cap), rfl, hs⟩
 ·skip
  have h1' : ¬ ((!isPassB p) || decide (id < 0)) = true := by rw [show ((!isPassB p) || decide (id < 0)) = false from h1]; simp
  refine Xq (Xg 5 (Xr [(0,vp b), (1,vi p), (2,vi id), (6,.nilIface), (17,vp b), (18,vi id)] ?_ 3 2))
  refine Xs (Xa (some 19) (fun _ => vi (findI l id)) (find_walk _ b A cap room l id (by omega))) (fun _ => ?_) 2
  refine Xe [(0,vp b), (1,vi p), (2,vi id), (6,.nilIface), (16,.bool (decide ((findI l id) ≥ 0)))] ?_ 2
  refine Xc (decide ((findI l id) ≥ 0)) (fun h2 => ?_) (fun h2 => ?_)
  ·skip
   refine Xq (Xg 2 (Xe [(0,vp b), (1,vi p), (2,vi id), (6,.iface 66 (vi 20))] ?_ 2))
   refine Xv (blockV (thenV (Y0 (.iface 66 (vi 20)) (fun w hs => ?_))))
   rw [putE, if_neg h1', if_pos (of_decide_eq_true h2)]; exact ⟨(A, cap), rfl, hs⟩
  ·skip
   refine Xq (Xy0 0 [] 11 ?_)
   refine Xt [0, 1, 2, 3, 4, 5, 6, 7, 8, 9, 10] [(0,vp b), (1,vi p), (2,vi id), (6,.nilIface), (22,.bool (decide ((l.length : Int) ≥ room)))] [(⟨b, 0, none⟩, .slice A l.length cap), (⟨b, 1, none⟩, vi room)] (hasC (ba 0) (hasC (ba 0) has0)) ?_
   refine Xd (Xc (decide ((l.length : Int) ≥ room)) (fun h3 => ?_) (fun h3 => ?_))
   ·skip
    refine Xq (Xg 2 (Xe [(0,vp b), (1,vi p), (2,vi id), (6,.iface 66 (vi 14))] ?_ 2))
    refine Xv (blockV (thenV (Y0 (.iface 66 (vi 14)) (fun w hs => ?_))))
    rw [putE, if_neg h1', if_neg (of_decide_eq_false h2), if_pos (of_decide_eq_true h3)]; exact ⟨(A, cap), rfl, hs⟩
   ·skip
    refine Xk (Xq (Xg 5 (Xr [(6,.nilIface), (34,vp b), (37,.agg #[vi p, vi id])] ?_ 1 4)))
    refine Xs (Xa (some 38) (fun (r : Option Addr × Nat) => .tuple #[]) (insert_walk _ b A cap room l p id hsr hl)) (fun (r : Option Addr × Nat) => ?_) 0
    refine endR ?_
    refine Xq (Xg 1 (Xe [(6,.nilIface)] ?_ 1))
    refine Xv (Y0 (.nilIface) (fun w hs => ?_))
    rw [putE, if_neg h1', if_neg (of_decide_eq_false h2), if_neg (of_decide_eq_false h3)]; exact ⟨r, rfl, hs⟩
def dropE (l : List (Int × Int)) (id : Int) : Int × List (Int × Int) := if findI l id < 0 then (13, l) else (0, l.take (findI l id).toNat ++ l.drop ((findI l id).toNat + 1))
set_option maxRecDepth 100000 in
theorem drop_walk (H : List SP) (b : Nat) (A : Option Addr) (cap : Nat) (room : Int) (l : List (Int × Int)) (id : Int) (hl : l.length < 1000000) : ∀ w, Sat w (blk b 171 [.slice A l.length cap, vi room] :: row slE 150 (.slice A l.length cap) l :: H) → Calls Tryz.prog 109 #[vp b, vi id] w (Ret (ι := Option Addr × Nat) (fun _ => pqErr (dropE l id).1) fun x => blk b 171 [.slice x.1 (dropE l id).2.length x.2, vi room] :: row slE 150 (.slice x.1 (dropE l id).2.length x.2) (dropE l id).2 :: H) := by
 refine enterG (fn := Tryz.f109) 23 [vp b, vi id] Tryz.func109 (by kernel_rfl) (by kernel_rfl) (by kernel_rfl) ?_
 refine Xq (Xg 1 (Xe [(0,vp b), (1,vi id), (4,.nilIface)] ?_ 1))
 refine Xq (Xg 4 (Xr [(0,vp b), (4,.nilIface), (6,vp b), (7,vi id)] ?_ 2 2))
 refine Xs (Xa (some 8) (fun _ => vi (findI l id)) (find_walk _ b A cap room l id (by omega))) (fun _ => ?_) 1
 refine Xe [(0,vp b), (4,.nilIface), (5,vi (findI l id))] ?_ 1
 refine Xq (Xq (Xg 2 (Xe [(0,vp b), (4,.nilIface), (5,vi (findI l id)), (10,.bool (decide ((findI l id) < 0)))] ?_ 2)))
 refine Xc (decide ((findI l id) < 0)) (fun h1 => ?_) (fun h1 => ?_)
 ·skip
  refine Xq (Xg 2 (Xe [(0,vp b), (4,.iface 66 (vi 13)), (5,vi (findI l id))] ?_ 2))
  refine Xv (thenV (Y0 (.iface 66 (vi 13)) (fun w hs => ?_)))
  rw [dropE, if_pos (of_decide_eq_true h1)]; exact ⟨(A, cap), rfl, hs⟩
 ·skip
  have h1' := of_decide_eq_false h1
  rcases findI_cases l id with ⟨hf, _⟩ | ⟨i, e, hf, he, hid, _⟩
  ·omega
  have hil := (List.getElem?_eq_some_iff.1 he).1
  have hd : dropE l id = (0, l.take i ++ l.drop (i + 1)) := by rw [dropE, if_neg h1', hf, Int.toNat_natCast]
  rw [hf, hd]
  have hw : IntKind.i64.wrap ((i : Int) + 1) = (i : Int) + 1 := by rw [IntKind.wrap_i64]; omega
  refine Xk (Xq (Xg 12 (Xl [(4,.nilIface), (12,vp b), (16,.slice A l.length cap), (17,vi i), (19,vi (IntKind.i64.wrap ((i : Int) + 1)))] [(⟨b, 0, none⟩, .slice A l.length cap)] (hasC (ba 0) has0) ?_ 4 8)))
  rw [hw]
  refine Xh0 ?_ 1 4
  refine Xs (Xa (some 20) (fun (r : Option Addr × Nat) => .slice r.1 (l.take i ++ l.drop (i + 1)).length r.2) (del_walk (blk b 171 [.slice A l.length cap, .int .i64 room] :: H) (.slice A l.length cap) l i hil (by omega))) (fun (r : Option Addr × Nat) => ?_) 3
  refine Xr [(20,.slice r.1 ((l.take i ++ l.drop (i + 1)).length) r.2), (4,.nilIface), (22,vp b)] ?_ 1 2
  refine Xh0 ?_ 1 1
  refine Xs (Xz [(0,.slice r.1 ((l.take i ++ l.drop (i + 1)).length) r.2)]) (fun _ => ?_) 0
  refine endR ?_
  refine Xq (Xg 1 (Xe [(4,.nilIface)] ?_ 1))
  refine Xv (Y0 (.nilIface) (fun w hs => ?_))
  exact ⟨r, rfl, hs⟩
def rekeyE (l : List (Int × Int)) (id p : Int) : Int × List (Int × Int) := if isPassB p = false then (10, l) else if findI l id < 0 then (13, l) else (0, insE (p, id) (l.take (findI l id).toNat ++ l.drop ((findI l id).toNat + 1)))
theorem SrtE.drop {l : List (Int × Int)} (h : SrtE l) (id : Int) : SrtE (dropE l id).2 := by
 unfold dropE
 split
 ·exact h
 ·rw [← List.eraseIdx_eq_take_drop_succ]; exact h.sublist (List.eraseIdx_sublist _ _)
theorem dropE_len (l : List (Int × Int)) (id : Int) : (dropE l id).2.length ≤ l.length := by
 unfold dropE
 split
 ·exact Nat.le_refl _
 ·rw [← List.eraseIdx_eq_take_drop_succ]; exact (List.eraseIdx_sublist _ _).length_le
set_option maxRecDepth 100000 in
theorem rekey_walk (H : List SP) (b : Nat) (A : Option Addr) (cap : Nat) (room : Int) (l : List (Int × Int)) (id p : Int) (hsr : SrtE l) (hl : l.length < 1000000) : ∀ w, Sat w (blk b 171 [.slice A l.length cap, vi room] :: row slE 150 (.slice A l.length cap) l :: H) → Calls Tryz.prog 117 #[vp b, vi id, vi p] w (Ret (ι := Option Addr × Nat) (fun _ => pqErr (rekeyE l id p).1) fun x => blk b 171 [.slice x.1 (rekeyE l id p).2.length x.2, vi room] :: row slE 150 (.slice x.1 (rekeyE l id p).2.length x.2) (rekeyE l id p).2 :: H) := by
 refine enterG (fn := Tryz.f117) 23 [vp b, vi id, vi p] Tryz.func117 (by kernel_rfl) (by kernel_rfl) (by kernel_rfl) ?_
 refine Xq (Xg 1 (Xe [(0,vp b), (1,vi id), (2,vi p), (6,.nilIface)] ?_ 1))
 refine Xq (Xq (Xg 3 (Xr [(0,vp b), (1,vi id), (2,vi p), (6,.nilIface), (8,vi p)] ?_ 2 1)))
 refine Xs (Xa (some 9) (fun _ => .bool (isPassB p)) (isPass_walk _ p)) (fun _ => ?_) 1
 refine Xe [(0,vp b), (1,vi id), (2,vi p), (6,.nilIface), (10,.bool (!(isPassB p)))] ?_ 1
 cases h1 : (isPassB p) with
 | true =>
  refine Xc false (fun h => by cases h) (fun _ => ?_)
  refine Xk (Xq (Xq (Xg 4 (Xr [(0,vp b), (1,vi id), (2,vi p), (6,.nilIface), (12,vp b), (13,vi id)] ?_ 2 2))))
  refine Xs (Xa (some 14) (fun (r : Option Addr × Nat) => pqErr (dropE l id).1) (drop_walk _ b A cap room l id hl)) (fun (r : Option Addr × Nat) => ?_) 1
  rcases Int.lt_or_le (findI l id) 0 with h2 | h2
  ·rw [show dropE l id = (13, l) by rw [dropE, if_pos h2]]
   refine Xe [(0,vp b), (1,vi id), (2,vi p), (6,.nilIface), (7,.iface 66 (vi 13))] ?_ 1
   refine Xq (Xg 2 (Xe [(0,vp b), (1,vi id), (2,vi p), (6,.nilIface), (7,.iface 66 (vi 13)), (16,.bool true)] ?_ 2))
   refine Xc true (fun _ => ?_) (fun h => by cases h)
   refine Xq (Xg 2 (Xe [(0,vp b), (1,vi id), (2,vi p), (6,.iface 66 (vi 13))] ?_ 2))
   refine Xv (thenV ?_)
   have hk2 : rekeyE l id p = (13, l) := by rw [rekeyE, if_neg (by rw [h1]; simp), if_pos h2]
   refine Y0 (.iface 66 (vi 13)) (fun w hs => ?_)
   rw [hk2]; exact ⟨r, rfl, hs⟩
  ·skip
   have hd0 : (dropE l id).1 = 0 := by rw [dropE, if_neg (by omega)]
   have hk2 : rekeyE l id p = (0, insE (p, id) (dropE l id).2) := by rw [rekeyE, if_neg (by rw [h1]; simp), if_neg (by omega), dropE, if_neg (by omega)]
   rw [hd0]
   refine Xe [(0,vp b), (1,vi id), (2,vi p), (6,.nilIface), (7,.nilIface)] ?_ 1
   refine Xq (Xg 2 (Xe [(0,vp b), (1,vi id), (2,vi p), (6,.nilIface), (7,.nilIface), (16,.bool false)] ?_ 2))
   refine Xc false (fun h => by cases h) (fun _ => ?_)
   refine Xk (Xq (Xg 5 (Xr [(6,.nilIface), (18,vp b), (21,.agg #[vi p, vi id])] ?_ 1 4)))
   refine Xs (Xa (some 22) (fun (q : Option Addr × Nat) => .tuple #[]) (insert_walk _ b r.1 r.2 room (dropE l id).2 p id (hsr.drop id) (Nat.lt_of_le_of_lt (dropE_len l id) hl))) (fun (q : Option Addr × Nat) => ?_) 0
   refine endR ?_
   refine Xq (Xg 1 (Xe [(6,.nilIface)] ?_ 1))
   refine Xv (Y0 (.nilIface) (fun w hs => ?_))
   rw [hk2]; exact ⟨q, rfl, hs⟩
 | false =>
  refine Xc true (fun _ => ?_) (fun h => by cases h)
  refine Xq (Xg 2 (Xe [(0,vp b), (1,vi id), (2,vi p), (6,.iface 66 (vi 10))] ?_ 2))
  refine Xv (thenV (Y0 (.iface 66 (vi 10)) (fun w hs => ?_)))
  rw [rekeyE, if_pos h1]; exact ⟨(A, cap), rfl, hs⟩
end Go.Proofs.YtlhjibkkkhgonaaGreatDoor
set_option linter.unusedVariables false
set_option linter.unusedSimpArgs false
namespace Go.Proofs.YtlhjibkkkhgonaaGreatDoor
open Go.RowKit G Go.Lib
theorem len8_big : ∀ n : Fin 65, 0 ≤ len8 (n.val : Int) ∧ len8 (n.val : Int) ≤ 7 ∧ (12 < n.val → len8 (n.val : Int) ≠ 0) := by decide +kernel
set_option maxHeartbeats 1000000 in
set_option maxRecDepth 100000 in
theorem len64_w (w : World) (n : Int) (h0 : 0 ≤ n) (h1 : n ≤ 64) : Calls Tryz.prog 149 #[.int .u64 n] w fun e w' => e = .returned (vi (len8 n)) ∧ w' = w := by
 have d1 : decide (n ≥ 4294967296) = false := decide_eq_false (by omega)
 have d2 : decide (n ≥ 65536) = false := decide_eq_false (by omega)
 have d3 : decide (n ≥ 256) = false := decide_eq_false (by omega)
 have hb := len8_big ⟨n.toNat, by omega⟩
 rw [show ((⟨n.toNat, by omega⟩ : Fin 65).val : Int) = n by show (n.toNat : Int) = n; omega] at hb
 go_enter Tryz.func149, Tryz.ntmps149
 have hlt : n < (len8tab.size : Int) := by rw [len8tab_size]; omega
 have hsz : n.toNat < len8tab.size := by omega
 have he : ((len8tab[n.toNat]).toNat : Int) = len8 n := by
  unfold len8
  rw [getElem?_pos len8tab n.toNat hsz]; rfl
 go_wp2
 go_ret
 exact ⟨rfl, rfl⟩
theorem len64_walk (H : List SP) (n : Int) (h0 : 0 ≤ n) (h1 : n ≤ 64) : ∀ w, Sat w H → Calls Tryz.prog 149 #[.int .u64 n] w (Ret (ι := Unit) (fun _ => vi (len8 n)) fun _ => H) := fun w hs =>
 (len64_w w n h0 h1).mono fun e w' ⟨he, hw⟩ => ⟨(), he, hw ▸ hs⟩
set_option maxRecDepth 100000 in
theorem bitsLen_walk (H : List SP) (n : Int) (h0 : 0 ≤ n) (h1 : n ≤ 64) : ∀ w, Sat w H → Calls Tryz.prog 132 #[.int .u64 n] w (Ret (ι := Unit) (fun _ => vi (len8 n)) fun _ => H) := by
 refine enterG (fn := Tryz.f132) 8 [.int .u64 n] Tryz.func132 (by kernel_rfl) (by kernel_rfl) (by kernel_rfl) ?_
 refine Xq (Xg 1 (Xe [(0,.int .u64 n), (2,vi 0)] ?_ 1))
 refine Xq (Xc false (fun h => by cases h) (fun _ => ?_))
 refine Xk (Xq (Xg 3 (Xr [(2,vi 0), (6,.int .u64 n)] ?_ 2 1)))
 refine Xs (Xa (some 7) (fun _ => vi (len8 n)) (len64_walk _ n h0 h1)) (fun _ => ?_) 1
 refine Xe [(2,vi (len8 n))] ?_ 1
 refine Xv (Y0 (vi (len8 n)) (fun w hs => ?_))
 exact ⟨(), rfl, hs⟩
end Go.Proofs.YtlhjibkkkhgonaaGreatDoor
set_option linter.unusedVariables false
set_option linter.unusedSimpArgs false
namespace Go.Proofs.YtlhjibkkkhgonaaGreatDoor
open Go.RowKit G Go.Lib
theorem SrtE.not {l : List (Int × Int)} (h : SrtE l) {u v : Nat} {x y : Int × Int} (hu : l[u]? = some x) (hv : l[v]? = some y) (huv : u < v) : decide (byI (y.1, y.2) (x.1, x.2) < 0) = false :=
 decide_eq_false fun hl => eLt_irrefl x (eLt_trans (h.at hu hv huv) ((byI_lt y x).1 hl))
set_option maxRecDepth 100000 in
theorem order2_walk (H : List SP) (s : SV (Int × Int)) (hk : KR H slE s) (hsr : SrtE s.l) (u v : Nat) (huv : u < v) (hv : v < s.l.length) (q : Value) : ∀ w, Sat w H → Calls Tryz.prog 172 #[.slice s.a s.l.length s.c, vi u, vi v, q, .func (.func 129) #[] #[]] w (Ret (ι := Unit) (fun _ => .tuple #[vi u, vi v]) fun _ => H) := by
 obtain ⟨x, hx⟩ : ∃ x, s.l[u]? = some x := ⟨s.l[u]'(by omega), by simp⟩
 obtain ⟨y, hy⟩ : ∃ y, s.l[v]? = some y := ⟨s.l[v]'(by omega), by simp⟩
 refine enterG (fn := Tryz.f172) 32 [.slice s.a s.l.length s.c, vi u, vi v, q, .func (.func 129) #[] #[]] Tryz.func172 (by kernel_rfl) (by kernel_rfl) (by kernel_rfl) ?_
 refine PT.know ((hk).isSome (List.ne_nil_of_length_pos (by omega))) ?_
 rintro ⟨sb, so, hA⟩
 try rw [hA]
 refine Xq (Xg 2 (Xe [(0,.slice (some ⟨sb, so, none⟩) s.l.length s.c), (1,vi u), (2,vi v), (3,q), (4,.func (.func 129) #[] #[]), (10,vi 0), (11,vi 0)] ?_ 2))
 refine Xq (Xq (Xy0 0 [] 11 ?_))
 refine Xt [0, 1, 2, 5, 6] [(1,vi u), (2,vi v), (3,q), (10,vi 0), (11,vi 0), (12,.func (.func 129) #[] #[]), (13,.slice (some ⟨sb, so, none⟩) s.l.length s.c), (14,vi v), (17,.slice (some ⟨sb, so, none⟩) s.l.length s.c), (18,vi u)] [] has0 ?_
 refine Xu 3 (Xi 169 (.tmp 13) (.tmp 14) sb so s.l.length s.c v 2 150 (v : Int) 15 Tryz.underlying169) ?_
 refine Xt [4] [(1,vi u), (2,vi v), (3,q), (10,vi 0), (11,vi 0), (12,.func (.func 129) #[] #[]), (17,.slice (some ⟨sb, so, none⟩) s.l.length s.c), (18,vi u), (16,.agg #[vi y.1, vi y.2])] [(⟨sb, so + v * 2, none⟩, vi y.1), (⟨sb, so + v * 2 + 1, none⟩, vi y.2)] (hasC (hk.cell hA (i := v) (x := y) hy (j := 0) rfl) (hasC (hk.cell hA (i := v) (x := y) hy (j := 1) rfl) has0)) ?_
 refine Xu 7 (Xi 169 (.tmp 17) (.tmp 18) sb so s.l.length s.c u 2 150 (u : Int) 19 Tryz.underlying169) ?_
 refine Xt [8] [(1,vi u), (2,vi v), (3,q), (10,vi 0), (11,vi 0), (12,.func (.func 129) #[] #[]), (16,.agg #[vi y.1, vi y.2]), (20,.agg #[vi x.1, vi x.2])] [(⟨sb, so + u * 2, none⟩, vi x.1), (⟨sb, so + u * 2 + 1, none⟩, vi x.2)] (hasC (hk.cell hA (i := u) (x := x) hx (j := 0) rfl) (hasC (hk.cell hA (i := u) (x := x) hx (j := 1) rfl) has0)) ?_
 refine Xo 9 (Xa (some 21) (fun _ => vi (byI (y.1, y.2) (x.1, x.2))) (by_walk _ y.1 y.2 x.1 x.2)) (fun _ => ?_)
 refine Xt [10] [(1,vi u), (2,vi v), (3,q), (10,vi 0), (11,vi 0), (22,.bool (decide ((byI (y.1, y.2) (x.1, x.2)) < 0)))] [] has0 ?_
 refine Xd ?_
 rw [hsr.not hx hy huv]
 refine Xc false (fun h => by cases h) (fun _ => ?_)
 refine Xk (Xq (Xg 4 (Xe [(10,vi u), (11,vi v)] ?_ 4)))
 refine Xv (Y0 (.tuple #[vi u, vi v]) (fun w hs => ?_))
 exact ⟨(), rfl, hs⟩
set_option maxRecDepth 100000 in
theorem median_walk (H : List SP) (s : SV (Int × Int)) (hk : KR H slE s) (hsr : SrtE s.l) (u v t : Nat) (huv : u < v) (hvt : v < t) (ht : t < s.l.length) (q : Value) : ∀ w, Sat w H → Calls Tryz.prog 169 #[.slice s.a s.l.length s.c, vi u, vi v, vi t, q, .func (.func 129) #[] #[]] w (Ret (ι := Unit) (fun _ => vi v) fun _ => H) := by
 refine enterG (fn := Tryz.f169) 41 [.slice s.a s.l.length s.c, vi u, vi v, vi t, q, .func (.func 129) #[] #[]] Tryz.func169 (by kernel_rfl) (by kernel_rfl) (by kernel_rfl) ?_
 refine Xq (Xg 1 (Xe [(0,.slice s.a s.l.length s.c), (1,vi u), (2,vi v), (3,vi t), (4,q), (5,.func (.func 129) #[] #[]), (12,vi 0)] ?_ 1))
 refine Xq (Xg 11 (Xr [(0,.slice s.a s.l.length s.c), (1,vi u), (2,vi v), (3,vi t), (4,q), (5,.func (.func 129) #[] #[]), (12,vi 0), (14,.slice s.a s.l.length s.c), (15,vi u), (16,vi v), (17,q), (18,.func (.func 129) #[] #[])] ?_ 6 5))
 refine Xs (Xa (some 19) (fun _ => .tuple #[vi u, vi v]) (order2_walk _ s hk hsr u v huv (by omega) q)) (fun _ => ?_) 5
 refine Xe [(0,.slice s.a s.l.length s.c), (1,vi u), (2,vi v), (3,vi t), (4,q), (5,.func (.func 129) #[] #[]), (12,vi 0)] ?_ 5
 refine Xq (Xg 11 (Xr [(0,.slice s.a s.l.length s.c), (1,vi u), (2,vi v), (4,q), (5,.func (.func 129) #[] #[]), (12,vi 0), (23,.slice s.a s.l.length s.c), (24,vi v), (25,vi t), (26,q), (27,.func (.func 129) #[] #[])] ?_ 6 5))
 refine Xs (Xa (some 28) (fun _ => .tuple #[vi v, vi t]) (order2_walk _ s hk hsr v t hvt ht q)) (fun _ => ?_) 5
 refine Xe [(0,.slice s.a s.l.length s.c), (1,vi u), (2,vi v), (4,q), (5,.func (.func 129) #[] #[]), (12,vi 0)] ?_ 5
 refine Xq (Xg 11 (Xr [(2,vi v), (12,vi 0), (32,.slice s.a s.l.length s.c), (33,vi u), (34,vi v), (35,q), (36,.func (.func 129) #[] #[])] ?_ 6 5))
 refine Xs (Xa (some 37) (fun _ => .tuple #[vi u, vi v]) (order2_walk _ s hk hsr u v huv (by omega) q)) (fun _ => ?_) 5
 refine Xe [(2,vi v), (12,vi 0)] ?_ 5
 refine Xq (Xg 2 (Xe [(12,vi v)] ?_ 2))
 refine Xv (Y0 (vi v) (fun w hs => ?_))
 exact ⟨(), rfl, hs⟩
set_option maxRecDepth 100000 in
theorem medianAdj_walk (H : List SP) (s : SV (Int × Int)) (hk : KR H slE s) (hsr : SrtE s.l) (v : Nat) (hv0 : 0 < v) (hv : v + 1 < s.l.length) (hl : s.l.length < 1000000) (q : Value) : ∀ w, Sat w H → Calls Tryz.prog 168 #[.slice s.a s.l.length s.c, vi v, q, .func (.func 129) #[] #[]] w (Ret (ι := Unit) (fun _ => vi v) fun _ => H) := by
 refine enterG (fn := Tryz.f168) 18 [.slice s.a s.l.length s.c, vi v, q, .func (.func 129) #[] #[]] Tryz.func168 (by kernel_rfl) (by kernel_rfl) (by kernel_rfl) ?_
 refine Xq (Xg 1 (Xe [(0,.slice s.a s.l.length s.c), (1,vi v), (2,q), (3,.func (.func 129) #[] #[]), (8,vi 0)] ?_ 1))
 refine Xq (Xg 10 (Xr [(8,vi 0), (9,.slice s.a s.l.length s.c), (11,vi (IntKind.i64.wrap ((v : Int) - 1))), (12,vi v), (14,vi (IntKind.i64.wrap ((v : Int) + 1))), (15,q), (16,.func (.func 129) #[] #[])] ?_ 2 8))
 rw [show IntKind.i64.wrap ((v : Int) - 1) = ((v - 1 : Nat) : Int) by rw [IntKind.wrap_i64]; omega, show IntKind.i64.wrap ((v : Int) + 1) = ((v + 1 : Nat) : Int) by rw [IntKind.wrap_i64]; omega]
 refine Xs (Xa (some 17) (fun _ => vi v) (median_walk _ s hk hsr (v - 1) v (v + 1) (by omega) (by omega) hv q)) (fun _ => ?_) 1
 refine Xe [(8,vi v)] ?_ 1
 refine Xv (Y0 (vi v) (fun w hs => ?_))
 exact ⟨(), rfl, hs⟩
theorem quart {n : Nat} (hn : n ≤ 1000) : IntKind.i64.wrap (Int.tdiv (n : Int) 4) = ((n / 4 : Nat) : Int) := by rw [Int.tdiv_eq_ediv_of_nonneg (by omega), IntKind.wrap_i64]; omega
set_option maxHeartbeats 1000000 in
set_option maxRecDepth 100000 in
theorem pivot_walk (H : List SP) (s : SV (Int × Int)) (hk : KR H slE s) (hsr : SrtE s.l) (hl : s.l.length ≤ 64) (hl2 : 12 < s.l.length) : ∀ w, Sat w H → Calls Tryz.prog 155 #[.slice s.a s.l.length s.c, vi 0, vi (s.l.length : Int), .func (.func 129) #[] #[]] w (Ret (ι := Unit) (fun _ => .tuple #[vi ((s.l.length / 4 * 2 : Nat) : Int), vi 1]) fun _ => H) := by
 obtain ⟨n, hn⟩ : ∃ n, n = s.l.length := ⟨_, rfl⟩
 have hq := quart (n := n) (by omega)
 obtain ⟨m, hm⟩ : ∃ m, m = n / 4 := ⟨_, rfl⟩
 refine enterG (fn := Tryz.f155) 63 [.slice s.a s.l.length s.c, vi 0, vi (s.l.length : Int), .func (.func 129) #[] #[]] Tryz.func155 (by kernel_rfl) (by kernel_rfl) (by kernel_rfl) ?_
 refine Xq (Xg 2 (Xe [(0,.slice s.a s.l.length s.c), (1,vi 0), (2,vi (s.l.length : Int)), (3,.func (.func 129) #[] #[]), (8,vi 0), (9,vi 0)] ?_ 2))
 refine Xq (Xg 4 (Xe [(0,.slice s.a s.l.length s.c), (1,vi 0), (3,.func (.func 129) #[] #[]), (8,vi 0), (9,vi 0), (10,vi (IntKind.i64.wrap ((s.l.length : Int) - 0)))] ?_ 4))
 refine Xq (Xg 1 (Xs (Xn 3 [vi 0] (some 11) (fun b => vp b)) (fun b1 => ?_) 0))
 refine endR ?_
 refine Xq (Xg 6 (Xe [(11,vp b1), (0,.slice s.a s.l.length s.c), (1,vi 0), (3,.func (.func 129) #[] #[]), (8,vi 0), (9,vi 0), (10,vi (IntKind.i64.wrap ((s.l.length : Int) - 0))), (12,vi (IntKind.i64.wrap (0 + (IntKind.i64.wrap ((IntKind.i64.wrap (Int.tdiv (IntKind.i64.wrap ((s.l.length : Int) - 0)) 4)) * 1)))))] ?_ 6))
 refine Xq (Xg 6 (Xe [(11,vp b1), (0,.slice s.a s.l.length s.c), (1,vi 0), (3,.func (.func 129) #[] #[]), (8,vi 0), (9,vi 0), (10,vi (IntKind.i64.wrap ((s.l.length : Int) - 0))), (12,vi (IntKind.i64.wrap (0 + (IntKind.i64.wrap ((IntKind.i64.wrap (Int.tdiv (IntKind.i64.wrap ((s.l.length : Int) - 0)) 4)) * 1))))), (13,vi (IntKind.i64.wrap (0 + (IntKind.i64.wrap ((IntKind.i64.wrap (Int.tdiv (IntKind.i64.wrap ((s.l.length : Int) - 0)) 4)) * 2)))))] ?_ 6))
 refine Xq (Xg 6 (Xe [(11,vp b1), (0,.slice s.a s.l.length s.c), (3,.func (.func 129) #[] #[]), (8,vi 0), (9,vi 0), (10,vi (IntKind.i64.wrap ((s.l.length : Int) - 0))), (12,vi (IntKind.i64.wrap (0 + (IntKind.i64.wrap ((IntKind.i64.wrap (Int.tdiv (IntKind.i64.wrap ((s.l.length : Int) - 0)) 4)) * 1))))), (13,vi (IntKind.i64.wrap (0 + (IntKind.i64.wrap ((IntKind.i64.wrap (Int.tdiv (IntKind.i64.wrap ((s.l.length : Int) - 0)) 4)) * 2))))), (14,vi (IntKind.i64.wrap (0 + (IntKind.i64.wrap ((IntKind.i64.wrap (Int.tdiv (IntKind.i64.wrap ((s.l.length : Int) - 0)) 4)) * 3)))))] ?_ 6))
 refine Xq (Xq (Xg 2 (Xe [(11,vp b1), (0,.slice s.a s.l.length s.c), (3,.func (.func 129) #[] #[]), (8,vi 0), (9,vi 0), (10,vi (IntKind.i64.wrap ((s.l.length : Int) - 0))), (12,vi (IntKind.i64.wrap (0 + (IntKind.i64.wrap ((IntKind.i64.wrap (Int.tdiv (IntKind.i64.wrap ((s.l.length : Int) - 0)) 4)) * 1))))), (13,vi (IntKind.i64.wrap (0 + (IntKind.i64.wrap ((IntKind.i64.wrap (Int.tdiv (IntKind.i64.wrap ((s.l.length : Int) - 0)) 4)) * 2))))), (14,vi (IntKind.i64.wrap (0 + (IntKind.i64.wrap ((IntKind.i64.wrap (Int.tdiv (IntKind.i64.wrap ((s.l.length : Int) - 0)) 4)) * 3))))), (34,.bool (decide ((IntKind.i64.wrap ((s.l.length : Int) - 0)) ≥ 8)))] ?_ 2)))
 rw [show IntKind.i64.wrap ((s.l.length : Int) - 0) = (s.l.length : Int) by rw [IntKind.wrap_i64]; omega, ← hn, hq, ← hm]
 rw [show IntKind.i64.wrap (0 + IntKind.i64.wrap ((m : Int) * 1)) = (m : Int) by rw [IntKind.wrap_i64, IntKind.wrap_i64]; omega, show IntKind.i64.wrap (0 + IntKind.i64.wrap ((m : Int) * 2)) = ((m * 2 : Nat) : Int) by rw [IntKind.wrap_i64, IntKind.wrap_i64]; omega, show IntKind.i64.wrap (0 + IntKind.i64.wrap ((m : Int) * 3)) = ((m * 3 : Nat) : Int) by rw [IntKind.wrap_i64, IntKind.wrap_i64]; omega]
 rw [hn]
 rw [show decide ((s.l.length : Int) ≥ 8) = true from decide_eq_true (by omega)]
 refine Xc true (fun _ => ?_) (fun h => by cases h)
 refine Xq (Xq (Xg 2 (Xe [(11,vp b1), (0,.slice s.a s.l.length s.c), (3,.func (.func 129) #[] #[]), (8,vi 0), (9,vi 0), (12,vi m), (13,vi ((m * 2 : Nat) : Int)), (14,vi ((m * 3 : Nat) : Int)), (36,.bool (decide ((s.l.length : Int) ≥ 50)))] ?_ 2)))
 refine Xc (decide ((s.l.length : Int) ≥ 50)) (fun h1 => ?_) (fun h1 => ?_)
 ·skip
  have h1' : 50 ≤ s.l.length := by have := of_decide_eq_true h1; omega
  refine Xq (Xg 5 (Xr [(11,vp b1), (0,.slice s.a s.l.length s.c), (3,.func (.func 129) #[] #[]), (8,vi 0), (9,vi 0), (12,vi m), (13,vi ((m * 2 : Nat) : Int)), (14,vi ((m * 3 : Nat) : Int)), (37,.slice s.a s.l.length s.c), (38,vi m), (39,.func (.func 129) #[] #[])] ?_ 2 3))
  refine Xs (Xa (some 40) (fun _ => vi m) (medianAdj_walk _ s hk.up hsr m (by omega) (by omega) (by omega) (.pointer (some ⟨b1, 0, none⟩)))) (fun _ => ?_) 1
  refine Xe [(11,vp b1), (0,.slice s.a s.l.length s.c), (3,.func (.func 129) #[] #[]), (8,vi 0), (9,vi 0), (12,vi m), (13,vi ((m * 2 : Nat) : Int)), (14,vi ((m * 3 : Nat) : Int))] ?_ 1
  refine Xq (Xg 5 (Xr [(11,vp b1), (0,.slice s.a s.l.length s.c), (3,.func (.func 129) #[] #[]), (8,vi 0), (9,vi 0), (12,vi m), (13,vi ((m * 2 : Nat) : Int)), (14,vi ((m * 3 : Nat) : Int)), (41,.slice s.a s.l.length s.c), (42,vi ((m * 2 : Nat) : Int)), (43,.func (.func 129) #[] #[])] ?_ 2 3))
  refine Xs (Xa (some 44) (fun _ => vi ((m * 2 : Nat) : Int)) (medianAdj_walk _ s hk.up hsr (m * 2) (by omega) (by omega) (by omega) (.pointer (some ⟨b1, 0, none⟩)))) (fun _ => ?_) 1
  refine Xe [(11,vp b1), (0,.slice s.a s.l.length s.c), (3,.func (.func 129) #[] #[]), (8,vi 0), (9,vi 0), (12,vi m), (13,vi ((m * 2 : Nat) : Int)), (14,vi ((m * 3 : Nat) : Int))] ?_ 1
  refine Xg 5 (Xr [(11,vp b1), (0,.slice s.a s.l.length s.c), (3,.func (.func 129) #[] #[]), (8,vi 0), (9,vi 0), (12,vi m), (13,vi ((m * 2 : Nat) : Int)), (14,vi ((m * 3 : Nat) : Int)), (45,.slice s.a s.l.length s.c), (46,vi ((m * 3 : Nat) : Int)), (47,.func (.func 129) #[] #[])] ?_ 2 3)
  refine Xs (Xa (some 48) (fun _ => vi ((m * 3 : Nat) : Int)) (medianAdj_walk _ s hk.up hsr (m * 3) (by omega) (by omega) (by omega) (.pointer (some ⟨b1, 0, none⟩)))) (fun _ => ?_) 1
  refine Xe [(11,vp b1), (0,.slice s.a s.l.length s.c), (3,.func (.func 129) #[] #[]), (8,vi 0), (9,vi 0), (12,vi m), (13,vi ((m * 2 : Nat) : Int)), (14,vi ((m * 3 : Nat) : Int))] ?_ 1
  refine Xg 7 (Xr [(11,vp b1), (8,vi 0), (9,vi 0), (13,vi ((m * 2 : Nat) : Int)), (49,.slice s.a s.l.length s.c), (50,vi m), (51,vi ((m * 2 : Nat) : Int)), (52,vi ((m * 3 : Nat) : Int)), (53,.func (.func 129) #[] #[])] ?_ 2 5)
  refine Xs (Xa (some 54) (fun _ => vi ((m * 2 : Nat) : Int)) (median_walk _ s hk.up hsr m (m * 2) (m * 3) (by omega) (by omega) (by omega) (.pointer (some ⟨b1, 0, none⟩)))) (fun _ => ?_) 1
  refine Xe [(11,vp b1), (8,vi 0), (9,vi 0), (13,vi ((m * 2 : Nat) : Int))] ?_ 1
  refine Xq (Xg 1 (Xm [(8,vi 0), (9,vi 0), (13,vi ((m * 2 : Nat) : Int)), (55,vi 0)] [(⟨b1, 0, none⟩, vi 0)] (hasC (ba 0) has0) ?_ 1))
  refine Xb 0 (Xq (Xg 2 (Xe [(8,vi 0), (9,vi 0), (13,vi ((m * 2 : Nat) : Int)), (55,vi 0), (57,.bool true)] ?_ 2)))
  refine Xc true (fun _ => ?_) (fun h => by cases h)
  refine Xq (Xg 3 (Xe [(8,vi ((m * 2 : Nat) : Int)), (9,vi 1)] ?_ 3))
  refine Xv (blockV (Y0 (.tuple #[vi ((m * 2 : Nat) : Int), vi 1]) (fun w hs => ?_)))
  exact ⟨(), rfl, hs.tail⟩
 ·skip
  refine Xk (Xg 7 (Xr [(11,vp b1), (8,vi 0), (9,vi 0), (13,vi ((m * 2 : Nat) : Int)), (49,.slice s.a s.l.length s.c), (50,vi m), (51,vi ((m * 2 : Nat) : Int)), (52,vi ((m * 3 : Nat) : Int)), (53,.func (.func 129) #[] #[])] ?_ 2 5))
  refine Xs (Xa (some 54) (fun _ => vi ((m * 2 : Nat) : Int)) (median_walk _ s hk.up hsr m (m * 2) (m * 3) (by omega) (by omega) (by omega) (.pointer (some ⟨b1, 0, none⟩)))) (fun _ => ?_) 1
  refine Xe [(11,vp b1), (8,vi 0), (9,vi 0), (13,vi ((m * 2 : Nat) : Int))] ?_ 1
  refine Xq (Xg 1 (Xm [(8,vi 0), (9,vi 0), (13,vi ((m * 2 : Nat) : Int)), (55,vi 0)] [(⟨b1, 0, none⟩, vi 0)] (hasC (ba 0) has0) ?_ 1))
  refine Xb 0 (Xq (Xg 2 (Xe [(8,vi 0), (9,vi 0), (13,vi ((m * 2 : Nat) : Int)), (55,vi 0), (57,.bool true)] ?_ 2)))
  refine Xc true (fun _ => ?_) (fun h => by cases h)
  refine Xq (Xg 3 (Xe [(8,vi ((m * 2 : Nat) : Int)), (9,vi 1)] ?_ 3))
  refine Xv (blockV (Y0 (.tuple #[vi ((m * 2 : Nat) : Int), vi 1]) (fun w hs => ?_)))
  exact ⟨(), rfl, hs.tail⟩
set_option maxHeartbeats 1000000 in
set_option maxRecDepth 100000 in
theorem partial_walk (H : List SP) (s : SV (Int × Int)) (hk : KR H slE s) (hsr : SrtE s.l) (hl : s.l.length ≤ 64) (hl2 : 12 < s.l.length) : ∀ w, Sat w H → Calls Tryz.prog 157 #[.slice s.a s.l.length s.c, vi 0, vi (s.l.length : Int), .func (.func 129) #[] #[]] w (Ret (ι := Unit) (fun _ => .bool true) fun _ => H) := by
 refine enterG (fn := Tryz.f157) 141 [.slice s.a s.l.length s.c, vi 0, vi (s.l.length : Int), .func (.func 129) #[] #[]] Tryz.func157 (by kernel_rfl) (by kernel_rfl) (by kernel_rfl) ?_
 refine Xq (Xg 1 (Xe [(0,.slice s.a s.l.length s.c), (1,vi 0), (2,vi (s.l.length : Int)), (3,.func (.func 129) #[] #[]), (8,.bool false)] ?_ 1))
 refine Xq (Xg 3 (Xe [(0,.slice s.a s.l.length s.c), (1,vi 0), (2,vi (s.l.length : Int)), (3,.func (.func 129) #[] #[]), (8,.bool false), (9,vi (IntKind.i64.wrap (0 + 1)))] ?_ 3))
 refine Xq (Xq (Xg 1 (Xe [(0,.slice s.a s.l.length s.c), (1,vi 0), (2,vi (s.l.length : Int)), (3,.func (.func 129) #[] #[]), (8,.bool false), (9,vi (IntKind.i64.wrap (0 + 1))), (10,vi 0)] ?_ 1)))
 refine Xb 0 ?_
 rw [show IntKind.i64.wrap ((0 : Int) + 1) = 1 from rfl]
 refine Xp [(0,.slice s.a s.l.length s.c), (1,vi 0), (2,vi (s.l.length : Int)), (3,.func (.func 129) #[] #[]), (8,.bool false), (9,vi 1), (10,vi 0)] (Xl0 (fun (x : Unit) => [(0,.slice s.a s.l.length s.c), (1,vi 0), (2,vi (s.l.length : Int)), (3,.func (.func 129) #[] #[]), (8,.bool false), (9,vi 1), (10,vi 0)]) (fun k (x : Unit) => k = 0) 0 () (by kernel_rfl) rfl ?_)
 rintro k x hk0
 refine Xq (Xq (Xg 2 (Xe [(0,.slice s.a s.l.length s.c), (1,vi 0), (2,vi (s.l.length : Int)), (3,.func (.func 129) #[] #[]), (8,.bool false), (9,vi 1), (10,vi 0), (16,.bool true)] ?_ 2)))
 refine Xc true (fun _ => ?_) (fun h => by cases h)
 refine Xk (Xq (Xb 1 (Xq (Xb 2 (Xp [(0,.slice s.a s.l.length s.c), (1,vi 0), (2,vi (s.l.length : Int)), (3,.func (.func 129) #[] #[]), (8,.bool false), (9,vi 1), (10,vi 0)] (Xl0 (fun (u : Nat) => [(0,.slice s.a s.l.length s.c), (1,vi 0), (2,vi (s.l.length : Int)), (3,.func (.func 129) #[] #[]), (8,.bool false), (9,vi u), (10,vi 0)]) (fun k (u : Nat) => k + u = s.l.length ∧ 1 ≤ u) (s.l.length - 1) 1 (by kernel_rfl) ⟨by omega, by omega⟩ ?_))))))
 rintro k2 u ⟨hku, hu1⟩
 refine Xq (Xq (Xy0 0 [] 18 ?_))
 refine Xt [0, 1, 2, 3] [(0,.slice s.a s.l.length s.c), (1,vi 0), (2,vi (s.l.length : Int)), (3,.func (.func 129) #[] #[]), (8,.bool false), (9,vi u), (10,vi 0), (22,.bool (decide ((u : Int) < (s.l.length : Int))))] [] has0 ?_
 cases h1 : (decide ((u : Int) < (s.l.length : Int))) with
 | true =>
  have hu : u < s.l.length := by have := of_decide_eq_true h1; omega
  obtain ⟨x, hx⟩ : ∃ x, s.l[u - 1]? = some x := ⟨s.l[u - 1]'(by omega), by simp⟩
  obtain ⟨y, hy⟩ : ∃ y, s.l[u]? = some y := ⟨s.l[u]'(by omega), by simp⟩
  refine PT.know ((hk).isSome (List.ne_nil_of_length_pos (by omega))) ?_
  rintro ⟨sb, so, hA⟩
  try rw [hA]
  refine Xt [4, 5, 6, 9, 10, 11] [(0,.slice (some ⟨sb, so, none⟩) s.l.length s.c), (1,vi 0), (2,vi (s.l.length : Int)), (3,.func (.func 129) #[] #[]), (8,.bool false), (9,vi u), (10,vi 0), (22,.bool true), (23,.func (.func 129) #[] #[]), (24,.slice (some ⟨sb, so, none⟩) s.l.length s.c), (25,vi u), (28,.slice (some ⟨sb, so, none⟩) s.l.length s.c), (30,vi (IntKind.i64.wrap ((u : Int) - 1)))] [] has0 ?_
  refine Xu 7 (Xi 169 (.tmp 24) (.tmp 25) sb so s.l.length s.c u 2 150 (u : Int) 26 Tryz.underlying169) ?_
  refine Xt [8] [(0,.slice (some ⟨sb, so, none⟩) s.l.length s.c), (1,vi 0), (2,vi (s.l.length : Int)), (3,.func (.func 129) #[] #[]), (8,.bool false), (9,vi u), (10,vi 0), (22,.bool true), (23,.func (.func 129) #[] #[]), (28,.slice (some ⟨sb, so, none⟩) s.l.length s.c), (30,vi (IntKind.i64.wrap ((u : Int) - 1))), (27,.agg #[vi y.1, vi y.2])] [(⟨sb, so + u * 2, none⟩, vi y.1), (⟨sb, so + u * 2 + 1, none⟩, vi y.2)] (hasC (hk.cell hA (i := u) (x := y) hy (j := 0) rfl) (hasC (hk.cell hA (i := u) (x := y) hy (j := 1) rfl) has0)) ?_
  rw [show IntKind.i64.wrap ((u : Int) - 1) = ((u - 1 : Nat) : Int) by rw [IntKind.wrap_i64]; omega]
  refine Xu 12 (Xi 169 (.tmp 28) (.tmp 30) sb so s.l.length s.c (u - 1) 2 150 ((u - 1 : Nat) : Int) 31 Tryz.underlying169) ?_
  refine Xt [13] [(0,.slice (some ⟨sb, so, none⟩) s.l.length s.c), (1,vi 0), (2,vi (s.l.length : Int)), (3,.func (.func 129) #[] #[]), (8,.bool false), (9,vi u), (10,vi 0), (22,.bool true), (23,.func (.func 129) #[] #[]), (27,.agg #[vi y.1, vi y.2]), (32,.agg #[vi x.1, vi x.2])] [(⟨sb, so + (u - 1) * 2, none⟩, vi x.1), (⟨sb, so + (u - 1) * 2 + 1, none⟩, vi x.2)] (hasC (hk.cell hA (i := u - 1) (x := x) hx (j := 0) rfl) (hasC (hk.cell hA (i := u - 1) (x := x) hx (j := 1) rfl) has0)) ?_
  refine Xo 14 (Xa (some 33) (fun _ => vi (byI (y.1, y.2) (x.1, x.2))) (by_walk _ y.1 y.2 x.1 x.2)) (fun _ => ?_)
  refine Xt [15, 16, 17] [(0,.slice (some ⟨sb, so, none⟩) s.l.length s.c), (1,vi 0), (2,vi (s.l.length : Int)), (3,.func (.func 129) #[] #[]), (8,.bool false), (9,vi u), (10,vi 0), (36,.bool (!(decide ((byI (y.1, y.2) (x.1, x.2)) < 0))))] [] has0 ?_
  refine Xd ?_
  try rw [← hA]
  rw [hsr.not hx hy (by omega)]
  refine Xc true (fun _ => ?_) (fun h => by cases h)
  refine Xk (Xb 3 (Xg 3 (Xe [(0,.slice s.a s.l.length s.c), (1,vi 0), (2,vi (s.l.length : Int)), (3,.func (.func 129) #[] #[]), (8,.bool false), (9,vi (IntKind.i64.wrap ((u : Int) + 1))), (10,vi 0)] ?_ 3)))
  rw [show IntKind.i64.wrap ((u : Int) + 1) = ((u + 1 : Nat) : Int) by rw [IntKind.wrap_i64]; omega]
  refine Xp [(0,.slice s.a s.l.length s.c), (1,vi 0), (2,vi (s.l.length : Int)), (3,.func (.func 129) #[] #[]), (8,.bool false), (9,vi ((u + 1 : Nat) : Int)), (10,vi 0)] ?_
  exact againG (k2 - 1) (u + 1) rfl rfl (by omega) ⟨by omega, by omega⟩
 | false =>
  have hu : u = s.l.length := by have := of_decide_eq_false h1; omega
  refine Xt [4, 5, 6, 7, 8, 9, 10, 11, 12, 13, 14, 15, 16, 17] [(0,.slice s.a s.l.length s.c), (1,vi 0), (2,vi (s.l.length : Int)), (3,.func (.func 129) #[] #[]), (8,.bool false), (9,vi u), (10,vi 0), (36,.bool false)] [] has0 ?_
  refine Xd (Xc false (fun h => by cases h) (fun _ => ?_))
  refine Xx 2 (thenX (thenX (leaveR (Xq (Xq (Xg 3 (Xe [(0,.slice s.a s.l.length s.c), (1,vi 0), (2,vi (s.l.length : Int)), (3,.func (.func 129) #[] #[]), (8,.bool false), (9,vi u), (10,vi 0), (41,.bool ((u : Int) == (s.l.length : Int)))] ?_ 3)))))))
  rw [show ((u : Int) == (s.l.length : Int)) = true by rw [hu]; simp]
  refine Xc true (fun _ => ?_) (fun h => by cases h)
  refine Xq (Xg 1 (Xe [(0,.slice s.a s.l.length s.c), (1,vi 0), (2,vi (s.l.length : Int)), (3,.func (.func 129) #[] #[]), (8,.bool true), (9,vi u), (10,vi 0)] ?_ 1))
  refine Xv (thenV (blockV (thenV (thenV (blockV (thenV (Y0 (.bool true) (fun w hs => ?_))))))))
  exact ⟨(), rfl, hs⟩
set_option maxHeartbeats 1000000 in
set_option maxRecDepth 100000 in
theorem isort_walk (H : List SP) (s : SV (Int × Int)) (hk : KR H slE s) (hsr : SrtE s.l) (hl : s.l.length ≤ 64) : ∀ w, Sat w H → Calls Tryz.prog 152 #[.slice s.a s.l.length s.c, vi 0, vi (s.l.length : Int), .func (.func 129) #[] #[]] w (Ret (ι := Unit) (fun _ => .tuple #[]) fun _ => H) := by
 refine enterG (fn := Tryz.f152) 53 [.slice s.a s.l.length s.c, vi 0, vi (s.l.length : Int), .func (.func 129) #[] #[]] Tryz.func152 (by kernel_rfl) (by kernel_rfl) (by kernel_rfl) ?_
 refine Xq (Xg 3 (Xe [(0,.slice s.a s.l.length s.c), (1,vi 0), (2,vi (s.l.length : Int)), (3,.func (.func 129) #[] #[]), (8,vi (IntKind.i64.wrap (0 + 1)))] ?_ 3))
 refine Xb 0 ?_
 rw [show IntKind.i64.wrap ((0 : Int) + 1) = 1 from rfl]
 refine Xp [(0,.slice s.a s.l.length s.c), (1,vi 0), (2,vi (s.l.length : Int)), (3,.func (.func 129) #[] #[]), (8,vi 1)] (Xl0 (fun (u : Nat) => [(0,.slice s.a s.l.length s.c), (1,vi 0), (2,vi (s.l.length : Int)), (3,.func (.func 129) #[] #[]), (8,vi u)]) (fun k (u : Nat) => k = s.l.length - u ∧ 1 ≤ u) (s.l.length - 1) 1 (by kernel_rfl) ⟨rfl, by omega⟩ ?_)
 rintro k u ⟨hku, hu1⟩
 refine Xq (Xq (Xg 3 (Xe [(0,.slice s.a s.l.length s.c), (1,vi 0), (2,vi (s.l.length : Int)), (3,.func (.func 129) #[] #[]), (8,vi u), (14,.bool (decide ((u : Int) < (s.l.length : Int))))] ?_ 3)))
 refine Xc (decide ((u : Int) < (s.l.length : Int))) (fun h1 => ?_) (fun h1 => ?_)
 ·skip
  have hu : u < s.l.length := by have := of_decide_eq_true h1; omega
  obtain ⟨x, hx⟩ : ∃ x, s.l[u - 1]? = some x := ⟨s.l[u - 1]'(by omega), by simp⟩
  obtain ⟨y, hy⟩ : ∃ y, s.l[u]? = some y := ⟨s.l[u]'(by omega), by simp⟩
  refine Xk (Xq (Xb 1 (Xq (Xg 2 (Xe [(0,.slice s.a s.l.length s.c), (1,vi 0), (2,vi (s.l.length : Int)), (3,.func (.func 129) #[] #[]), (8,vi u), (9,vi u)] ?_ 2)))))
  refine Xb 2 (Xp [(0,.slice s.a s.l.length s.c), (1,vi 0), (2,vi (s.l.length : Int)), (3,.func (.func 129) #[] #[]), (8,vi u), (9,vi u)] (Xl0 (fun (x : Unit) => [(0,.slice s.a s.l.length s.c), (1,vi 0), (2,vi (s.l.length : Int)), (3,.func (.func 129) #[] #[]), (8,vi u), (9,vi u)]) (fun k (x : Unit) => k = 0) 0 () (by kernel_rfl) rfl ?_))
  rintro k2 _ hk0
  refine Xq (Xq (Xy0 0 [] 17 ?_))
  refine Xt [0, 1, 2, 3] [(0,.slice s.a s.l.length s.c), (1,vi 0), (2,vi (s.l.length : Int)), (3,.func (.func 129) #[] #[]), (8,vi u), (9,vi u), (21,.bool (decide ((u : Int) > 0)))] [] has0 ?_
  rw [show decide ((u : Int) > 0) = true by exact decide_eq_true (by omega)]
  refine PT.know ((hk).isSome (List.ne_nil_of_length_pos (by omega))) ?_
  rintro ⟨sb, so, hA⟩
  try rw [hA]
  refine Xt [4, 5, 6, 9, 10, 11] [(0,.slice (some ⟨sb, so, none⟩) s.l.length s.c), (1,vi 0), (2,vi (s.l.length : Int)), (3,.func (.func 129) #[] #[]), (8,vi u), (9,vi u), (21,.bool true), (22,.func (.func 129) #[] #[]), (23,.slice (some ⟨sb, so, none⟩) s.l.length s.c), (24,vi u), (27,.slice (some ⟨sb, so, none⟩) s.l.length s.c), (29,vi (IntKind.i64.wrap ((u : Int) - 1)))] [] has0 ?_
  refine Xu 7 (Xi 169 (.tmp 23) (.tmp 24) sb so s.l.length s.c u 2 150 (u : Int) 25 Tryz.underlying169) ?_
  refine Xt [8] [(0,.slice (some ⟨sb, so, none⟩) s.l.length s.c), (1,vi 0), (2,vi (s.l.length : Int)), (3,.func (.func 129) #[] #[]), (8,vi u), (9,vi u), (21,.bool true), (22,.func (.func 129) #[] #[]), (27,.slice (some ⟨sb, so, none⟩) s.l.length s.c), (29,vi (IntKind.i64.wrap ((u : Int) - 1))), (26,.agg #[vi y.1, vi y.2])] [(⟨sb, so + u * 2, none⟩, vi y.1), (⟨sb, so + u * 2 + 1, none⟩, vi y.2)] (hasC (hk.cell hA (i := u) (x := y) hy (j := 0) rfl) (hasC (hk.cell hA (i := u) (x := y) hy (j := 1) rfl) has0)) ?_
  rw [show IntKind.i64.wrap ((u : Int) - 1) = ((u - 1 : Nat) : Int) by rw [IntKind.wrap_i64]; omega]
  refine Xu 12 (Xi 169 (.tmp 27) (.tmp 29) sb so s.l.length s.c (u - 1) 2 150 ((u - 1 : Nat) : Int) 30 Tryz.underlying169) ?_
  refine Xt [13] [(0,.slice (some ⟨sb, so, none⟩) s.l.length s.c), (1,vi 0), (2,vi (s.l.length : Int)), (3,.func (.func 129) #[] #[]), (8,vi u), (9,vi u), (21,.bool true), (22,.func (.func 129) #[] #[]), (26,.agg #[vi y.1, vi y.2]), (31,.agg #[vi x.1, vi x.2])] [(⟨sb, so + (u - 1) * 2, none⟩, vi x.1), (⟨sb, so + (u - 1) * 2 + 1, none⟩, vi x.2)] (hasC (hk.cell hA (i := u - 1) (x := x) hx (j := 0) rfl) (hasC (hk.cell hA (i := u - 1) (x := x) hx (j := 1) rfl) has0)) ?_
  refine Xo 14 (Xa (some 32) (fun _ => vi (byI (y.1, y.2) (x.1, x.2))) (by_walk _ y.1 y.2 x.1 x.2)) (fun _ => ?_)
  refine Xt [15, 16] [(0,.slice (some ⟨sb, so, none⟩) s.l.length s.c), (1,vi 0), (2,vi (s.l.length : Int)), (3,.func (.func 129) #[] #[]), (8,vi u), (9,vi u), (34,.bool (decide ((byI (y.1, y.2) (x.1, x.2)) < 0)))] [] has0 ?_
  refine Xd ?_
  try rw [← hA]
  rw [show decide ((byI (y.1, y.2) (x.1, x.2)) < 0) = false by exact hsr.not hx hy (by omega)]
  refine Xc false (fun h => by cases h) (fun _ => ?_)
  refine Xx 2 (thenX (thenX (leaveR (Xg 3 (Xe [(0,.slice s.a s.l.length s.c), (1,vi 0), (2,vi (s.l.length : Int)), (3,.func (.func 129) #[] #[]), (8,vi (IntKind.i64.wrap ((u : Int) + 1)))] ?_ 3)))))
  rw [show IntKind.i64.wrap ((u : Int) + 1) = ((u + 1 : Nat) : Int) by rw [IntKind.wrap_i64]; omega]
  refine Xp [(0,.slice s.a s.l.length s.c), (1,vi 0), (2,vi (s.l.length : Int)), (3,.func (.func 129) #[] #[]), (8,vi ((u + 1 : Nat) : Int))] ?_
  exact againG (k - 1) (u + 1) rfl rfl (by omega) ⟨by omega, by omega⟩
 ·skip
  refine Xx 0 (thenX (thenX (leaveR (Y1 (.tuple #[]) (fun w hs => ?_)))))
  exact ⟨(), rfl, hs⟩
set_option maxHeartbeats 1000000 in
set_option maxRecDepth 100000 in
theorem pdq_walk (H : List SP) (s : SV (Int × Int)) (lim : Int) (hlim : 12 < s.l.length → lim ≠ 0) (hk : KR H slE s) (hsr : SrtE s.l) (hl : s.l.length ≤ 64) : ∀ w, Sat w H → Calls Tryz.prog 136 #[.slice s.a s.l.length s.c, vi 0, vi (s.l.length : Int), vi lim, .func (.func 129) #[] #[]] w (Ret (ι := Unit) (fun _ => .tuple #[]) fun _ => H) := by
 refine enterG (fn := Tryz.f136) 148 [.slice s.a s.l.length s.c, vi 0, vi (s.l.length : Int), vi lim, .func (.func 129) #[] #[]] Tryz.func136 (by kernel_rfl) (by kernel_rfl) (by kernel_rfl) ?_
 refine Xq (Xg 1 (Xe [(0,.slice s.a s.l.length s.c), (1,vi 0), (2,vi (s.l.length : Int)), (3,vi lim), (4,.func (.func 129) #[] #[]), (10,.bool true)] ?_ 1))
 refine Xq (Xg 1 (Xe [(0,.slice s.a s.l.length s.c), (1,vi 0), (2,vi (s.l.length : Int)), (3,vi lim), (4,.func (.func 129) #[] #[]), (10,.bool true), (11,.bool true)] ?_ 1))
 refine Xb 0 (Xp [(0,.slice s.a s.l.length s.c), (1,vi 0), (2,vi (s.l.length : Int)), (3,vi lim), (4,.func (.func 129) #[] #[]), (10,.bool true), (11,.bool true)] (Xl0 (fun (x : Unit) => [(0,.slice s.a s.l.length s.c), (1,vi 0), (2,vi (s.l.length : Int)), (3,vi lim), (4,.func (.func 129) #[] #[]), (10,.bool true), (11,.bool true)]) (fun k (x : Unit) => k = 0) 0 () (by kernel_rfl) rfl ?_))
 rintro k _ hk0
 refine Xb 1 (Xq (Xg 4 (Xe [(0,.slice s.a s.l.length s.c), (1,vi 0), (2,vi (s.l.length : Int)), (3,vi lim), (4,.func (.func 129) #[] #[]), (10,.bool true), (11,.bool true), (12,vi (IntKind.i64.wrap ((s.l.length : Int) - 0)))] ?_ 4)))
 refine Xq (Xq (Xg 2 (Xe [(0,.slice s.a s.l.length s.c), (1,vi 0), (2,vi (s.l.length : Int)), (3,vi lim), (4,.func (.func 129) #[] #[]), (10,.bool true), (11,.bool true), (12,vi (IntKind.i64.wrap ((s.l.length : Int) - 0))), (25,.bool (decide ((IntKind.i64.wrap ((s.l.length : Int) - 0)) ≤ 12)))] ?_ 2)))
 rw [show IntKind.i64.wrap ((s.l.length : Int) - 0) = (s.l.length : Int) by rw [IntKind.wrap_i64]; omega]
 refine Xc (decide ((s.l.length : Int) ≤ 12)) (fun h1 => ?_) (fun h1 => ?_)
 ·skip
  refine Xq (Xg 5 (Xr [(0,.slice s.a s.l.length s.c), (1,vi 0), (2,vi (s.l.length : Int)), (3,vi lim), (4,.func (.func 129) #[] #[]), (10,.bool true), (11,.bool true), (12,vi (s.l.length : Int)), (26,.slice s.a s.l.length s.c), (27,vi 0), (28,vi (s.l.length : Int)), (29,.func (.func 129) #[] #[])] ?_ 1 4))
  refine Xs (Xa (some 30) (fun _ => .tuple #[]) (isort_walk _ s hk hsr hl)) (fun _ => ?_) 0
  refine endR ?_
  refine Xv (thenV (blockV (thenV (blockV (Y0 (.tuple #[]) (fun w hs => ?_))))))
  exact ⟨(), rfl, hs⟩
 ·skip
  have hl2 : 12 < s.l.length := by have := of_decide_eq_false h1; omega
  refine Xk (Xq (Xq (Xg 2 (Xe [(0,.slice s.a s.l.length s.c), (1,vi 0), (2,vi (s.l.length : Int)), (3,vi lim), (4,.func (.func 129) #[] #[]), (10,.bool true), (11,.bool true), (12,vi (s.l.length : Int)), (32,.bool (lim == 0))] ?_ 2))))
  rw [show (lim == 0) = false from beq_eq_false_iff_ne.2 (hlim hl2)]
  refine Xc false (fun h => by cases h) (fun _ => ?_)
  refine Xk (Xq (Xq (Xg 2 (Xe [(0,.slice s.a s.l.length s.c), (1,vi 0), (2,vi (s.l.length : Int)), (3,vi lim), (4,.func (.func 129) #[] #[]), (10,.bool true), (11,.bool true), (12,vi (s.l.length : Int)), (39,.bool false)] ?_ 2))))
  refine Xc false (fun h => by cases h) (fun _ => ?_)
  refine Xk (Xq (Xg 10 (Xr [(0,.slice s.a s.l.length s.c), (1,vi 0), (2,vi (s.l.length : Int)), (3,vi lim), (4,.func (.func 129) #[] #[]), (10,.bool true), (11,.bool true), (12,vi (s.l.length : Int)), (48,.slice s.a s.l.length s.c), (49,vi 0), (50,vi (s.l.length : Int)), (51,.func (.func 129) #[] #[])] ?_ 6 4)))
  refine Xs (Xa (some 52) (fun _ => .tuple #[vi ((s.l.length / 4 * 2 : Nat) : Int), vi 1]) (pivot_walk _ s hk hsr hl hl2)) (fun _ => ?_) 5
  refine Xe [(0,.slice s.a s.l.length s.c), (1,vi 0), (2,vi (s.l.length : Int)), (3,vi lim), (4,.func (.func 129) #[] #[]), (10,.bool true), (11,.bool true), (12,vi (s.l.length : Int)), (13,vi ((s.l.length / 4 * 2 : Nat) : Int)), (14,vi 1)] ?_ 5
  refine Xq (Xq (Xg 2 (Xe [(0,.slice s.a s.l.length s.c), (1,vi 0), (2,vi (s.l.length : Int)), (3,vi lim), (4,.func (.func 129) #[] #[]), (10,.bool true), (11,.bool true), (12,vi (s.l.length : Int)), (13,vi ((s.l.length / 4 * 2 : Nat) : Int)), (14,vi 1), (56,.bool false)] ?_ 2)))
  refine Xc false (fun h => by cases h) (fun _ => ?_)
  refine Xk (Xq (Xq (Xg 8 (Xe [(0,.slice s.a s.l.length s.c), (1,vi 0), (2,vi (s.l.length : Int)), (3,vi lim), (4,.func (.func 129) #[] #[]), (10,.bool true), (11,.bool true), (12,vi (s.l.length : Int)), (13,vi ((s.l.length / 4 * 2 : Nat) : Int)), (75,.bool true)] ?_ 8))))
  refine Xc true (fun _ => ?_) (fun h => by cases h)
  refine Xq (Xg 5 (Xr [(0,.slice s.a s.l.length s.c), (1,vi 0), (2,vi (s.l.length : Int)), (3,vi lim), (4,.func (.func 129) #[] #[]), (10,.bool true), (11,.bool true), (12,vi (s.l.length : Int)), (13,vi ((s.l.length / 4 * 2 : Nat) : Int)), (76,.slice s.a s.l.length s.c), (77,vi 0), (78,vi (s.l.length : Int)), (79,.func (.func 129) #[] #[])] ?_ 1 4))
  refine Xs (Xa (some 80) (fun _ => .bool true) (partial_walk _ s hk hsr hl hl2)) (fun _ => ?_) 0
  refine endR ?_
  refine Xc true (fun _ => ?_) (fun h => by cases h)
  refine Xv (thenV (blockV (thenV (blockV (Y0 (.tuple #[]) (fun w hs => ?_))))))
  exact ⟨(), rfl, hs⟩
set_option maxRecDepth 100000 in
theorem sort_walk (H : List SP) (s : SV (Int × Int)) (hk : KR H slE s) (hsr : SrtE s.l) (hl : s.l.length ≤ 64) : ∀ w, Sat w H → Calls Tryz.prog 128 #[.slice s.a s.l.length s.c, .func (.func 129) #[] #[]] w (Ret (ι := Unit) (fun _ => .tuple #[]) fun _ => H) := by
 refine enterG (fn := Tryz.f128) 14 [.slice s.a s.l.length s.c, .func (.func 129) #[] #[]] Tryz.func128 (by kernel_rfl) (by kernel_rfl) (by kernel_rfl) ?_
 refine Xq (Xg 3 (Xe [(0,.slice s.a s.l.length s.c), (1,.func (.func 129) #[] #[]), (4,vi (s.l.length : Int))] ?_ 3))
 refine Xg 7 (Xr [(1,.func (.func 129) #[] #[]), (7,.slice s.a s.l.length s.c), (8,vi (s.l.length : Int)), (10,.int .u64 (IntKind.u64.wrap (s.l.length : Int)))] ?_ 3 4)
 rw [show IntKind.u64.wrap (s.l.length : Int) = (s.l.length : Int) by rw [IntKind.wrap_u64]; omega]
 refine Xs (Xa (some 11) (fun _ => vi (len8 (s.l.length : Int))) (bitsLen_walk _ (s.l.length : Int) (by omega) (by omega))) (fun _ => ?_) 2
 refine Xr [(11,vi (len8 (s.l.length : Int))), (7,.slice s.a s.l.length s.c), (8,vi (s.l.length : Int)), (12,.func (.func 129) #[] #[])] ?_ 1 1
 refine Xs (Xa (some 13) (fun _ => .tuple #[]) (pdq_walk _ s (len8 (s.l.length : Int)) (fun h => by have := (len8_big ⟨s.l.length, by omega⟩).2.2 h; exact this) hk hsr hl)) (fun _ => ?_) 0
 refine endR ?_
 refine Y1 (.tuple #[]) (fun w hs => ?_)
 exact ⟨(), rfl, hs⟩
end Go.Proofs.YtlhjibkkkhgonaaGreatDoor
set_option linter.unusedVariables false
set_option linter.unusedSimpArgs false
namespace Go.Proofs.YtlhjibkkkhgonaaGreatDoor
open Go.RowKit G
theorem rowA {α : Type} {E : Enc α} {T : TypeId} {H : List SP} (i : Nat) {A : Option Addr} {k : Nat} {xs : List α} (hi : H[i]? = some (row E T (.slice A xs.length k) xs)) : ∀ w, Sat w H → (A = none ∧ xs = [] ∧ k = 0) ∨ ∃ b o, A = some ⟨b, o, none⟩ := by
 intro w hs
 obtain ⟨G, hG⟩ := (hs.pick i hi).head
 rcases hG with ⟨h1, h2, _⟩ | ⟨b, o, c, cur, h1, _⟩
 ·injection h1 with e1 e2 e3; exact .inl ⟨e1, h2, e3⟩
 ·injection h1 with e1 e2 e3; exact .inr ⟨b, o, e1⟩
theorem rowKRm {α : Type} {E : Enc α} {T : TypeId} {H : List SP} (i : Nat) {A : Option Addr} {m k : Nat} {xs : List α} (hi : H[i]? = some (row E T (.slice A m k) xs)) (hm : m = xs.length) : KR H E ⟨A, k, xs⟩ := by subst hm; exact rowKRat i hi
def shN (n : Int) : Int := mnI (mxI n 0) 1099511627776
def shiftE (l : List (Int × Int)) (n : Int) : List (Int × Int) := l.map fun e => (mxI 0 (IntKind.i64.wrap (e.1 - shN n)), e.2)
set_option maxHeartbeats 1000000 in
set_option maxRecDepth 100000 in
theorem shift_walk (H : List SP) (b : Nat) (A : Option Addr) (cap : Nat) (room : Int) (l : List (Int × Int)) (n : Int) (hl : l.length ≤ 64) (hsr : SrtE (shiftE l n)) : ∀ w, Sat w (blk b 171 [.slice A l.length cap, vi room] :: row slE 150 (.slice A l.length cap) l :: H) → Calls Tryz.prog 118 #[vp b, vi n] w (Ret (ι := Unit) (fun _ => .tuple #[]) fun _ => blk b 171 [.slice A (shiftE l n).length cap, vi room] :: row slE 150 (.slice A (shiftE l n).length cap) (shiftE l n) :: H) := by
 refine enterG (fn := Tryz.f118) 40 [vp b, vi n] Tryz.func118 (by kernel_rfl) (by kernel_rfl) (by kernel_rfl) ?_
 refine Xq (Xg 4 (Xe [(0,vp b), (1,vi (mnI (mxI n 0) 1099511627776))] ?_ 4))
 refine Xq (Xq (Xg 6 (Xm [(0,vp b), (1,vi (mnI (mxI n 0) 1099511627776)), (12,vi (l.length : Int)), (13,vi 0)] [(⟨b, 0, none⟩, .slice A l.length cap)] (hasC (ba 0) has0) ?_ 6)))
 refine Xb 0 (Xp [(0,vp b), (1,vi (mnI (mxI n 0) 1099511627776)), (12,vi (l.length : Int)), (13,vi 0)] ?_)
 refine loopG (fun (x : List (Int × Int) × Nat) => [(0, vp b), (1, vi (shN n)), (12, vi (l.length : Int)), (13, vi (x.2 : Int))]) (fun (x : List (Int × Int) × Nat) => (blk b 171 [.slice A l.length cap, vi room] :: row slE 150 (.slice A l.length cap) x.1 :: H)) (fun k (x : List (Int × Int) × Nat) => k + x.2 = l.length ∧ x.1 = (shiftE l n).take x.2 ++ l.drop x.2) l.length (l, 0) (by kernel_rfl) ⟨by simp, by simp⟩ ?_
 rintro k ⟨xs, u⟩ ⟨hku, hxs⟩
 dsimp only at hku hxs ⊢
 have hsl : (shiftE l n).length = l.length := by simp [shiftE]
 have hxl : xs.length = l.length := by rw [hxs, List.length_append, List.length_take, List.length_drop]; omega
 refine Xq (Xg 1 (Xe [(0,vp b), (1,vi (shN n)), (12,vi (l.length : Int)), (13,vi u), (14,.bool (decide ((u : Int) < (l.length : Int))))] ?_ 1))
 refine Xq (Xc (decide ((u : Int) < (l.length : Int))) (fun h1 => ?_) (fun h1 => ?_))
 ·skip
  have hu : u < l.length := by have := of_decide_eq_true h1; omega
  obtain ⟨e, he⟩ : ∃ e, l[u]? = some e := ⟨_, by simp [hu]; rfl⟩
  have hxe : xs[u]? = some e := by rw [hxs, List.getElem?_append_right (by rw [List.length_take]; omega), List.length_take, List.getElem?_drop, hsl, show u + (u - min u l.length) = u by omega]; exact he
  have hse : (shiftE l n)[u]? = some (mxI 0 (IntKind.i64.wrap (e.1 - shN n)), e.2) := by rw [shiftE, List.getElem?_map, he]; rfl
  have hset : xs.set u (mxI 0 (IntKind.i64.wrap (e.1 - shN n)), e.2) = (shiftE l n).take (u + 1) ++ l.drop (u + 1) := by
   rw [hxs, List.set_append_right _ _ (by rw [List.length_take]; omega), List.length_take, hsl, show u - min u l.length = 0 by omega, List.take_add_one, hse, List.drop_eq_getElem_cons hu, List.set_cons_zero, List.append_assoc]
   rfl
  refine PT.know (KR.isSome (s := ⟨A, cap, xs⟩) (rowKRm 1 rfl hxl.symm) (List.ne_nil_of_length_pos (by show 0 < xs.length; omega))) ?_
  rintro ⟨sb, so, hA⟩
  dsimp only at hA
  subst hA
  refine Xk (Xq (Xb 1 (Xq (Xg 2 (Xe [(0,vp b), (1,vi (shN n)), (12,vi (l.length : Int)), (13,vi u), (4,vi u)] ?_ 2)))))
  refine Xy0 0 [18] 19 ?_
  refine Xt [0, 1, 2, 3, 4, 5, 6, 7, 8, 9, 13] [(0,vp b), (1,vi (shN n)), (12,vi (l.length : Int)), (13,vi u), (19,.slice (some ⟨sb, so, none⟩) l.length cap), (20,vi u), (24,.slice (some ⟨sb, so, none⟩) l.length cap), (25,vi u), (29,vi (shN n))] [(⟨b, 0, none⟩, .slice (some ⟨sb, so, none⟩) l.length cap), (⟨b, 0, none⟩, .slice (some ⟨sb, so, none⟩) l.length cap)] (hasC (ba 0) (hasC (ba 0) has0)) ?_
  refine Xu 10 (Xi 169 (.tmp 24) (.tmp 25) sb so l.length cap u 2 150 (u : Int) 26 Tryz.underlying169) ?_
  refine Xt [11, 12, 14, 15] [(0,vp b), (1,vi (shN n)), (12,vi (l.length : Int)), (13,vi u), (19,.slice (some ⟨sb, so, none⟩) l.length cap), (20,vi u), (31,vi (mxI 0 (IntKind.i64.wrap (e.1 - (shN n)))))] [(⟨sb, so + u * 2, none⟩, vi e.1)] (hasC ((rowKRm (xs := xs) (m := l.length) (A := some ⟨sb, so, none⟩) (k := cap) (E := slE) (T := 150) 1 rfl hxl.symm).cell rfl (i := u) (x := e) hxe (j := 0) rfl) has0) ?_
  refine Xu 16 (Xi 169 (.tmp 19) (.tmp 20) sb so l.length cap u 2 150 (u : Int) 32 Tryz.underlying169) ?_
  refine Xt [17] [(0,vp b), (1,vi (shN n)), (12,vi (l.length : Int)), (13,vi u), (31,vi (mxI 0 (IntKind.i64.wrap (e.1 - (shN n))))), (33,.pointer (some ⟨sb, so + u * 2, none⟩))] [] has0 ?_
  refine DT.pick 1 rfl ?_
  refine Xo 18 (setS (E := slE) (J := u) (j := 0) e (mxI 0 (IntKind.i64.wrap (e.1 - shN n)), e.2) (.int .i64 (mxI 0 (IntKind.i64.wrap (e.1 - (shN n))))) ⟨sb, so + u * 2, none⟩ (fun _ => by kernel_rfl) (by first | rfl | simp) (hxe) (rfl) (by decide)) (fun _ => ?_)
  refine Xd (Xg 2 (Xe [(0,vp b), (1,vi (shN n)), (12,vi (l.length : Int)), (13,vi (IntKind.i64.wrap ((u : Int) + 1)))] ?_ 2))
  rw [show IntKind.i64.wrap ((u : Int) + 1) = ((u + 1 : Nat) : Int) by rw [IntKind.wrap_i64]; omega]
  refine PT.pick 1 rfl ?_
  refine Xp [(0,vp b), (1,vi (shN n)), (12,vi (l.length : Int)), (13,vi ((u + 1 : Nat) : Int))] ?_
  exact againG (k - 1) (xs.set u (mxI 0 (IntKind.i64.wrap (e.1 - shN n)), e.2), u + 1) rfl rfl (by omega) ⟨by simp only; omega, hset⟩
 ·skip
  have hu : u = l.length := by have := of_decide_eq_false h1; omega
  have hfin : xs = shiftE l n := by rw [hxs, hu, List.drop_length, List.append_nil, List.take_of_length_le (by omega)]
  rw [hfin]
  refine Xx 0 (thenX (thenX (leaveR (Xg 5 (Xl [(38,.slice A l.length cap)] [(⟨b, 0, none⟩, .slice A l.length cap)] (hasC (ba 0) has0) ?_ 1 4)))))
  rw [← hsl]
  refine Xs (Xa (some 39) (fun _ => .tuple #[]) (sort_walk (blk b 171 [.slice A ((shiftE l n).length) cap, .int .i64 room] :: row slE 150 (.slice A ((shiftE l n).length) cap) (shiftE l n) :: H) ⟨A, cap, shiftE l n⟩ (rowKRat 1 rfl) hsr (by show (shiftE l n).length ≤ 64; omega))) (fun _ => ?_) 0
  refine endR ?_
  refine Y1 (.tuple #[]) (fun w hs => ?_)
  exact ⟨(), rfl, hs⟩
theorem put_idx (H : List SP) (b : Nat) (room : Int) (l : List (Int × Int)) (p id : Int) (hsr : SrtE l) (hl : l.length < 1000000) : ∀ w, Sat w (idxS b room l :: H) → Calls Tryz.prog 107 #[vp b, vi p, vi id] w (Ret (ι := Unit) (fun _ => pqErr (putE room l p id).1) fun _ => idxS b room (putE room l p id).2 :: H) :=
 idx_open fun A cap w hs => (put_walk H b A cap room l p id hsr hl w hs).mono fun e w' ⟨x, he, hx⟩ => ⟨(), he, Sat.idx hx⟩
theorem drop_idx (H : List SP) (b : Nat) (room : Int) (l : List (Int × Int)) (id : Int) (hl : l.length < 1000000) : ∀ w, Sat w (idxS b room l :: H) → Calls Tryz.prog 109 #[vp b, vi id] w (Ret (ι := Unit) (fun _ => pqErr (dropE l id).1) fun _ => idxS b room (dropE l id).2 :: H) :=
 idx_open fun A cap w hs => (drop_walk H b A cap room l id hl w hs).mono fun e w' ⟨x, he, hx⟩ => ⟨(), he, Sat.idx hx⟩
theorem rekey_idx (H : List SP) (b : Nat) (room : Int) (l : List (Int × Int)) (id p : Int) (hsr : SrtE l) (hl : l.length < 1000000) : ∀ w, Sat w (idxS b room l :: H) → Calls Tryz.prog 117 #[vp b, vi id, vi p] w (Ret (ι := Unit) (fun _ => pqErr (rekeyE l id p).1) fun _ => idxS b room (rekeyE l id p).2 :: H) :=
 idx_open fun A cap w hs => (rekey_walk H b A cap room l id p hsr hl w hs).mono fun e w' ⟨x, he, hx⟩ => ⟨(), he, Sat.idx hx⟩
theorem shift_idx (H : List SP) (b : Nat) (room : Int) (l : List (Int × Int)) (n : Int) (hl : l.length ≤ 64) (hsr : SrtE (shiftE l n)) : ∀ w, Sat w (idxS b room l :: H) → Calls Tryz.prog 118 #[vp b, vi n] w (Ret (ι := Unit) (fun _ => .tuple #[]) fun _ => idxS b room (shiftE l n) :: H) :=
 idx_open fun A cap w hs => (shift_walk H b A cap room l n hl hsr w hs).mono fun e w' ⟨x, he, hx⟩ => ⟨(), he, Sat.idx hx⟩
end Go.Proofs.YtlhjibkkkhgonaaGreatDoor
set_option linter.unusedVariables false
set_option linter.unusedSimpArgs false
namespace Go.Proofs.YtlhjibkkkhgonaaGreatDoor
open Go.RowKit G
theorem infoIn : (Tryz.prog.info? 3).map (fun i => (i.zero, i.size, i.bytes)) = some (some (.int .i64 0), 1, 8) := by kernel_rfl
theorem etyIn : Ety Tryz.prog (kE .i64) 3 (.int .i64 0) := by
  obtain ⟨i, hi, hz, hs, hb⟩ := info_parts infoIn
  exact ⟨⟨i, hi, hz, hs, by omega⟩, rfl⟩
theorem zero_cells_in (n : Nat) : ∀ u ∈ (Builtin.zeroCells (Value.int .i64 0).cells n).toList, u.oneCell' = true := by
  intro u hu
  simp only [Builtin.zeroCells, Value.cells, List.size_toArray, List.length_cons, List.length_nil, Array.toList_map, List.mem_map] at hu
  obtain ⟨k, _, rfl⟩ := hu
  have h : k % 1 = 0 := Nat.mod_one k
  simp [h, Value.oneCell']

set_option maxHeartbeats 1000000 in
set_option maxRecDepth 100000 in
theorem del_in_at (w : World) (b o c n : Nat) (cur : Array Value) (xs zs : List Int) (i : Nat) (hz : zs = xs.take i ++ xs.drop (i + 1)) (hx : xs.length = n) (hb : w.heap[b]? = some (.cells cur 3 (0, 0))) (hc1 : n ≤ c) (hc2 : c ≤ maxLen) (hc3 : o + c * 1 ≤ cur.size) (hcur : (cur.toList.drop o).take (n * 1) = (kE .i64).flat xs)
    (hi : i < n) (hn : n ≤ 1000000000) :
    Calls Tryz.prog 95 #[.slice (some ⟨b, o, none⟩) n c, .int .i64 i, .int .i64 (i + 1)] w (RowPost (kE .i64) 3 (OneB b) w zs) := by
  have hne : ((i : Int) == (i : Int) + 1) = false := by simp; omega
  have hlen : cur.toList.length = cur.size := by simp
  -- the append in place
  have hrow : Row (kE .i64) 3 w.drew (OneB b) (.slice (some ⟨b, o, none⟩) (xs.take i).length c) (xs.take i) := by
    refine .inr ⟨b, o, c, cur, rfl, rfl, hb, by simp; omega, hc2, hc3, ?_⟩
    rw [List.length_take, hx, Nat.min_eq_left (by omega)]
    rw [← (kE .i64).flat_take, ← hcur, List.take_take]
    congr 1
    show i * 1 = min (i * 1) (n * 1); omega
  have hil : (xs.take i).length = i := by rw [List.length_take, hx]; omega
  have hdl : (xs.drop (i + 1)).length = n - (i + 1) := by rw [List.length_drop, hx]
  have hcell : ∀ j u, ((kE .i64).flat (xs.drop (i + 1)))[j]? = some u → w.drew.cell? ⟨b, o + (i + 1) * 1 + j, none⟩ = some u := by
    intro j u hu
    rw [cell_of_row w.drew b _ cur 3 (0, 0) hb]
    rw [← (kE .i64).flat_drop, ← hcur] at hu
    rw [List.getElem?_drop, List.getElem?_take] at hu
    split at hu
    · rw [List.getElem?_drop] at hu
      rw [← Array.getElem?_toList, ← hu]
      show _ = cur.toList[o + ((i + 1) * 1 + j)]?
      congr 1; omega
    · cases hu
  have hap : ∀ (X : Option Addr) (m dc : Nat), m = n - (i + 1) → (¬ c = i + 1 → X = some ⟨b, o + (i + 1) * 1, none⟩ ∧ dc = c - (i + 1)) → (c = i + 1 → X = some ⟨b, o, none⟩ ∧ dc = 0) → ∃ cur1, cur1.size = cur.size ∧ (cur1.toList.drop o).take ((n - 1) * 1) = (kE .i64).flat zs ∧
      (Builtin.append_ #[50, 50] 50 #[.slice (some ⟨b, o, none⟩) i c, .slice X m dc]).run Tryz.prog w.drew = .ok (.slice (some ⟨b, o, none⟩) (n - 1) c) (w.drew.setRow b cur1) := by
    intro X m dc hm hX1 hX2
    subst hm
    obtain ⟨ii, hii, hzz, hss, hbb⟩ := info_parts infoIn
    have hfl : ((kE .i64).flat (xs.drop (i + 1))).length = (n - (i + 1)) * 1 := by rw [(kE .i64).flat_length, hdl]; rfl
    have hfl0 : ((kE .i64).flat (xs.take i)).length = i * 1 := by rw [(kE .i64).flat_length, hil]; rfl
    have hf : (Builtin.firstCells 1 (n - (i + 1)) (.slice X (n - (i + 1)) dc)).run Tryz.prog w.drew = .ok ((kE .i64).flat (xs.drop (i + 1))).toArray w.drew := by
      by_cases hcc : c = i + 1
      · obtain ⟨rfl, rfl⟩ := hX2 hcc
        have e0 : n - (i + 1) = 0 := by omega
        rw [e0] at hfl ⊢
        have : (kE .i64).flat (xs.drop (i + 1)) = [] := List.eq_nil_of_length_eq_zero (by simpa using hfl)
        rw [this]
        exact run_firstCells_some (P := Tryz.prog) w.drew 1 0 _ _ _ [] rfl (by intro j u h; simp at h)
      · obtain ⟨rfl, rfl⟩ := hX1 hcc
        exact run_firstCells_some (P := Tryz.prog) w.drew 1 _ _ _ _ _ hfl (fun j u hu => by rw [Addr.add_lit]; exact hcell j u hu)
    have hst := run_storeCells_at Tryz.prog b (o + i * 1) 3 ((kE .i64).flat (xs.drop (i + 1))) 0 cur w.drew hb (by rw [hfl]; omega) ((kE .i64).flat_one' _)
    simp only [Nat.add_zero, Nat.mul_one] at hst
    refine ⟨(cur.toList.take (o + i * 1) ++ (kE .i64).flat (xs.drop (i + 1)) ++ cur.toList.drop (o + i * 1 + ((kE .i64).flat (xs.drop (i + 1))).length)).toArray, ?_, ?_, ?_⟩
    rotate_left 2
    · have hroom : i + (n - (i + 1)) ≤ c := by omega
      have e1 : i + (n - (i + 1)) = n - 1 := by omega
      simp [Builtin.append_, run_underlying Tryz.underlying50, sizeOf, typeInfo, hii, hss, Builtin.lenOf, hf, Addr.add_lit, hst, e1]
      intro h; omega
    · simp only [List.size_toArray, List.length_append, List.length_take, List.length_drop, hlen, hfl]; omega
    · have htm := take_mid cur.toList o (i * 1) ((kE .i64).flat (xs.drop (i + 1))).length ((kE .i64).flat (xs.drop (i + 1))) rfl (by rw [hlen, hfl]; omega)
      have e2 : (n - 1) * 1 = i * 1 + ((kE .i64).flat (xs.drop (i + 1))).length := by rw [hfl]; omega
      rw [e2]
      show List.take _ (List.drop o (List.take (o + i * 1) cur.toList ++ (kE .i64).flat (xs.drop (i + 1)) ++ List.drop (o + i * 1 + ((kE .i64).flat (xs.drop (i + 1))).length) cur.toList)) = _
      rw [htm, hz, Enc.flat_append]
      congr 1
      rw [← (kE .i64).flat_take, ← hcur, List.take_take]
      congr 1
      show i * 1 = min (i * 1) (n * 1); omega
  -- the clear
  have hclr : ∀ cur1 : Array Value, cur1.size = cur.size → (cur1.toList.drop o).take ((n - 1) * 1) = (kE .i64).flat zs → ∃ cur2, (∀ dc, (Builtin.clear_ #[50] 0 #[.slice (some ⟨b, o + (n - 1) * 1, none⟩) 1 dc]).run Tryz.prog (w.drew.setRow b cur1) = .ok (.tuple #[]) ((w.drew.setRow b cur1).setRow b cur2)) ∧
      RowPost (kE .i64) 3 (OneB b) w zs (.returned (.slice (some ⟨b, o, none⟩) (n - 1) c)) ((w.drew.setRow b cur1).setRow b cur2) := by
    intro cur1 hs1 ht1
    have hb1 : (w.drew.setRow b cur1).heap[b]? = some (.cells cur1 3 (0, 0)) := setRow_heap w.drew b cur cur1 _ _ hb
    have hl1 : cur1.toList.length = cur.size := by simp [hs1]
    have hzl : (Builtin.zeroCells (Value.int .i64 0).cells 1).toList.length = 1 := by rw [Array.length_toList, size_zeroCells]; rfl
    refine ⟨_, fun dc => run_clear_at (P := Tryz.prog) Tryz.underlying50 etyIn hb1 (by omega) (by rw [hs1]; show _ + 1 * 1 ≤ _; omega) (zero_cells_in 1), ?_⟩
    refine ⟨_, OneB b, rfl, .inr ⟨b, o, c, _, ?_, rfl, setRow_heap _ b cur1 _ _ _ hb1, ?_, hc2, ?_, ?_⟩, ⟨rfl, rfl, rfl, by simp [World.setRow], fun k _ hk => (setRow_other _ b k _ (fun e => hk e)).trans (setRow_other w.drew b k _ (fun e => hk e))⟩, fun b hb => .inl hb⟩
    · congr 1; rw [hz]; simp; omega
    · rw [hz]; simp; omega
    · simp only [List.size_toArray, List.length_append, List.length_take, List.length_drop, hl1, hzl]
      show o + c * 1 ≤ _ + (_ - (_ + 1 * 1)); omega
    · have hzn : zs.length = n - 1 := by rw [hz]; simp; omega
      rw [hzn, ← ht1]
      show List.take ((n - 1) * 1) (List.drop o (List.take (o + (n - 1) * 1) cur1.toList ++ (Builtin.zeroCells (Value.int .i64 0).cells 1).toList ++ List.drop (o + (n - 1) * 1 + 1 * 1) cur1.toList)) = _
      rw [List.append_assoc, List.drop_append, List.length_take, hl1, show o - min (o + (n - 1) * 1) cur.size = 0 by omega, List.drop_zero, List.drop_take]
      have e3 : o + (n - 1) * 1 - o = (n - 1) * 1 := by omega
      rw [e3]
      exact List.take_left' (by simp only [List.length_take, List.length_drop, hl1]; omega)
  have HAP := Lib.hid hap
  have HCL := Lib.hid hclr
  clear hap hclr hrow hil hdl hcell hcur hb hx hz hlen hc3
  have hb2 : ¬ (c = i) := by omega
  have hb3 : ¬ (c = n - 1) := by omega
  have hb4 : i + 1 ≤ n := by omega
  have hb5 : (0 : Int) ≤ (i : Int) + 1 := by omega
  have hw1 : IntKind.i64.wrap ((i : Int) + 1) = (i : Int) + 1 := by rw [IntKind.wrap_i64]; omega
  have htn : ((i : Int) + 1).toNat = i + 1 := by omega
  have hb6 : n - (n - 1) = 1 := by omega
  have hb7 : i ≤ n := by omega
  have hb8 : n - 1 ≤ n := by omega
  have hb9 : i ≤ c := by omega
  have hb11 : (i : Int) + 1 ≤ (n : Int) := by omega
  have hb10 : (i : Int) ≤ (i : Int) + 1 := by omega
  by_cases hcc : c = i + 1
  · subst hcc
    obtain ⟨cur1, hs1, ht1, hr1⟩ := HAP.out (some ⟨b, o, none⟩) 0 0 (by omega) (by intro h; exact absurd rfl h) (by intro _; exact ⟨rfl, rfl⟩)
    obtain ⟨cur2, hr2, hp0⟩ := HCL.out cur1 hs1 ht1
    simp only [Nat.mul_one] at hr1 hr2
    have hp := Lib.hid hp0
    have HR := Lib.hid hr1
    clear hs1 ht1 hp0 hr1 HAP HCL
    go_enter Tryz.func95, Tryz.ntmps95
    go_wp2
    go_region_law (refine step_append_by rfl _ _ _ _ rfl (by simp [Act.eval, Act.put]) (by simp [Act.eval, Act.put]) HR.out ?_)
    go_wp2
    go_ret
    exact hp.out
  · obtain ⟨cur1, hs1, ht1, hr1⟩ := HAP.out (some ⟨b, o + (i + 1) * 1, none⟩) (n - (i + 1)) (c - (i + 1)) rfl (by intro _; exact ⟨rfl, rfl⟩) (by intro h; exact absurd h hcc)
    obtain ⟨cur2, hr2, hp0⟩ := HCL.out cur1 hs1 ht1
    simp only [Nat.mul_one] at hr1 hr2
    have hp := Lib.hid hp0
    have HR := Lib.hid hr1
    clear hs1 ht1 hp0 hr1 HAP HCL
    go_enter Tryz.func95, Tryz.ntmps95
    go_wp2
    go_region_law (refine step_append_by rfl _ _ _ _ rfl (by simp [Act.eval, Act.put]) (by simp [Act.eval, Act.put]) HR.out ?_)
    go_wp2
    go_ret
    exact hp.out

/-- slices.Delete of one element at a row of sleepers. -/
theorem del_in (w : World) (F : Nat → Prop) (v : Value) (xs : List Int) (hrow : Row (kE .i64) 3 w F v xs) (i : Nat) (hi : i < xs.length) (hn : xs.length ≤ 1000000000) :
    Calls Tryz.prog 95 #[v, .int .i64 i, .int .i64 (i + 1)] w (RowPost (kE .i64) 3 F w (xs.take i ++ xs.drop (i + 1))) := by
  rcases hrow with ⟨rfl, rfl, rfl⟩ | ⟨b, o, c, cur, rfl, rfl, hb, hc1, hc2, hc3, hcur⟩
  · simp at hi
  · exact del_in_at w b o c _ cur xs _ i rfl rfl hb hc1 hc2 hc3 hcur hi hn
end Go.Proofs.YtlhjibkkkhgonaaGreatDoor
set_option linter.unusedVariables false
set_option linter.unusedSimpArgs false
namespace Go.Proofs.YtlhjibkkkhgonaaGreatDoor
open Ieee

/-- The float of a whole number. -/
def fi (n : Int) : Nat := FloatKind.f64.nearest n
theorem fi_eq (n : Int) : fi n = floatOfInt .f64 n := rfl
theorem leastPlace_eq : double.leastPlace = -1074 := by decide
theorem binade_eq : double.binade = 2 ^ 52 := rfl
theorem signWeight_eq : double.signWeight = 2 ^ 63 := rfl
theorem infRung_eq : double.infRung = 2047 * 2 ^ 52 := rfl

theorem e52 : (2 : Nat) ^ 52 = 4503599627370496 := rfl
theorem e53 : (2 : Nat) ^ 53 = 9007199254740992 := rfl
theorem e63 : (2 : Nat) ^ 63 = 9223372036854775808 := rfl
/-- The rung of a number below 2^53. -/
theorem cut_whole (s : Bool) (n d : Nat) (hn : 0 < n) : Toward.even.cut s (n * 2 ^ d) d = n := by
  have hl : d ≤ (n * 2 ^ d).log2 := by
    rw [Nat.le_log2 (Nat.ne_of_gt (Nat.mul_pos hn (Nat.two_pow_pos d)))]
    exact Nat.le_mul_of_pos_left _ hn
  unfold Toward.cut
  rw [Nat.min_eq_left (by omega), Nat.one_shiftLeft]
  simp only [Nat.mul_div_cancel _ (Nat.two_pow_pos d), Nat.mul_mod_left, Nat.mul_zero]
  have h1 : decide (2 ^ d < 0) = false := decide_eq_false (Nat.not_lt_zero _)
  have h2 : ((2 ^ d : Nat) == 0) = false := by
    have := Nat.two_pow_pos d
    simp only [beq_eq_false_iff_ne]; omega
  rw [h1, h2]; simp
theorem cut_none (s : Bool) (n : Nat) : Toward.even.cut s n 0 = n := by
  unfold Toward.cut
  simp [Nat.mod_one]
/-- A number below 2^53, told at any place not above 0: its word. -/
theorem nearest_at (s : Bool) (m e : Nat) (hm : 0 < m) (hb : m < 2 ^ 53) (he : e ≤ 1000) :
    double.nearest s (m * 2 ^ e) (-(e : Int)) = double.word s ((m.log2 + 1022) * 2 ^ 52 + m * 2 ^ (52 - m.log2)) := by
  have hlg : m.log2 < 53 := (Nat.log2_lt (by omega)).2 hb
  have hle : (m * 2 ^ e).log2 = m.log2 + e := by
    refine (Nat.log2_eq_iff (Nat.ne_of_gt (Nat.mul_pos hm (Nat.two_pow_pos e)))).2 ⟨?_, ?_⟩
    · rw [Nat.pow_add]; exact Nat.mul_le_mul_right _ (Nat.log2_self_le (by omega))
    · rw [show m.log2 + e + 1 = (m.log2 + 1) + e by omega, Nat.pow_add]
      exact Nat.mul_lt_mul_of_pos_right Nat.lt_log2_self (Nat.two_pow_pos e)
  unfold Format.nearest
  rw [if_neg (Nat.ne_of_gt (Nat.mul_pos hm (Nat.two_pow_pos e))), hle, leastPlace_eq, binade_eq, infRung_eq]
  have hfb : double.fractionBits = 52 := rfl
  rw [hfb]
  have hlast : max (-(e : Int) + ((m.log2 + e : Nat) : Int) - ((52 : Nat) : Int)) (-1074) = (m.log2 : Int) - 52 := by omega
  simp only [hlast]
  have hkept : Toward.even.cut s ((m * 2 ^ e) <<< (-(e : Int) - ((m.log2 : Int) - 52)).toNat) ((m.log2 : Int) - 52 - -(e : Int)).toNat = m * 2 ^ (52 - m.log2) := by
    by_cases c : e ≤ 52 - m.log2
    · rw [show ((m.log2 : Int) - 52 - -(e : Int)).toNat = 0 by omega, show (-(e : Int) - ((m.log2 : Int) - 52)).toNat = 52 - m.log2 - e by omega, cut_none, Nat.shiftLeft_eq, Nat.mul_assoc, ← Nat.pow_add]
      congr 2; omega
    · rw [show (-(e : Int) - ((m.log2 : Int) - 52)).toNat = 0 by omega, Nat.shiftLeft_zero, show ((m.log2 : Int) - 52 - -(e : Int)).toNat = e - (52 - m.log2) by omega]
      have : m * 2 ^ e = m * 2 ^ (52 - m.log2) * 2 ^ (e - (52 - m.log2)) := by
        rw [Nat.mul_assoc, ← Nat.pow_add]; congr 2; omega
      rw [this]
      exact cut_whole s _ _ (Nat.mul_pos hm (Nat.two_pow_pos _))
  rw [hkept, show ((m.log2 : Int) - 52 - -1074).toNat = m.log2 + 1022 by omega]
  have hup : m * 2 ^ (52 - m.log2) < 2 ^ 53 := by
    have h1 : m < 2 ^ (m.log2 + 1) := Nat.lt_log2_self
    have h2 : m * 2 ^ (52 - m.log2) < 2 ^ (m.log2 + 1) * 2 ^ (52 - m.log2) := Nat.mul_lt_mul_of_pos_right h1 (Nat.two_pow_pos _)
    rw [← Nat.pow_add, show m.log2 + 1 + (52 - m.log2) = 53 by omega] at h2
    exact h2
  rw [Nat.min_eq_left]
  have : (m.log2 + 1022) * 2 ^ 52 ≤ 1074 * 2 ^ 52 := Nat.mul_le_mul_right _ (by omega)
  generalize m * 2 ^ (52 - m.log2) = X at hup ⊢
  generalize m.log2 = L at hlg ⊢
  clear hlast hkept hle hfb this
  rw [e52]
  rw [e53] at hup
  omega
/-- What such a word is read as. -/
theorem read_word (s : Bool) (m : Nat) (hm : 0 < m) (hb : m < 2 ^ 53) :
    double.read (double.word s ((m.log2 + 1022) * 2 ^ 52 + m * 2 ^ (52 - m.log2))) = .number s (m * 2 ^ (52 - m.log2)) (-((52 - m.log2 : Nat) : Int)) := by
  have hlg : m.log2 < 53 := (Nat.log2_lt (by omega)).2 hb
  have hlo : 2 ^ 52 ≤ m * 2 ^ (52 - m.log2) := by
    have h1 : 2 ^ m.log2 ≤ m := Nat.log2_self_le (by omega)
    have h2 : 2 ^ m.log2 * 2 ^ (52 - m.log2) ≤ m * 2 ^ (52 - m.log2) := Nat.mul_le_mul_right _ h1
    rw [← Nat.pow_add, show m.log2 + (52 - m.log2) = 52 by omega] at h2
    exact h2
  have hup : m * 2 ^ (52 - m.log2) < 2 ^ 53 := by
    have h1 : m < 2 ^ (m.log2 + 1) := Nat.lt_log2_self
    have h2 : m * 2 ^ (52 - m.log2) < 2 ^ (m.log2 + 1) * 2 ^ (52 - m.log2) := Nat.mul_lt_mul_of_pos_right h1 (Nat.two_pow_pos _)
    rw [← Nat.pow_add, show m.log2 + 1 + (52 - m.log2) = 53 by omega] at h2
    exact h2
  obtain ⟨M, hM⟩ : ∃ M, M = m * 2 ^ (52 - m.log2) := ⟨_, rfl⟩
  rw [← hM] at hlo hup ⊢
  obtain ⟨L, hL⟩ : ∃ L, L = m.log2 := ⟨_, rfl⟩
  rw [← hL] at hlg ⊢
  rw [e52] at hlo ⊢
  rw [e53] at hup
  clear hM hL hb hm
  have hr : (L + 1022) * 4503599627370496 + M < 9223372036854775808 := by omega
  have hmod : double.word s ((L + 1022) * 4503599627370496 + M) % 9223372036854775808 = (L + 1022) * 4503599627370496 + M := by
    unfold Format.word
    rw [signWeight_eq, e63]
    split <;> omega
  have hdiv : (double.word s ((L + 1022) * 4503599627370496 + M) / 9223372036854775808 % 2 == 1) = s := by
    unfold Format.word
    rw [signWeight_eq, e63]
    cases s
    · simp only [Bool.false_eq_true, if_false]
      rw [Nat.div_eq_of_lt hr]; rfl
    · simp only [if_true]
      have : (9223372036854775808 + ((L + 1022) * 4503599627370496 + M)) / 9223372036854775808 = 1 := by omega
      rw [this]; rfl
  unfold Format.read
  rw [signWeight_eq, e63, hmod, hdiv, binade_eq, infRung_eq, leastPlace_eq, e52]
  have hb1 : ¬ ((L + 1022) * 4503599627370496 + M < 4503599627370496) := by omega
  have hb2 : (L + 1022) * 4503599627370496 + M < 2047 * 4503599627370496 := by omega
  simp only [if_neg hb1, if_pos hb2]
  have hd : ((L + 1022) * 4503599627370496 + M) / 4503599627370496 = L + 1023 := by omega
  have hm2 : 4503599627370496 + ((L + 1022) * 4503599627370496 + M) % 4503599627370496 = M := by omega
  rw [hd, hm2]
  have hpl : (-1074 : Int) + ((L + 1023 - 1 : Nat) : Int) = -((52 - L : Nat) : Int) := by clear hd hm2 hb1 hb2 hmod hdiv hr hlo hup; omega
  rw [hpl]
theorem fi_word (n : Int) (h0 : n ≠ 0) (hb : n.natAbs < 2 ^ 53) : fi n = double.word (decide (n < 0)) ((n.natAbs.log2 + 1022) * 2 ^ 52 + n.natAbs * 2 ^ (52 - n.natAbs.log2)) := by
  have := nearest_at (decide (n < 0)) n.natAbs 0 (by omega) hb (by omega)
  rw [Nat.pow_zero, Nat.mul_one] at this
  exact this
theorem fi_zero : fi 0 = 0 := by decide
theorem read_zero : double.read 0 = .number false 0 (-1074) := by decide
/-- Each whole number is read back: so many halvings of so many doublings. -/
theorem fi_read (n : Int) (hb : n.natAbs < 2 ^ 53) : ∃ e : Nat, e ≤ 1074 ∧ double.read (fi n) = .number (decide (n < 0)) (n.natAbs * 2 ^ e) (-(e : Int)) ∧ (n ≠ 0 → e ≤ 52) := by
  by_cases h0 : n = 0
  · subst h0
    obtain ⟨e, he⟩ : ∃ e : Nat, e = 1074 := ⟨_, rfl⟩
    exact ⟨e, by omega, by rw [fi_zero, read_zero, Int.natAbs_zero, Nat.zero_mul, he]; rfl, fun h => absurd rfl h⟩
  · exact ⟨52 - n.natAbs.log2, by omega, by rw [fi_word n h0 hb]; exact read_word _ _ (by omega) hb, fun _ => by omega⟩
theorem signed_up (n : Int) (e k : Nat) : signed (decide (n < 0)) (n.natAbs * 2 ^ e) k = n * 2 ^ (e + k) := by
  unfold signed
  rw [Nat.shiftLeft_eq, Nat.mul_assoc, ← Nat.pow_add]
  have hp : ((n.natAbs * 2 ^ (e + k) : Nat) : Int) = (n.natAbs : Int) * 2 ^ (e + k) := by simp
  by_cases h : n < 0
  · rw [decide_eq_true h, if_pos rfl, hp, show (n.natAbs : Int) = -n by omega, Int.neg_mul, Int.neg_neg]
  · rw [decide_eq_false h, if_neg (by simp), hp, show (n.natAbs : Int) = n by omega]
theorem two_pow_pos' (e : Nat) : (0 : Int) < 2 ^ e := by
  have := Nat.two_pow_pos e
  have h : ((2 ^ e : Nat) : Int) = (2 : Int) ^ e := by simp
  omega
theorem cmp_scale (a b c : Int) (hc : 0 < c) : compare (a * c) (b * c) = compare a b := by
  show compareOfLessAndEq _ _ = compareOfLessAndEq _ _
  unfold compareOfLessAndEq
  by_cases h : a < b
  · rw [if_pos h, if_pos (Int.mul_lt_mul_of_pos_right h hc)]
  · by_cases h2 : a = b
    · subst h2; simp
    · have h3 : b < a := by omega
      have h4 := Int.mul_lt_mul_of_pos_right h3 hc
      rw [if_neg h, if_neg h2, if_neg (by omega), if_neg (by omega)]
theorem fi_order (a b : Int) (ha : a.natAbs < 2 ^ 53) (hb : b.natAbs < 2 ^ 53) : FloatKind.f64.format.order (fi a) (fi b) = some (compare a b) := by
  obtain ⟨e, _, he, _⟩ := fi_read a ha
  obtain ⟨d, _, hd, _⟩ := fi_read b hb
  show double.order _ _ = _
  unfold Format.order
  rw [he, hd]
  simp only [Datum.order, signed_up]
  rw [show e + (-(e : Int) - min (-(e : Int)) (-(d : Int))).toNat = max e d by omega, show d + (-(d : Int) - min (-(e : Int)) (-(d : Int))).toNat = max e d by omega, cmp_scale _ _ _ (two_pow_pos' _)]
theorem fi_int (n : Int) (hb : n.natAbs < 2 ^ 53) : floatToIntVal .f64 (fi n) .i64 = some n := by
  obtain ⟨e, _, he, _⟩ := fi_read n hb
  unfold floatToIntVal
  have hr : (FloatKind.f64.decode (fi n)) = .number (decide (n < 0)) (n.natAbs * 2 ^ e) (-(e : Int)) := he
  rw [hr]
  have hc : Toward.zero.cut (decide (n < 0)) ((n.natAbs * 2 ^ e) <<< (-(e : Int)).toNat) (- -(e : Int)).toNat = n.natAbs := by
    rw [show (-(e : Int)).toNat = 0 by omega, Nat.shiftLeft_zero, show (- -(e : Int)).toNat = e by omega]
    unfold Toward.cut
    by_cases h0 : n.natAbs = 0
    · rw [h0]; simp
    · have hl : e ≤ (n.natAbs * 2 ^ e).log2 := by
        rw [Nat.le_log2 (Nat.ne_of_gt (Nat.mul_pos (by omega) (Nat.two_pow_pos e)))]
        exact Nat.le_mul_of_pos_left _ (by omega)
      rw [Nat.min_eq_left (by omega), Nat.one_shiftLeft]
      simp [Nat.mul_div_cancel _ (Nat.two_pow_pos e)]
  have hi : (Datum.number (decide (n < 0)) (n.natAbs * 2 ^ e) (-(e : Int))).toInt .zero = some n := by
    unfold Datum.toInt Datum.integral
    simp only [hc]
    congr 1
    have := signed_up n 0 0
    simpa using this
  rw [hi]
  have h1 : IntKind.i64.min = -9223372036854775808 := rfl
  have h2 : IntKind.i64.max = 9223372036854775807 := rfl
  simp only [h1, h2]
  rw [if_pos (by omega)]
end Go.Proofs.YtlhjibkkkhgonaaGreatDoor
set_option linter.unusedVariables false
namespace Go.Proofs.YtlhjibkkkhgonaaGreatDoor
open Go.RowKit G
theorem cvt_int {a : Int} (ha : a.natAbs < 2 ^ 53) (w : World) : (convert 186 3 (.float .f64 (floatOfInt .f64 a))).run Tryz.prog w = .ok (.int .i64 a) w :=
  run_convert_float_int w 186 3 .f64 .i64 (floatOfInt .f64 a) a (by kernel_rfl) Tryz.underlying3 (by have := fi_int a ha; rwa [fi_eq] at this)
end Go.Proofs.YtlhjibkkkhgonaaGreatDoor
set_option linter.unusedVariables false
set_option linter.unusedSimpArgs false
namespace Go.Proofs.YtlhjibkkkhgonaaGreatDoor.G
open Go.RowKit Go.Proofs.YtlhjibkkkhgonaaGreatDoor Go.MapKept
def mEnt (l : List (Int × Value)) : List (Value × Value) := l.map fun p => (.int .i64 p.1, p.2)
def entOf (e : MapEntry) : Value × Value := (e.key, e.val)
/-- A map of numbers. -/
def mapS (b : Nat) (l : List (Int × Value)) : SP := ⟨fun w F => (∃ es ck, w.heap[b]? = some (.map es ck) ∧ Stamped es ck ∧ es.toList.map entOf = mEnt l) ∧ ∀ x, F x ↔ x = b,
  fun h x hx => by
    obtain ⟨⟨es, ck, hb, _⟩, hF⟩ := h
    rw [(hF x).1 hx]
    exact (Array.getElem?_eq_some_iff.1 hb).1,
  fun h a => by
    obtain ⟨⟨es, ck, hb, h2⟩, hF⟩ := h
    exact ⟨⟨es, ck, (a.keep b ((hF b).2 rfl)).trans hb, h2⟩, hF⟩⟩
/-- What a map holds at a key. -/
def lkE : List (Int × Value) → Int → Option Value
  | [], _ => none
  | p :: r, k => if p.1 == k then some p.2 else lkE r k
/-- .. and where. -/
def lkI : List (Int × Value) → Int → Nat → Option Nat
  | [], _, _ => none
  | p :: r, k, i => if p.1 == k then some i else lkI r k (i + 1)
theorem findNow_int (k : Int) : ∀ (es : List MapEntry) (l : List (Int × Value)) (i : Nat), es.map entOf = mEnt l →
    Instr.findNow (.int .i64) (.int .i64 k) es i = some ((lkI l k i).bind fun j => (lkE l k).map fun v => (j, v))
  | [], [], i, _ => rfl
  | [], p :: r, i, h => by simp [mEnt] at h
  | e :: es, [], i, h => by simp [mEnt] at h
  | e :: es, p :: r, i, h => by
    have h' := h
    rw [List.map_cons, mEnt, List.map_cons, List.cons.injEq] at h'
    have hk : e.key = .int .i64 p.1 := congrArg Prod.fst h'.1
    have hv : e.val = p.2 := congrArg Prod.snd h'.1
    have ih := findNow_int k es r (i + 1) h'.2
    rw [Instr.findNow, hk, hv]
    simp only [Instr.sameNow, if_true]
    by_cases c : k = p.1
    · subst c
      simp [lkI, lkE]
    · have c1 : (k == p.1) = false := by simpa using c
      have c2 : (p.1 == k) = false := by simp; exact fun h => c h.symm
      rw [c1, ih]
      simp [lkI, lkE, c2]
section
variable {P : Program} {n : Nat} {L : List (Nat × Value)} {H : List SP} {c : Code} {w : World}
theorem run_lookup_int {mty kt et : TypeId} {b : Nat} {es : Array MapEntry} {ck : Nat} {l : List (Int × Value)} {z : Value} (k : Int) (ok : Bool) (hm : P.underlying mty = some (.map kt et)) (hk : P.underlying kt = some (.int .i64)) (hz : (zeroValue et).run P w = .ok z w)
    (hb : w.heap[b]? = some (.map es ck)) (he : es.toList.map entOf = mEnt l) :
    (Instr.lookup mty (.map (some b)) (.int .i64 k) ok).run P w = .ok (if ok then .tuple #[(lkE l k).getD z, .bool (lkE l k).isSome] else (lkE l k).getD z) w := by
  have hg : (getObj b).run P w = .ok (.map es ck) w := Go.MapKept.run_getObj_map hb
  have hf := run_findKey (P := P) (w := w) hk (findNow_int k es.toList l 0 he)
  have hck : (Instr.checkKey es.isEmpty 10000 kt (.int .i64 k)).run P w = .ok () w := run_checkKey hk (by simp [IsKey]) _ _
  have hli : ∀ (l : List (Int × Value)) (i : Nat), (lkI l k i).isSome = (lkE l k).isSome := by
    intro l
    induction l with
    | nil => intro i; rfl
    | cons p r ih => intro i; simp only [lkI, lkE]; split; rfl; exact ih _
  unfold Instr.lookup
  simp only [Sem.run_bind, run_underlying hm, Result.andThen_ok, hg, Sem.run_pure, hck, hf]
  have h1 := hli l 0
  cases hv : lkE l k with
  | none =>
    rw [hv] at h1
    have h2 : lkI l k 0 = none := by simpa using h1
    simp [h2, hz]
  | some v =>
    rw [hv] at h1
    obtain ⟨j, h2⟩ := Option.isSome_iff_exists.1 h1
    simp [h2]
theorem mapAt {b i : Nat} {l : List (Int × Value)} (hi : H[i]? = some (mapS b l)) : ∀ w, Sat w H → ∃ es ck, w.heap[b]? = some (.map es ck) ∧ es.toList.map entOf = mEnt l := by
  intro w hs
  obtain ⟨G, ⟨es, ck, hb, _, he⟩, _⟩ := (hs.pick i hi).head
  exact ⟨es, ck, hb, he⟩
/-- A map's value at a key. -/
theorem lookY {S : World → Prop} {i : Nat} (t : TypeId) (x ix : Operand) (ok : Bool) (b : Nat) (k : Int) (l : List (Int × Value)) (z v : Value) (kt et : TypeId) (d : Option Tmp) (hg : ∀ rest, goes n c i L rest = true) (hd : (opAt c i).dst = d) (hop : (opAt c i).op = .lookup t x ix ok)
    (hx : ∀ rest, evalL L rest x = .map (some b)) (hix : ∀ rest, evalL L rest ix = .int .i64 k) (hm : P.underlying t = some (.map kt et)) (hk : P.underlying kt = some (.int .i64)) (hz : ∀ w, (zeroValue et).run P w = .ok z w)
    (hS : ∀ w, S w → ∃ es ck, w.heap[b]? = some (.map es ck) ∧ es.toList.map entOf = mEnt l) (hv : (if ok then .tuple #[(lkE l k).getD z, .bool (lkE l k).isSome] else (lkE l k).getD z) = v) : Yld P n L S c i d v := by
  refine ⟨hg, hd, fun rest w _ hs => ?_⟩
  obtain ⟨es, ck, hb, he⟩ := hS w hs
  have := run_lookup_int (P := P) (w := w) k ok hm hk (hz w) hb he
  unfold execOp
  simp only [hop, hx rest, hix rest]
  simp only [Sem.run_bind, Sem.run_map, this, hv]
  rfl
theorem newMapS {i : Nat} (d : Option Tmp) (v : Nat → Value) (h : ∀ rest r, newOk P n c i L rest r = some (.map #[] 0, v r, d)) : Step P n L H c i d v (fun b => mapS b [] :: H) := by
  have key : ∀ rest r, goes n c i L rest = true ∧ (opAt c i).dst = d ∧ ∃ f, newL P (execOp (evalL L rest) (opAt c i)) = some (.map #[] 0, f) ∧ f r = some (.value (v r)) := by
    intro rest r
    have h0 := h rest r
    unfold newOk at h0
    cases hg : goes n c i L rest with
    | false => rw [hg] at h0; cases h0
    | true =>
      rw [hg] at h0
      simp only at h0
      cases hr : newL P (execOp (evalL L rest) (opAt c i)) with
      | none => rw [hr] at h0; cases h0
      | some z =>
        obtain ⟨o, f⟩ := z
        rw [hr] at h0
        simp only at h0
        cases hf : f r with
        | none => rw [hf] at h0; cases h0
        | some x =>
          rw [hf] at h0
          cases x with
          | value u =>
            simp only [Option.some.injEq, Prod.mk.injEq] at h0
            obtain ⟨rfl, rfl, rfl⟩ := h0
            exact ⟨rfl, rfl, f, rfl, hf⟩
          | _ => cases h0
  refine valueS d v _ (fun rest => (key rest 0).1) (key (fun _ => undef) 0).2.1 ?_
  intro rest w _ hs
  obtain ⟨_, _, f, h1, h2⟩ := key rest w.heap.size
  refine ⟨w.heap.size, w.alloc (.map #[] 0), newL_run _ h1 h2, ?_⟩
  exact Sat.fresh hs (Upd.alloc _ _ _) (G' := fun b => b = w.heap.size) ⟨⟨#[], 0, (heap_alloc w _).1, stamped_empty 0, rfl⟩, fun _ => Iff.rfl⟩ (fun b hb => by omega)
theorem mEnt_keys {l : List (Int × Value)} {es : List MapEntry} (h : es.map entOf = mEnt l) : es.map (·.key) = l.map fun p => Value.int .i64 p.1 := by
  have := congrArg (List.map Prod.fst) h
  simp only [List.map_map, mEnt] at this
  exact this
theorem lkE_none {l : List (Int × Value)} {k : Int} : lkE l k = none ↔ ∀ p ∈ l, p.1 ≠ k := by
  induction l with
  | nil => simp [lkE]
  | cons p r ih =>
    simp only [lkE]
    by_cases c : p.1 = k
    · simp [c]
    · have : (p.1 == k) = false := by simpa using c
      rw [this]; simp [c, ih]
theorem lkI_none {l : List (Int × Value)} {k : Int} : ∀ i, lkE l k = none → lkI l k i = none := by
  induction l with
  | nil => intro i _; rfl
  | cons p r ih =>
    intro i h
    simp only [lkE, lkI] at h ⊢
    split at h
    · cases h
    · rename_i c; rw [if_neg c]; exact ih _ h
/-- A map takes a new key. -/
theorem updS {i : Nat} (t : TypeId) (m k v : Operand) (b : Nat) (kk : Int) (l : List (Int × Value)) (vv : Value) (kt et : TypeId) (hg : ∀ rest, goes n c i L rest = true) (hd : (opAt c i).dst = none) (hop : (opAt c i).op = .mapUpdate t m k v ∨ (opAt c i).op = .insert t m k v)
    (hx : ∀ rest, evalL L rest m = .map (some b)) (hix : ∀ rest, evalL L rest k = .int .i64 kk) (hvv : ∀ rest, evalL L rest v = vv) (hm : P.underlying t = some (.map kt et)) (hk : P.underlying kt = some (.int .i64)) (hn : lkE l kk = none) :
    Step (ι := Unit) P n L (mapS b l :: H) c i none (fun _ => undef) (fun _ => mapS b (l ++ [(kk, vv)]) :: H) := by
  refine skipS _ hg hd ?_
  intro rest w _ hs
  obtain ⟨G, ⟨⟨es, ck, hb, hst, he⟩, hF⟩⟩ := hs.head
  have hf := run_findKey (P := P) (w := w) hk (findNow_int kk es.toList l 0 he)
  rw [lkI_none 0 hn] at hf
  have hck : (Instr.checkKey false 10000 kt (.int .i64 kk)).run P w = .ok () w := run_checkKey hk (by simp [IsKey]) _ _
  have hr : (Instr.mapUpdate t (.map (some b)) (.int .i64 kk) vv).run P w = .ok () { w with heap := w.heap.setIfInBounds b (.map (es.push { key := .int .i64 kk, val := vv, born := ck }) (ck + 1)) } := by
    simp [Instr.mapUpdate, run_underlying hm, Go.MapKept.run_getObj_map hb, hck, hf, run_setObj_map _ hb, Result.andThen]
  refine ⟨{ w with heap := w.heap.setIfInBounds b (.map (es.push { key := .int .i64 kk, val := vv, born := ck }) (ck + 1)) }, ?_, ?_⟩
  · unfold execOp
    rcases hop with hop | hop <;> simp only [hop, hx rest, hix rest, hvv rest] <;> simp only [Sem.run_bind, Sem.run_map, hr] <;> rfl
  · refine hs.change fun G' hG' => ⟨⟨rfl, rfl, rfl, by simp, fun b' hb' hn' => ?_⟩, G', ⟨⟨_, _, (heap_set hb).1, stamped_push hst ?_, ?_⟩, hG'.2⟩, fun _ h => .inl h⟩
    · exact (heap_set hb).2 b' (fun h => hn' ((hG'.2 b').2 h))
    · intro x hx hkx
      have h1 := mEnt_keys he
      have h2 : x.key ∈ es.toList.map (·.key) := List.mem_map.2 ⟨x, hx, rfl⟩
      rw [h1, List.mem_map] at h2
      obtain ⟨p, hp, hpk⟩ := h2
      rw [hkx] at hpk
      injection hpk with _ e2
      exact (lkE_none.1 hn) p hp e2
    · simp [he, mEnt, entOf]
end
end Go.Proofs.YtlhjibkkkhgonaaGreatDoor.G
set_option linter.unusedVariables false
set_option linter.unusedSimpArgs false
namespace Go.Proofs.YtlhjibkkkhgonaaGreatDoor.G
open Go.RowKit Go.Proofs.YtlhjibkkkhgonaaGreatDoor Go.MapKept
/-- A map that is gone through: its block, the iterator's; done: what has come, by place. -/
def rngS (bi mb : Nat) (l : List (Int × Value)) (done : List Nat) : SP := ⟨fun w F => (bi ≠ mb ∧ ∃ es ck seen, w.heap[mb]? = some (.map es ck) ∧ w.heap[bi]? = some (.mapIter (some mb) ck seen ck) ∧ Stamped es ck ∧ es.toList.map entOf = mEnt l ∧ seen.toList.map some = done.map (fun j => (es.toList[j]?).map (·.born))) ∧ ∀ x, F x ↔ x = mb ∨ x = bi,
  fun h x hx => by
    obtain ⟨⟨_, es, ck, seen, hb, hi, _⟩, hF⟩ := h
    rcases (hF x).1 hx with rfl | rfl
    · exact (Array.getElem?_eq_some_iff.1 hb).1
    · exact (Array.getElem?_eq_some_iff.1 hi).1,
  fun h a => by
    obtain ⟨⟨hn, es, ck, seen, hb, hi, h2⟩, hF⟩ := h
    exact ⟨⟨hn, es, ck, seen, (a.keep mb ((hF mb).2 (.inl rfl))).trans hb, (a.keep bi ((hF bi).2 (.inr rfl))).trans hi, h2⟩, hF⟩⟩
section
variable {P : Program} {n : Nat} {L : List (Nat × Value)} {H : List SP} {c : Code} {Q : Exit → Act → World → Prop}
theorem rngS_end {bi mb : Nat} {l : List (Int × Value)} {done : List Nat} {w : World} (h : Sat w (rngS bi mb l done :: H)) : Sat w (mapS mb l :: H) := by
  refine h.change fun G hG => ⟨Upd.refl _ _, fun b => b = mb, ?_, fun b hb => .inl ((hG.2 b).2 (.inl hb))⟩
  obtain ⟨⟨_, es, ck, seen, hb, hi, hs, he, _⟩, hF⟩ := hG
  exact ⟨⟨es, ck, hb, hs, he⟩, fun _ => Iff.rfl⟩
theorem PT.rngEnd {bi mb : Nat} {l : List (Int × Value)} {done : List Nat} {Φ : Act → World → Prop} (h : PT n L (mapS mb l :: H) Φ) : PT n L (rngS bi mb l done :: H) Φ := PT.sat (fun _ hs => rngS_end hs) h
theorem rangeS {i : Nat} (t : TypeId) (x : Operand) (mb : Nat) (l : List (Int × Value)) (kt et : TypeId) (d : Option Tmp) (hg : ∀ rest, goes n c i L rest = true) (hd : (opAt c i).dst = d) (hop : (opAt c i).op = .range t x)
    (hx : ∀ rest, evalL L rest x = .map (some mb)) (hm : P.underlying t = some (.map kt et)) : Step P n L (mapS mb l :: H) c i d (fun bi => .pointer (some ⟨bi, 0, none⟩)) (fun bi => rngS bi mb l [] :: H) := by
  refine valueS d _ _ hg hd ?_
  intro rest w _ hsat
  obtain ⟨G, ⟨⟨es, ck, hb, hst, he⟩, hF⟩⟩ := hsat.head
  refine ⟨w.heap.size, w.alloc (.mapIter (some mb) ck #[] ck), ?_, ?_⟩
  · unfold execOp
    simp only [hop, hx rest, Sem.run_bind, Sem.run_map, run_range_map w t kt et mb es ck hm hb]
    rfl
  · have hlt := (Array.getElem?_eq_some_iff.1 hb).1
    refine hsat.change fun G' hG' => ⟨⟨rfl, rfl, rfl, by simp, fun b hb' _ => (heap_alloc w _).2 b hb'⟩, fun x => x = mb ∨ x = w.heap.size, ⟨⟨by omega, es, ck, #[], ?_, (heap_alloc w _).1, hst, he, rfl⟩, fun _ => Iff.rfl⟩, fun b hb' => ?_⟩
    · rw [(heap_alloc w _).2 mb hlt]; exact hb
    · rcases hb' with rfl | rfl
      · exact .inl ((hG'.2 b).2 rfl)
      · exact .inr (Nat.le_refl _)
theorem next_run (w : World) (ty : TypeId) (mb bi ck : Nat) (seen : Array Nat) (es : Array MapEntry) (hb : w.heap[mb]? = some (.map es ck)) (hi : w.heap[bi]? = some (.mapIter (some mb) ck seen ck)) (hold : ∀ x ∈ es.toList, x.born < ck) :
    ((leftOf es seen).size = 0 ∧ (Instr.next (.pointer (some ⟨bi, 0, none⟩)) false ty).run P w = .ok (.tuple #[.bool false]) w) ∨
    ∃ e ∈ (leftOf es seen).toList, ∃ w1 : World, (w1 = w ∨ w1 = w.drew) ∧ (Instr.next (.pointer (some ⟨bi, 0, none⟩)) false ty).run P w = .ok (.tuple #[.bool true, e.key, e.val]) { w1 with heap := w.heap.setIfInBounds bi (.mapIter (some mb) ck (seen.push e.born) ck) } := by
  simp only [Instr.next, getObj, Sem.run_bind, Sem.run, hi, hb, Result.andThen, next_test_false seen es ck ck hold (Nat.le_refl _), Bool.false_eq_true, if_false]
  unfold leftOf
  have hmem : ∀ x ∈ (Array.filter (fun e => !seen.contains e.born) es).toList, x.born < ck := fun x hx => hold x (by simp at hx ⊢; exact hx.1)
  generalize Array.filter (fun e => !seen.contains e.born) es = M at hmem ⊢
  have e1 : M.filter (fun x => decide (x.born < ck)) = M := Array.filter_eq_self.2 (fun x hx => by simpa using hmem x (by simpa using hx))
  have e2 : M.filter (fun x => decide (x.born ≥ ck)) = #[] := by
    rw [Array.filter_eq_empty_iff]
    intro x hx
    have := hmem x (by simpa using hx)
    simp
    omega
  simp only [e1, e2, Array.append_empty]
  by_cases h0 : M.size = 0
  · left
    have : M = #[] := Array.eq_empty_of_size_eq_zero h0
    subst this
    refine ⟨rfl, ?_⟩
    simp [choose, Sem.run, Question.forced]
  · right
    have hne : M.isEmpty = false := by simp [Array.isEmpty, h0]
    simp only [hne, Bool.false_eq_true, if_false, Array.empty_append, Array.size_map]
    have hch : ∃ (j : Nat) (w1 : World), j < M.size ∧ (w1 = w ∨ w1 = w.drew) ∧ (choose (Question.mapNext M.size)).run P w = .ok j w1 := by
      by_cases hf : M.size ≤ 1
      · exact ⟨0, w, by omega, .inl rfl, by simp [choose, Sem.run, Question.forced, hf]⟩
      · exact ⟨_, w.drew, Nat.mod_lt _ (by omega), .inr rfl, by
          simp only [choose, Sem.run, Question.forced, decide_eq_true_eq, hf, if_false, Question.cut]
          rfl⟩
    obtain ⟨j, w1, hj, hal, hrun⟩ := hch
    refine ⟨M[j], by simp, w1, hal, ?_⟩
    have hh : w1.heap = w.heap := by rcases hal with rfl | rfl <;> rfl
    have hset : ∀ (o' : Obj), (setObj bi o').run P w1 = .ok () { w1 with heap := w.heap.setIfInBounds bi o' } := fun o' => by
      simp only [setObj, Sem.run, hh, hi]
    simp only [hrun, Array.getElem?_map, Array.getElem?_eq_getElem hj, Option.map_some, Sem.run_bind, hset, Result.andThen]
    rfl
/-- The places that have not come. -/
theorem left_of {es : Array MapEntry} {seen : Array Nat} {done : List Nat} {l : List (Int × Value)} (he : es.toList.map entOf = mEnt l) (hs : seen.toList.map some = done.map (fun j => (es.toList[j]?).map (·.born))) (hn : (es.toList.map (·.born)).Nodup) :
    ((leftOf es seen).size = 0 → ∀ j, j < l.length → j ∈ done) ∧ ∀ e ∈ (leftOf es seen).toList, ∃ j k v, l[j]? = some (k, v) ∧ j ∉ done ∧ es.toList[j]? = some e ∧ e.key = .int .i64 k ∧ e.val = v := by
  have hlen : es.toList.length = l.length := by simpa [mEnt] using congrArg List.length he
  have key : ∀ j e, es.toList[j]? = some e → (seen.contains e.born = true ↔ j ∈ done) := by
    intro j e hj
    have h1 : seen.contains e.born = true ↔ some e.born ∈ seen.toList.map some := by simp
    rw [h1, hs, List.mem_map]
    constructor
    · rintro ⟨i, hi, hb⟩
      obtain ⟨e', he', hbe⟩ := Option.map_eq_some_iff.1 hb
      have hil := (List.getElem?_eq_some_iff.1 he').1
      have hjl := (List.getElem?_eq_some_iff.1 hj).1
      have : i = j := by
        refine (List.getElem_inj (h₀ := by simpa using hil) (h₁ := by simpa using hjl) hn).1 ?_
        simp only [List.getElem_map]
        rw [(List.getElem?_eq_some_iff.1 he').2, (List.getElem?_eq_some_iff.1 hj).2, hbe]
      subst this; exact hi
    · intro hjd
      exact ⟨j, hjd, by rw [hj]; rfl⟩
  constructor
  · intro h0 j hj
    have hje : es.toList[j]? = some (es.toList[j]'(by omega)) := List.getElem?_eq_getElem (by omega)
    refine (key j _ hje).1 ?_
    have hempty : leftOf es seen = #[] := Array.eq_empty_of_size_eq_zero h0
    rw [leftOf, Array.filter_eq_empty_iff] at hempty
    have := hempty (es.toList[j]'(by omega)) (by simp)
    simpa using this
  · intro e hel
    simp only [leftOf, Array.toList_filter, List.mem_filter] at hel
    obtain ⟨j, hj, hje⟩ := List.mem_iff_getElem.1 hel.1
    have hj? : es.toList[j]? = some e := by rw [List.getElem?_eq_getElem hj, hje]
    have hl : (es.toList.map entOf)[j]? = (mEnt l)[j]? := by rw [he]
    rw [List.getElem?_map, hj?] at hl
    simp only [mEnt, List.getElem?_map, Option.map_some] at hl
    cases hlj : l[j]? with
    | none => rw [hlj] at hl; simp at hl
    | some p =>
      obtain ⟨k, v⟩ := p
      rw [hlj] at hl
      simp only [Option.map_some, Option.some.injEq, entOf, Prod.mk.injEq] at hl
      refine ⟨j, k, v, hlj, fun hd => ?_, hj?, hl.1, hl.2⟩
      have := (key j e hj?).2 hd
      simp at hel this
      exact hel.2 this
/-- The iterator's step: over, or one that has not come. -/
theorem nextR {i z : Nat} (x : Operand) (bi mb : Nat) (l : List (Int × Value)) (done : List Nat) (d : Option Tmp) (hg : ∀ rest, goes n c i L rest = true) (hd : (opAt c i).dst = d) (hop : (opAt c i).op = .next x false)
    (hx : ∀ rest, evalL L rest x = .pointer (some ⟨bi, 0, none⟩))
    (h0 : (∀ j, j < l.length → j ∈ done) → RT P n (putL d (.tuple #[.bool false]) L) (rngS bi mb l done :: H) c (i + 1) z Q)
    (h1 : ∀ j k v, l[j]? = some (k, v) → j ∉ done → RT P n (putL d (.tuple #[.bool true, .int .i64 k, v]) L) (rngS bi mb l (done ++ [j]) :: H) c (i + 1) z Q) : RT P n L (rngS bi mb l done :: H) c i (z + 1) Q := by
  have key : Step (ι := { o : Option (Nat × Int × Value) // match o with | none => ∀ j, j < l.length → j ∈ done | some (j, k, v) => l[j]? = some (k, v) ∧ j ∉ done }) P n L (rngS bi mb l done :: H) c i d
      (fun o => match o.1 with | none => .tuple #[.bool false] | some (_, k, v) => .tuple #[.bool true, .int .i64 k, v]) (fun o => match o.1 with | none => rngS bi mb l done :: H | some (j, _, _) => rngS bi mb l (done ++ [j]) :: H) := by
    refine valueS d _ _ hg hd ?_
    intro rest w _ hsat
    obtain ⟨G, ⟨⟨hne, es, ck, seen, hb, hi, hst, he, hs⟩, hF⟩⟩ := hsat.head
    obtain ⟨hl0, hl1⟩ := left_of he hs hst.2.1
    have hex : ∀ r w', (Instr.next (.pointer (some ⟨bi, 0, none⟩)) false (opAt c i).type).run P w = .ok r w' → (execOp (evalL L rest) (opAt c i)).run P w = .ok (.value r) w' := by
      intro r w' hr
      unfold execOp
      simp only [hop, hx rest, Sem.run_bind, Sem.run_map, hr]
      rfl
    rcases next_run (P := P) w (opAt c i).type mb bi ck seen es hb hi hst.1 with ⟨hz, hr⟩ | ⟨e, hel, w1, hw1, hr⟩
    · exact ⟨⟨none, hl0 hz⟩, w, hex _ _ hr, hsat⟩
    · obtain ⟨j, k, v, hlj, hjd, hje, hk, hv⟩ := hl1 e hel
      refine ⟨⟨some (j, k, v), hlj, hjd⟩, _, by rw [hex _ _ hr, hk, hv], ?_⟩
      have hos : w1.os = w.os ∧ w1.tape = w.tape ∧ w1.output = w.output := by rcases hw1 with rfl | rfl <;> exact ⟨rfl, rfl, rfl⟩
      refine hsat.change fun G' hG' => ⟨⟨hos.1, hos.2.1, hos.2.2, by simp, fun b hb' hn' => ?_⟩, G', ⟨⟨hne, es, ck, seen.push e.born, ?_, (heap_set hi).1, hst, he, ?_⟩, hG'.2⟩, fun _ h => .inl h⟩
      · exact (heap_set hi).2 b (fun h => hn' ((hG'.2 b).2 (.inr h)))
      · exact ((heap_set hi).2 mb (fun h => hne h.symm)).trans hb
      · simp only [Array.toList_push, List.map_append, List.map_cons, List.map_nil, hs]
        rw [hje]; rfl
  refine stepR key fun o => ?_
  obtain ⟨o, ho⟩ := o
  cases o with
  | none => exact h0 ho
  | some q => obtain ⟨j, k, v⟩ := q; exact h1 j k v ho.1 ho.2
/-- The round's key and value. -/
theorem entryY {i : Nat} (x : Operand) (bi mb : Nat) (l : List (Int × Value)) (done : List Nat) (j : Nat) (k : Int) (v : Value) (a : Nat) (d : Option Tmp) (hg : ∀ rest, goes n c i L rest = true) (hd : (opAt c i).dst = d) (hop : (opAt c i).op = .entry x)
    (hx : ∀ rest, evalL L rest x = .pointer (some ⟨bi, 0, none⟩)) (ha : H[a]? = some (rngS bi mb l (done ++ [j]))) (hl : l[j]? = some (k, v)) : Yld P n L (fun w => Sat w H) c i d (.tuple #[.int .i64 k, v]) := by
  refine ⟨hg, hd, fun rest w _ hs => ?_⟩
  obtain ⟨G, ⟨⟨hne, es, ck, seen, hb, hi, hst, he, hse⟩, hF⟩⟩ := (hs.pick a ha).head
  have hel : (es.toList.map entOf)[j]? = some (.int .i64 k, v) := by rw [he, mEnt, List.getElem?_map, hl]; rfl
  rw [List.getElem?_map] at hel
  obtain ⟨e, hje, hev⟩ := Option.map_eq_some_iff.1 hel
  simp only [entOf, Prod.mk.injEq] at hev
  have hseen : seen.back? = some e.born := by
    have h1 : (seen.toList.map some).getLast? = some (some e.born) := by
      rw [hse, List.map_append, List.map_cons, List.map_nil, List.getLast?_concat, hje]; rfl
    rw [List.getLast?_map] at h1
    obtain ⟨s, hs1, hs2⟩ := Option.map_eq_some_iff.1 h1
    rw [← Array.getLast?_toList, hs1, Option.some.inj hs2]
  have hf : es.find? (·.born == e.born) = some e := by rw [← Array.find?_toList]; exact find_born e es.toList hst.2.1 (List.mem_of_getElem? hje)
  have hr : (Instr.entry (.pointer (some ⟨bi, 0, none⟩))).run P w = .ok (.tuple #[.int .i64 k, v]) w := by
    simp only [Instr.entry, getObj, Sem.run_bind, Sem.run, hi, hb, Result.andThen, hseen, bne_self_eq_false, Bool.false_eq_true, if_false, hf, hev.1, hev.2]
    rfl
  unfold execOp
  simp only [hop, hx rest, Sem.run_bind, Sem.run_map, hr]
  rfl
theorem mlenY {S : World → Prop} {i : Nat} (t kt et : TypeId) (m : Operand) (mb : Nat) (l : List (Int × Value)) (d : Option Tmp) (hg : ∀ rest, goes n c i L rest = true) (hd : (opAt c i).dst = d) (hop : (opAt c i).op = .call { callee := .builtin .len, args := #[m], argTypes := #[t] })
    (hx : ∀ rest, evalL L rest m = .map (some mb)) (hm : P.underlying t = some (.map kt et)) (hS : ∀ w, S w → ∃ es ck, w.heap[mb]? = some (.map es ck) ∧ es.toList.map entOf = mEnt l) : Yld P n L S c i d (.int .i64 (l.length : Int)) := by
  refine ⟨hg, hd, fun rest w _ hs => ?_⟩
  obtain ⟨es, ck, hb, he⟩ := hS w hs
  have hlen : es.size = l.length := by simpa [mEnt] using congrArg List.length he
  have hr : ∀ ty, (Builtin.len_ #[t] ty #[.map (some mb)]).run P w = .ok (.int .i64 (l.length : Int)) w := fun ty => by
    simp [Builtin.len_, run_underlying hm, Go.MapKept.run_getObj_map hb, goInt, hlen]
  unfold execOp
  simp only [hop, resolve, invoke, builtin, Sem.run_bind, Sem.run_pure, Result.andThen_ok, List.map_toArray, List.map_cons, List.map_nil, hx rest, hr]
/-- A map without a key. -/
def delE (l : List (Int × Value)) (k : Int) : List (Int × Value) := l.eraseP (fun p => p.1 == k)
theorem lkI_erase {k : Int} : ∀ (l : List (Int × Value)) (i : Nat), (match lkI l k i with | some j => i ≤ j ∧ delE l k = l.eraseIdx (j - i) | none => delE l k = l)
  | [], i => by simp [lkI, delE]
  | p :: r, i => by
    have ih := lkI_erase (k := k) r (i + 1)
    simp only [lkI]
    by_cases c : (p.1 == k) = true
    · rw [if_pos c]
      simp [delE, List.eraseP_cons, c]
    · rw [if_neg c]
      have c' : (p.1 == k) = false := by simpa using c
      cases hr : lkI r k (i + 1) with
      | none =>
        rw [hr] at ih
        simp only [delE, List.eraseP_cons, c'] at ih ⊢
        simp [ih]
      | some j =>
        rw [hr] at ih
        simp only [delE, List.eraseP_cons, c'] at ih ⊢
        refine ⟨by omega, ?_⟩
        rw [show j - i = (j - (i + 1)) + 1 by omega, List.eraseIdx_cons_succ]
        simp [ih.2]
theorem map_erase {α β : Type} (f : α → β) : ∀ (l : List α) (i : Nat), (l.eraseIdx i).map f = (l.map f).eraseIdx i
  | [], _ => rfl
  | _ :: _, 0 => rfl
  | x :: l, i + 1 => by simp [map_erase f l i]
/-- An entry goes. -/
theorem delS {i : Nat} (t kt et : TypeId) (m k : Operand) (b : Nat) (kk : Int) (l : List (Int × Value)) (ats : Array TypeId) (hat : ats[0]? = some t) (hg : ∀ rest, goes n c i L rest = true) (hd : (opAt c i).dst = none) (hop : (opAt c i).op = .call { callee := .builtin .delete, args := #[m, k], argTypes := ats })
    (hx : ∀ rest, evalL L rest m = .map (some b)) (hix : ∀ rest, evalL L rest k = .int .i64 kk) (hm : P.underlying t = some (.map kt et)) (hk : P.underlying kt = some (.int .i64)) :
    Step (ι := Unit) P n L (mapS b l :: H) c i none (fun _ => .tuple #[]) (fun _ => mapS b (delE l kk) :: H) := by
  refine valueS (ι := Unit) none (fun _ => .tuple #[]) (fun _ => mapS b (delE l kk) :: H) hg hd ?_
  intro rest w _ hs
  obtain ⟨G, ⟨⟨es, ck, hb, hst, he⟩, hF⟩⟩ := hs.head
  have hf := run_findKey (P := P) (w := w) hk (findNow_int kk es.toList l 0 he)
  have hck : (Instr.checkKey es.isEmpty 10000 kt (.int .i64 kk)).run P w = .ok () w := run_checkKey hk (by simp [IsKey]) _ _
  have hle := lkI_erase (k := kk) l 0
  obtain ⟨es', hr, hst', he'⟩ : ∃ es', (∀ ty, (Builtin.delete_ ats ty #[.map (some b), .int .i64 kk]).run P w = .ok (.tuple #[]) { w with heap := w.heap.setIfInBounds b (.map es' ck) }) ∧ Stamped es' ck ∧ es'.toList.map entOf = mEnt (delE l kk) := by
    have hli : ∀ (l : List (Int × Value)) (i : Nat), (lkI l kk i).isSome = (lkE l kk).isSome := by
      intro l
      induction l with
      | nil => intro i; rfl
      | cons p r ih => intro i; simp only [lkI, lkE]; split; rfl; exact ih _
    have h1 := hli l 0
    cases hj : lkI l kk 0 with
    | none =>
      rw [hj] at hf hle
      refine ⟨es, fun ty => ?_, hst, by simp only at hle; rw [hle]; exact he⟩
      simp [Builtin.delete_, hat, run_underlying hm, Go.MapKept.run_getObj_map hb, hck, hf, run_setObj_map _ hb, Result.andThen]
    | some j =>
      rw [hj] at hf hle h1
      obtain ⟨v, hv⟩ := Option.isSome_iff_exists.1 h1.symm
      rw [hv] at hf
      refine ⟨es.eraseIdxIfInBounds j, fun ty => ?_, stamped_erase hst j, ?_⟩
      · simp [Builtin.delete_, hat, run_underlying hm, Go.MapKept.run_getObj_map hb, hck, hf, run_setObj_map _ hb, Result.andThen]
      · simp only at hle
        rw [hle.2]
        simp only [Nat.sub_zero, mEnt]
        rw [map_erase, show l.map (fun p => (Value.int .i64 p.1, p.2)) = mEnt l from rfl, ← he, ← map_erase]
        congr 1
        simp [Array.eraseIdxIfInBounds]
        split
        · simp
        · rename_i hnl; rw [List.eraseIdx_of_length_le]; simpa using hnl
  refine ⟨(), { w with heap := w.heap.setIfInBounds b (.map es' ck) }, ?_, ?_⟩
  · unfold execOp
    simp only [hop, resolve, invoke, builtin, Sem.run_bind, Sem.run_pure, Result.andThen_ok, List.map_toArray, List.map_cons, List.map_nil, hx rest, hix rest, hr]
  · exact hs.change fun G' hG' => ⟨⟨rfl, rfl, rfl, by simp, fun b' hb' hn' => (heap_set hb).2 b' (fun h => hn' ((hG'.2 b').2 h))⟩, G', ⟨⟨es', ck, (heap_set hb).1, hst', he'⟩, hG'.2⟩, fun _ h => .inl h⟩
end
end Go.Proofs.YtlhjibkkkhgonaaGreatDoor.G
set_option linter.unusedVariables false
set_option linter.unusedSimpArgs false
namespace Go.Proofs.YtlhjibkkkhgonaaGreatDoor
open Go.RowKit G Go.Extern.Stop Go.Stop Go.Extern
theorem isTypeOf (v : Value) (w : World) : (Extern.ReflectliteType.typeOf #[.iface 66 v]).run Tryz.prog w = .ok (.iface 159 (.agg #[typeHandle Tryz.prog 66])) w := by kernel_rfl
theorem isComparable (w : World) : ((Extern.ReflectliteType.method fun t => do Extern.Rtype.noPackHeld "Comparable" t; (fun a => Value.bool a.comparable) <$> typeInfo t) #[.agg #[typeHandle Tryz.prog 66]]).run Tryz.prog w = .ok (.bool true) w := by kernel_rfl
theorem noIsE (v : Value) (xT : TypeId) (w : World) : (Instr.typeAssert (.iface 66 v) xT 161 true).run Tryz.prog w = .ok (.tuple #[.nilIface, .bool false]) w := run_typeAssert_lacksB Tryz.underlying161 (by kernel_rfl) (by kernel_rfl) v xT w
theorem noUnwrapE (v : Value) (xT : TypeId) (w : World) : (Instr.typeAssert (.iface 66 v) xT 164 true).run Tryz.prog w = .ok (.tuple #[.nilIface, .bool false]) w := run_typeAssert_lacksB Tryz.underlying164 (by kernel_rfl) (by kernel_rfl) v xT w
theorem noUnwrapsE (v : Value) (xT : TypeId) (w : World) : (Instr.typeAssert (.iface 66 v) xT 166 true).run Tryz.prog w = .ok (.tuple #[.nilIface, .bool false]) w := run_typeAssert_lacksB Tryz.underlying166 (by kernel_rfl) (by kernel_rfl) v xT w
theorem isMeth (k : Nat) (v : Value) (w : World) : (Go.method (k + 1) 159 v "Comparable").run Tryz.prog w = .ok (198, v) w := by kernel_rfl
set_option maxHeartbeats 1000000 in
set_option maxRecDepth 100000 in
theorem is_errno (a b : Int) (w : World) :
  Calls Tryz.prog 34 #[.iface 66 (.int .i64 a), .iface 66 (.int .i64 b)] w fun e w' => e = .returned (.bool (a == b)) ∧ w' = w := by
 have h8 := @run_callFunc_extern Tryz.prog 73 _ Extern.ReflectliteType.typeOf Tryz.func73 (by kernel_rfl) (by kernel_rfl) (by kernel_rfl) (by kernel_rfl)
 have h32 := @run_callFunc_extern Tryz.prog 198 _ (Extern.ReflectliteType.method fun t => do Extern.Rtype.noPackHeld "Comparable" t; pure (.bool (← typeInfo t).comparable)) Tryz.func198 (by kernel_rfl) (by kernel_rfl) (by kernel_rfl) (by kernel_rfl)
 have tT := isTypeOf
 have cT := isComparable
 obtain ⟨hh, hhe⟩ : ∃ h, h = typeHandle Tryz.prog 66 := ⟨_, rfl⟩
 rw [← hhe] at tT cT
 clear hhe
 have mR := isMeth
 have nE := noIsE
 have uE := noUnwrapE
 have vE := noUnwrapsE
 have heq := Go.Lib.run_eql_iface_int (P := Tryz.prog) (t := 31) (tx := 66) (k := .i64) w a b Tryz.underlying31 (by kernel_rfl) Tryz.underlying66
 go_enter Tryz.func34, Tryz.ntmps34
 go_wp2
 refine wp_loop_rounds 1 ?_
 rw [rounds_succ]
 cases hab : (a == b) with
 | true =>
  go_wp2
  go_ret
  exact ⟨by simp [hab], by simp⟩
 | false =>
  go_wp2
  go_ret
  exact ⟨by simp [hab], by simp⟩
end Go.Proofs.YtlhjibkkkhgonaaGreatDoor
set_option linter.unusedVariables false
set_option linter.unusedSimpArgs false
namespace Go.Proofs.YtlhjibkkkhgonaaGreatDoor
open Go.RowKit G
theorem isErr_walk (H : List SP) (a b : Int) : ∀ w, Sat w H → Calls Tryz.prog 34 #[.iface 66 (vi a), .iface 66 (vi b)] w (Ret (ι := Unit) (fun _ => .bool (a == b)) fun _ => H) := fun w hs =>
 (is_errno a b w).mono fun e w' ⟨he, hw⟩ => ⟨(), he, hw ▸ hs⟩
theorem eqFields_int {P : Program} (w : World) (d : Nat) (xs ys : Array Value) (f : Field) (fs : List Field) (k k' : IntKind) (a b : Int) (hn : (f.name == "_") = false) (hu : P.underlying f.type = some (.int k')) (hp : P.plainKey f.type = true) (hx : xs[f.offset]? = some (.int k a)) (hy : ys[f.offset]? = some (.int k b)) :
  (Op.eqFields (d + 1) xs ys (f :: fs)).run P w = if (a == b) = true then (Op.eqFields (d + 1) xs ys fs).run P w else .ok false w := by
 have hn' : f.name ≠ "_" := by simpa using hn
 rw [Op.eqFields, if_pos hn']
 simp only [Sem.run_bind, run_part_plain w hp hx, run_part_plain w hp hy, Result.andThen_ok, run_equalIn_int w d f.type k k' a b hu]
 cases h : (a == b) <;> simp
theorem SatF.unpick : ∀ {l : List SP} (i : Nat) {P : SP} {w : World} {F : Nat → Prop}, l[i]? = some P → SatF (P :: l.eraseIdx i) w F → SatF l w F
 | [], i, P, w, F, h, _ => by simp at h
 | Q :: l, 0, P, w, F, h, hs => by simp at h; subst h; exact hs
 | Q :: l, i + 1, P, w, F, h, hs => by
  obtain ⟨G, h1, h2, h3⟩ := SatF.swap hs
  exact ⟨G, h1, h2, SatF.unpick i (by simpa using h) h3⟩
theorem same_at {P : Program} {f : FuncId} {vs : Array Value} {v : Value} {X : SP} {H : List SP} (j : Nat) (hj : H[j]? = some X) (h : ∀ w, Sat w (X :: H.eraseIdx j) → Calls P f vs w (Ret (ι := Unit) (fun _ => v) fun _ => X :: H.eraseIdx j)) : ∀ w, Sat w H → Calls P f vs w (Ret (ι := Unit) (fun _ => v) fun _ => H) := fun w hs =>
 (h w (hs.pick j hj)).mono fun e w' ⟨p, he, hx⟩ => ⟨p, he, SatF.unpick j hj hx⟩
theorem SatF.unpickSet : ∀ {l : List SP} (i : Nat) {P Y : SP} {w : World} {F : Nat → Prop}, l[i]? = some P → SatF (Y :: l.eraseIdx i) w F → SatF (l.set i Y) w F
 | [], i, P, Y, w, F, h, _ => by simp at h
 | Q :: l, 0, P, Y, w, F, h, hs => hs
 | Q :: l, i + 1, P, Y, w, F, h, hs => by
  obtain ⟨G, h1, h2, h3⟩ := SatF.swap hs
  exact ⟨G, h1, h2, SatF.unpickSet i (by simpa using h) h3⟩
theorem chg_at {ι : Type} {P : Program} {f : FuncId} {vs : Array Value} {rv : ι → Value} {X : SP} {Y : ι → SP} {H : List SP} (j : Nat) (hj : H[j]? = some X) (h : ∀ w, Sat w (X :: H.eraseIdx j) → Calls P f vs w (Ret rv fun x => Y x :: H.eraseIdx j)) : ∀ w, Sat w H → Calls P f vs w (Ret rv fun x => H.set j (Y x)) := fun w hs =>
 (h w (hs.pick j hj)).mono fun e w' ⟨p, he, hx⟩ => ⟨p, he, SatF.unpickSet j hj hx⟩
theorem put_ok {l' : List (Int × Int)} {room : Int} {l : List (Int × Int)} {p id : Int} (h : putE room l p id = (0, l')) (hsr : SrtE l) (hl : l.length < 1000000) (H : List SP) (b : Nat) : ∀ w, Sat w (idxS b room l :: H) → Calls Tryz.prog 107 #[vp b, vi p, vi id] w (Ret (ι := Unit) (fun _ => .nilIface) fun _ => idxS b room l' :: H) := by
 have := put_idx H b room l p id hsr hl
 rw [h] at this
 exact this
theorem drop_ok {l' : List (Int × Int)} {room : Int} {l : List (Int × Int)} {id : Int} (h : dropE l id = (0, l')) (hl : l.length < 1000000) (H : List SP) (b : Nat) : ∀ w, Sat w (idxS b room l :: H) → Calls Tryz.prog 109 #[vp b, vi id] w (Ret (ι := Unit) (fun _ => .nilIface) fun _ => idxS b room l' :: H) := by
 have := drop_idx H b room l id hl
 rw [h] at this
 exact this
theorem rekey_ok {l' : List (Int × Int)} {room : Int} {l : List (Int × Int)} {id p : Int} (h : rekeyE l id p = (0, l')) (hsr : SrtE l) (hl : l.length < 1000000) (H : List SP) (b : Nat) : ∀ w, Sat w (idxS b room l :: H) → Calls Tryz.prog 117 #[vp b, vi id, vi p] w (Ret (ι := Unit) (fun _ => .nilIface) fun _ => idxS b room l' :: H) := by
 have := rekey_idx H b room l id p hsr hl
 rw [h] at this
 exact this
theorem shift_is {l' : List (Int × Int)} {room : Int} {l : List (Int × Int)} {n : Int} (h : shiftE l n = l') (hsr : SrtE l') (hl : l.length ≤ 64) (H : List SP) (b : Nat) : ∀ w, Sat w (idxS b room l :: H) → Calls Tryz.prog 118 #[vp b, vi n] w (Ret (ι := Unit) (fun _ => .tuple #[]) fun _ => idxS b room l' :: H) := by
 have := shift_idx H b room l n hl (by rw [h]; exact hsr)
 rw [h] at this
 exact this
end Go.Proofs.YtlhjibkkkhgonaaGreatDoor
set_option linter.unusedVariables false
set_option linter.unusedSimpArgs false
namespace Go.Proofs.YtlhjibkkkhgonaaGreatDoor
open Go.RowKit G
/-! ## the nodes -/
structure Nr where
  id : Int
  par : Int
  wt : Int
  pass : Int
  thr : Bool
  rdy : Bool
  now : Int
structure Nd where
  n : Nr
  q : List (Int × Int)
  b : Nat
  ib : Nat
def gt (N : List Nr) (k : Int) : Option Nr := N.find? (fun x => x.id == k)
def upN (N : List Nr) (k : Int) (f : Nr → Nr) : List Nr := N.map (fun x => if x.id == k then f x else x)
def kidR (N : List Nr) (k : Int) : List Nr := N.filter (fun x => x.par == k && x.rdy)
def isW (w : Int) : Bool := decide (w ≥ 1) && decide (w ≤ 16)
def strd (w : Int) : Int := if isW w then (720720 : Int).tdiv w else 0
def scaleN (pass now from_ to : Int) : Int := if pass ≤ now ∨ strd from_ = 0 then pass else now + ((pass - now) * strd to).tdiv (strd from_)
def deepN : Nat → List Nr → Int → Nat
  | 0, _, _ => 0
  | f + 1, N, k => match gt N k with
    | none => 0
    | some x => deepN f N x.par + 1
def wakeN : Nat → List Nr → Int → List Nr
  | 0, N, _ => N
  | f + 1, N, k => match gt N k with
    | none => N
    | some x => if x.rdy then N else match gt N x.par with
      | none => upN N k (fun x => { x with rdy := true })
      | some p => wakeN f (upN N k (fun x => { x with rdy := true, pass := mxI x.pass p.now })) x.par
def restN : Nat → List Nr → Int → List Nr
  | 0, N, _ => N
  | f + 1, N, k => match gt N k with
    | none => N
    | some x => if x.rdy = false ∨ kidR N k ≠ [] then N else match gt N x.par with
      | none => upN N k (fun x => { x with rdy := false })
      | some p => restN f (upN N k (fun x => { x with rdy := false })) x.par
def addN (N : List Nr) (par id wt : Int) (thr : Bool) : Int × List Nr :=
  if isW wt = false ∨ id < 1 then (10, N) else match gt N par with
    | none => (13, N)
    | some p => if p.thr then (13, N) else if (gt N id).isSome then (20, N) else if thr = false ∧ 4 ≤ deepN 6 N par then (12, N) else if 60 ≤ N.length then (14, N)
      else (0, N ++ [{ id, par, wt, pass := p.now, thr, rdy := false, now := 0 }])
def removeN (N : List Nr) (k : Int) : Int × List Nr :=
  if (gt N k).isNone ∨ k = 0 then (13, N) else if N.any (fun x => x.par == k) then (10, N) else (0, (restN 6 N k).filter (fun x => !(x.id == k)))
def readyN (N : List Nr) (k : Int) (r : Bool) : Int × List Nr :=
  match gt N k with
  | none => (13, N)
  | some x => if x.thr then (0, if r then wakeN 6 N k else restN 6 N k) else (13, N)
def weightN (N : List Nr) (k wt : Int) : Int × List Nr :=
  if isW wt = false then (10, N) else match gt N k with
    | none => (13, N)
    | some x => if k = 0 then (13, N) else match gt N x.par with
      | none => (13, N)
      | some p => (0, upN N k (fun x => { x with pass := scaleN x.pass p.now x.wt wt, wt := wt }))
def lessN (a b : Nr) : Bool := decide (a.pass < b.pass) || (decide (a.pass = b.pass) && decide (a.id < b.id))
def least : List Nr → Option Nr
  | [] => none
  | x :: r => match least r with
    | none => some x
    | some y => if lessN y x then some y else some x
def shiftN (N : List Nr) (k : Int) : List Nr :=
  match gt N k with
  | none => N
  | some g => if g.now ≤ 16777216 then N else upN (N.map (fun x => if x.par == k then { x with pass := mxI 0 (x.pass - g.now) } else x)) k (fun x => { x with now := 0 })
def downN : Nat → List Nr → Int → List Int → Int × List Nr
  | 0, N, k, _ => (k, N)
  | f + 1, N, k, way => match least (kidR N k) with
    | none => (k, way.foldl shiftN N)
    | some y => downN f (upN (upN N k (fun x => { x with now := y.pass })) y.id (fun x => { x with pass := y.pass + strd y.wt })) y.id (way ++ [k])
def runN (N : List Nr) : (Int × Bool) × List Nr :=
  match gt N 0 with
  | none => ((0, false), N)
  | some r => if r.rdy then (let z := downN 6 N 0 []; ((z.1, true), z.2)) else ((0, false), N)
/-! ## what holds of them -/
/-- The skeleton: who is whose, how deep. -/
structure SK (N : List Nr) : Prop where
  nd : (N.map (·.id)).Nodup
  root : ∃ r ∈ N, r.id = 0
  rt : ∀ x ∈ N, x.id = 0 → x.par = -1 ∧ x.thr = false
  pa : ∀ x ∈ N, x.id ≠ 0 → 1 ≤ x.id ∧ ∃ p ∈ N, p.id = x.par ∧ p.thr = false
  len : N.length ≤ 60
  rk : ∃ rk : Int → Nat, ∀ x ∈ N, (x.id = 0 → rk x.id = 1) ∧ (x.id ≠ 0 → rk x.id = rk x.par + 1) ∧ rk x.id ≤ 5 ∧ (x.thr = false → rk x.id ≤ 4)
/-- Passes and nows lie where they may. -/
structure LB (N : List Nr) : Prop where
  wt : ∀ x ∈ N, isW x.wt = true
  pass : ∀ x ∈ N, 0 ≤ x.pass ∧ x.pass ≤ 1099511627776
  now : ∀ x ∈ N, 0 ≤ x.now ∧ x.now ≤ 1099511627776
/-- Of the rest: passes lie from their group's now on, by at most their stride; a group is ready as something in it is. -/
structure WFN (N : List Nr) : Prop where
  sk : SK N
  wt : ∀ x ∈ N, isW x.wt = true
  now : ∀ x ∈ N, 0 ≤ x.now ∧ x.now ≤ 16777216
  pass : ∀ x ∈ N, 0 ≤ x.pass ∧ x.pass ≤ 16777216 + 1441440
  pn : ∀ x ∈ N, ∀ p ∈ N, p.id = x.par → x.pass ≤ p.now + strd x.wt ∧ (x.rdy = true → p.now ≤ x.pass)
  rd : ∀ x ∈ N, x.thr = false → (x.rdy = true ↔ ∃ y ∈ N, y.par = x.id ∧ y.rdy = true)
/-- The nodes in memory: each one's index holds what is ready in it. -/
structure OkT (N : List Nr) (T : List Nd) : Prop where
  n : T.map (·.n) = N
  srt : ∀ x ∈ T, SrtE x.q
  mem : ∀ x ∈ T, ∀ p k, (p, k) ∈ x.q ↔ ∃ y ∈ N, y.par = x.n.id ∧ y.rdy = true ∧ y.pass = p ∧ y.id = k
theorem WFN.lb {N : List Nr} (h : WFN N) : LB N := ⟨h.wt, fun x hx => ⟨(h.pass x hx).1, by have := (h.pass x hx).2; omega⟩, fun x hx => ⟨(h.now x hx).1, by have := (h.now x hx).2; omega⟩⟩
theorem w64 {n : Int} (h0 : -9223372036854775808 ≤ n) (h1 : n ≤ 9223372036854775807) : IntKind.i64.wrap n = n := by rw [IntKind.wrap_i64]; omega
theorem isW_cases {w : Int} (h : isW w = true) : 1 ≤ w ∧ w ≤ 16 := by simpa [isW] using h
theorem strd_pos {w : Int} (h : isW w = true) : 0 < strd w ∧ strd w ≤ 720720 := by
  obtain ⟨h1, h2⟩ := isW_cases h
  have : w = 1 ∨ w = 2 ∨ w = 3 ∨ w = 4 ∨ w = 5 ∨ w = 6 ∨ w = 7 ∨ w = 8 ∨ w = 9 ∨ w = 10 ∨ w = 11 ∨ w = 12 ∨ w = 13 ∨ w = 14 ∨ w = 15 ∨ w = 16 := by omega
  rcases this with rfl | rfl | rfl | rfl | rfl | rfl | rfl | rfl | rfl | rfl | rfl | rfl | rfl | rfl | rfl | rfl <;> decide
theorem tdiv_le {a b : Int} (ha : 0 ≤ a) (hb : 0 < b) : 0 ≤ a.tdiv b ∧ a.tdiv b ≤ a := by
  rw [Int.tdiv_eq_ediv_of_nonneg ha]
  exact ⟨Int.ediv_nonneg ha (Int.le_of_lt hb), Int.ediv_le_self b ha⟩
theorem gt_mem {N : List Nr} {k : Int} {x : Nr} (h : gt N k = some x) : x ∈ N ∧ x.id = k := ⟨List.mem_of_find?_eq_some h, by simpa using List.find?_some h⟩
theorem gt_none {N : List Nr} {k : Int} : gt N k = none ↔ ∀ x ∈ N, x.id ≠ k := by simp [gt, List.find?_eq_none]
theorem nd_eq {N : List Nr} (h : (N.map (·.id)).Nodup) {x y : Nr} (hx : x ∈ N) (hy : y ∈ N) (he : x.id = y.id) : x = y := by
  induction N with
  | nil => cases hx
  | cons a N ih =>
    simp only [List.map_cons, List.nodup_cons, List.mem_map, not_exists, not_and] at h
    rcases List.mem_cons.1 hx with e1 | h1 <;> rcases List.mem_cons.1 hy with e2 | h2
    · rw [e1, e2]
    · subst e1; exact absurd he.symm (h.1 y h2)
    · subst e2; exact absurd he (h.1 x h1)
    · exact ih h.2 h1 h2
theorem gt_of {N : List Nr} (h : (N.map (·.id)).Nodup) {x : Nr} (hx : x ∈ N) : gt N x.id = some x := by
  cases hg : gt N x.id with
  | none => exact absurd rfl (gt_none.1 hg x hx)
  | some y => obtain ⟨h1, h2⟩ := gt_mem hg; rw [nd_eq h h1 hx h2]
/-! ### a change of one node -/
theorem upN_id {N : List Nr} {k : Int} {f : Nr → Nr} (hf : ∀ x, (f x).id = x.id) : (upN N k f).map (·.id) = N.map (·.id) := by
  simp only [upN, List.map_map]
  refine List.map_congr_left fun x _ => ?_
  simp only [Function.comp]
  split <;> simp [hf]
theorem mem_upN {N : List Nr} {k : Int} {f : Nr → Nr} {y : Nr} : y ∈ upN N k f ↔ ∃ x ∈ N, (x.id = k ∧ y = f x) ∨ (x.id ≠ k ∧ y = x) := by
  simp only [upN, List.mem_map]
  constructor
  · rintro ⟨x, hx, rfl⟩
    refine ⟨x, hx, ?_⟩
    by_cases h : x.id = k
    · simp [h]
    · simp [h]
  · rintro ⟨x, hx, ⟨h, rfl⟩ | ⟨h, rfl⟩⟩
    · exact ⟨x, hx, by simp [h]⟩
    · exact ⟨y, hx, by simp [h]⟩
theorem gt_upN {N : List Nr} {k j : Int} {f : Nr → Nr} (hf : ∀ x, (f x).id = x.id) : gt (upN N k f) j = if j = k then (gt N j).map f else gt N j := by
  induction N with
  | nil => simp [gt, upN]
  | cons a N ih =>
    have e1 : gt (upN (a :: N) k f) j = if (if a.id == k then f a else a).id == j then some (if a.id == k then f a else a) else gt (upN N k f) j := by
      simp only [gt, upN, List.map_cons, List.find?_cons]
      split <;> simp_all
    have e2 : gt (a :: N) j = if a.id == j then some a else gt N j := by
      simp only [gt, List.find?_cons]; split <;> simp_all
    rw [e1, e2, ih]
    by_cases h1 : a.id = k
    · subst h1
      simp only [beq_self_eq_true, if_true, hf]
      by_cases h2 : a.id = j
      · subst h2; simp
      · have h2' : (a.id == j) = false := by simpa using h2
        have h3 : ¬ j = a.id := fun h => h2 h.symm
        simp [h2', h3]
    · have h1' : (a.id == k) = false := by simpa using h1
      simp only [h1', Bool.false_eq_true, if_false]
      by_cases h2 : a.id = j
      · subst h2; simp [h1]
      · have h2' : (a.id == j) = false := by simpa using h2
        simp [h2']
/-- What a change of one node leaves of the skeleton. -/
structure Skel (f : Nr → Nr) : Prop where
  id : ∀ x, (f x).id = x.id
  par : ∀ x, (f x).par = x.par
  thr : ∀ x, (f x).thr = x.thr
theorem SK.map {N : List Nr} (h : SK N) (f : Nr → Nr) (hf : Skel f) : SK (N.map f) := by
  have hi : (N.map f).map (·.id) = N.map (·.id) := by simp [List.map_map, Function.comp_def, hf.id]
  refine ⟨hi ▸ h.nd, ?_, ?_, ?_, by simpa using h.len, ?_⟩
  · obtain ⟨r, hr, h0⟩ := h.root; exact ⟨f r, List.mem_map.2 ⟨r, hr, rfl⟩, by rw [hf.id, h0]⟩
  · intro x hx h0; obtain ⟨y, hy, rfl⟩ := List.mem_map.1 hx; rw [hf.par, hf.thr]; exact h.rt y hy (by rw [← hf.id]; exact h0)
  · intro x hx h0
    obtain ⟨y, hy, rfl⟩ := List.mem_map.1 hx
    rw [hf.id] at h0 ⊢
    obtain ⟨h1, p, hp, h2, h3⟩ := h.pa y hy h0
    exact ⟨h1, f p, List.mem_map.2 ⟨p, hp, rfl⟩, by rw [hf.id, hf.par, h2], by rw [hf.thr, h3]⟩
  · obtain ⟨rk, hk⟩ := h.rk
    refine ⟨rk, fun x hx => ?_⟩
    obtain ⟨y, hy, rfl⟩ := List.mem_map.1 hx
    rw [hf.id, hf.par, hf.thr]; exact hk y hy
theorem skel_ite {k : Int} {f : Nr → Nr} (hf : Skel f) : Skel (fun x => if x.id == k then f x else x) := ⟨fun x => by split; exact hf.id x; rfl, fun x => by split; exact hf.par x; rfl, fun x => by split; exact hf.thr x; rfl⟩
theorem SK.upN {N : List Nr} (h : SK N) {k : Int} {f : Nr → Nr} (hf : Skel f) : SK (upN N k f) := h.map _ (skel_ite hf)
/-! ### in memory -/
def ndc (x : Nd) : List Value := [.int .i64 x.n.id, .int .i64 x.n.par, .int .i64 x.n.wt, .int .i64 x.n.pass, .bool x.n.thr, .bool x.n.rdy, .int .i64 x.n.now, .pointer (some ⟨x.ib, 0, none⟩)]
def ndS (x : Nd) : SP := blk x.b 109 (ndc x)
def nodesL : List Nd → List SP
  | [] => []
  | x :: T => ndS x :: idxS x.ib 60 x.q :: nodesL T
def kp (x : Nd) : Int × Value := (x.n.id, .pointer (some ⟨x.b, 0, none⟩))
theorem SatF.perm {l l' : List SP} (h : l.Perm l') : ∀ {w : World} {F : Nat → Prop}, SatF l w F → SatF l' w F := by
  induction h with
  | nil => intro w F h; exact h
  | cons x _ ih => intro w F ⟨G, h1, h2, h3⟩; exact ⟨G, h1, h2, ih h3⟩
  | swap x y l => intro w F h; exact SatF.swap h
  | trans _ _ ih1 ih2 => intro w F h; exact ih2 (ih1 h)
theorem Sat.perm {l l' : List SP} (h : l.Perm l') {w : World} (hs : Sat w l) : Sat w l' := SatF.perm h hs
theorem nodesL_perm {T T' : List Nd} (h : T.Perm T') : (nodesL T).Perm (nodesL T') := by
  induction h with
  | nil => exact .refl _
  | cons x _ ih => exact (ih.cons _).cons _
  | swap x y l =>
    simp only [nodesL]
    have e : ∀ (a b c d : SP) (l : List SP), (a :: b :: c :: d :: l).Perm (c :: d :: a :: b :: l) := fun a b c d l => by
      have := (List.perm_append_comm (l₁ := [a, b]) (l₂ := [c, d])).append_right l
      simpa using this
    exact e _ _ _ _ _
  | trans _ _ ih1 ih2 => exact ih1.trans ih2
theorem nodesL_mem {T : List Nd} {x : Nd} (h : x ∈ T) : ndS x ∈ nodesL T := by
  induction T with
  | nil => cases h
  | cons a T ih =>
    rcases List.mem_cons.1 h with rfl | h
    · exact .head _
    · exact .tail _ (.tail _ (ih h))
/-- A node's cells. -/
theorem nodeAt {T : List Nd} {H : List SP} {x : Nd} (hx : x ∈ T) {j : Nat} {v : Value} (hj : (ndc x)[j]? = some v) : ∀ w, Sat w (nodesL T ++ H) → w.cell? ⟨x.b, j, none⟩ = some v := by
  intro w hs
  obtain ⟨i, hi⟩ := List.mem_iff_getElem?.1 (List.mem_append_left H (nodesL_mem hx))
  exact blkAt (b := x.b) (T := 109) (cs := ndc x) i hi hj w hs
theorem perm1 {T : List Nd} {i : Nat} {x : Nd} (h : T[i]? = some x) : ∃ R, T.Perm (x :: R) ∧ ∀ x', (T.set i x').Perm (x' :: R) := by
  induction T generalizing i with
  | nil => simp at h
  | cons a T ih =>
    cases i with
    | zero => simp at h; subst h; exact ⟨T, .refl _, fun _ => .refl _⟩
    | succ i =>
      obtain ⟨R, h1, h2⟩ := ih (by simpa using h)
      exact ⟨a :: R, (h1.cons a).trans (.swap _ _ _), fun x' => by simpa using ((h2 x').cons a).trans (.swap _ _ _)⟩
theorem perm2 {T : List Nd} {i j : Nat} {x p : Nd} (hi : T[i]? = some x) (hj : T[j]? = some p) (hn : i ≠ j) : ∃ R, T.Perm (x :: p :: R) ∧ ∀ x' p', ((T.set i x').set j p').Perm (x' :: p' :: R) := by
  induction T generalizing i j with
  | nil => simp at hi
  | cons a T ih =>
    cases i with
    | zero =>
      cases j with
      | zero => exact absurd rfl hn
      | succ j =>
        simp at hi; subst hi
        obtain ⟨R, h1, h2⟩ := perm1 (T := T) (i := j) (x := p) (by simpa using hj)
        exact ⟨R, h1.cons _, fun x' p' => by simpa using (h2 p').cons x'⟩
    | succ i =>
      cases j with
      | zero =>
        simp at hj; subst hj
        obtain ⟨R, h1, h2⟩ := perm1 (T := T) (i := i) (x := x) (by simpa using hi)
        exact ⟨R, (h1.cons _).trans (.swap _ _ _), fun x' p' => by simpa using ((h2 x').cons p').trans (.swap _ _ _)⟩
      | succ j =>
        obtain ⟨R, h1, h2⟩ := ih (i := i) (j := j) (by simpa using hi) (by simpa using hj) (by omega)
        have e : ∀ (a b c : Nd) (l : List Nd), (a :: b :: c :: l).Perm (b :: c :: a :: l) := fun a b c l => (List.Perm.swap b a (c :: l)).trans ((List.Perm.swap c a l).cons b)
        exact ⟨a :: R, (h1.cons a).trans (e _ _ _ _), fun x' p' => by simpa using ((h2 x' p').cons a).trans (e _ _ _ _)⟩
end Go.Proofs.YtlhjibkkkhgonaaGreatDoor
set_option linter.unusedVariables false
set_option linter.unusedSimpArgs false
namespace Go.Proofs.YtlhjibkkkhgonaaGreatDoor
open Go.RowKit G
theorem find_no {l : List (Int × Int)} {id : Int} (h : ∀ e ∈ l, e.2 ≠ id) : findI l id = -1 := by
  rcases findI_cases l id with ⟨h1, _⟩ | ⟨i, e, _, he, hid, _⟩
  · exact h1
  · exact absurd hid (h e (List.mem_of_getElem? he))
theorem mem_insE {e : Int × Int} : ∀ {l : List (Int × Int)} {x : Int × Int}, x ∈ insE e l ↔ x = e ∨ x ∈ l
  | [], x => by simp [insE]
  | y :: r, x => by
    unfold insE
    split
    · rw [List.mem_cons, mem_insE, List.mem_cons]
      constructor
      · rintro (h | h | h)
        · exact .inr (.inl h)
        · exact .inl h
        · exact .inr (.inr h)
      · rintro (h | h | h)
        · exact .inr (.inl h)
        · exact .inl h
        · exact .inr (.inr h)
    · simp
theorem insE_len (e : Int × Int) : ∀ (l : List (Int × Int)), (insE e l).length = l.length + 1
  | [] => rfl
  | y :: r => by
    unfold insE
    split
    · simp [insE_len e r]
    · simp
theorem SrtE.ins {e : Int × Int} : ∀ {l : List (Int × Int)}, SrtE l → (∀ x ∈ l, x ≠ e) → SrtE (insE e l)
  | [], _, _ => by simp [insE, SrtE]
  | y :: r, h, hn => by
    have h' := List.pairwise_cons.1 h
    unfold insE
    split
    · rename_i hlt
      refine List.pairwise_cons.2 ⟨fun z hz => ?_, SrtE.ins (l := r) h'.2 (fun x hx => hn x (by simp [hx]))⟩
      rcases mem_insE.1 hz with rfl | hz
      · exact hlt
      · exact h'.1 z hz
    · rename_i hlt
      have hey : eLt e y := by
        rcases eLt_total hlt with h | h
        · exact absurd h (hn y (by simp))
        · exact h
      refine List.pairwise_cons.2 ⟨fun z hz => ?_, h⟩
      rcases List.mem_cons.1 hz with rfl | hz
      · exact hey
      · exact eLt_trans hey (h'.1 z hz)
theorem findI_no {l : List (Int × Int)} {id : Int} (h : ∀ e ∈ l, e.2 ≠ id) : ¬ findI l id ≥ 0 := by rw [find_no h]; decide
theorem findI_yes {l : List (Int × Int)} {id : Int} {e : Int × Int} (he : e ∈ l) (h : e.2 = id) : findI l id ≥ 0 := by
  rcases findI_cases l id with ⟨_, hn⟩ | ⟨i, _, hi, _⟩
  · exact absurd h (hn e he)
  · omega
/-- An entry is put. -/
theorem putE_ok {room : Int} {l : List (Int × Int)} {p id : Int} (hp : 0 ≤ p ∧ p ≤ 1099511627776) (hid : 0 ≤ id) (hn : ∀ e ∈ l, e.2 ≠ id) (hr : (l.length : Int) < room) : putE room l p id = (0, insE (p, id) l) := by
  have h1 : isPassB p = true := by simp only [isPassB, Bool.and_eq_true, decide_eq_true_eq]; omega
  rw [putE, if_neg (by rw [h1]; simp; omega), if_neg (findI_no hn), if_neg (by omega)]

theorem dropE_is {l : List (Int × Int)} {id : Int} {e : Int × Int} (hs : SrtE l) (he : e ∈ l) (h : e.2 = id) (hu : ∀ e' ∈ l, e'.2 = id → e' = e) : ∃ l', dropE l id = (0, l') ∧ SrtE l' ∧ l'.length + 1 = l.length ∧ ∀ x, x ∈ l' ↔ x ∈ l ∧ x.2 ≠ id := by
  rcases findI_cases l id with ⟨_, hn⟩ | ⟨i, e', hi, hie, hid, _⟩
  · exact absurd h (hn e he)
  · have hil := (List.getElem?_eq_some_iff.1 hie).1
    obtain rfl := hu e' (List.mem_of_getElem? hie) hid
    refine ⟨l.eraseIdx i, ?_, hs.sublist (List.eraseIdx_sublist _ _), by rw [List.length_eraseIdx_of_lt hil]; omega, fun x => ?_⟩
    · rw [dropE, if_neg (by omega), hi, Int.toNat_natCast, List.eraseIdx_eq_take_drop_succ]
    · rw [List.mem_eraseIdx_iff_getElem?]
      constructor
      · rintro ⟨v, hv, hx⟩
        refine ⟨List.mem_of_getElem? hx, fun hxi => ?_⟩
        have hxe := hu x (List.mem_of_getElem? hx) hxi
        subst hxe
        rcases Nat.lt_trichotomy v i with c | c | c
        · exact absurd (hs.at hx hie c) (eLt_irrefl _)
        · exact hv c
        · exact absurd (hs.at hie hx c) (eLt_irrefl _)
      · rintro ⟨hx, hxi⟩
        obtain ⟨v, hv⟩ := List.mem_iff_getElem?.1 hx
        refine ⟨v, fun c => ?_, hv⟩
        subst c
        rw [hie] at hv
        cases hv
        exact hxi hid
theorem rekeyE_is {l : List (Int × Int)} {id p : Int} {e : Int × Int} (hs : SrtE l) (he : e ∈ l) (h : e.2 = id) (hu : ∀ e' ∈ l, e'.2 = id → e' = e) (hp : 0 ≤ p ∧ p ≤ 1099511627776) :
    ∃ l', rekeyE l id p = (0, l') ∧ SrtE l' ∧ l'.length = l.length ∧ ∀ x, x ∈ l' ↔ x = (p, id) ∨ (x ∈ l ∧ x.2 ≠ id) := by
  obtain ⟨l', h1, h2, h3, h4⟩ := dropE_is hs he h hu
  have h0 : ¬ findI l id < 0 := by have := findI_yes he h; omega
  rw [dropE, if_neg h0, Prod.mk.injEq] at h1
  have hpb : isPassB p = true := by simp only [isPassB, Bool.and_eq_true, decide_eq_true_eq]; omega
  refine ⟨insE (p, id) l', by rw [rekeyE, if_neg (by simp [hpb]), if_neg h0, h1.2], h2.ins fun x hx hxe => ?_, by rw [insE_len]; exact h3, fun x => by rw [mem_insE, h4]⟩
  subst hxe
  exact ((h4 _).1 hx).2 rfl
/-! ## what is ready in a group -/
def KD (N : List Nr) (g p k : Int) : Prop := ∃ y ∈ N, y.par = g ∧ y.rdy = true ∧ y.pass = p ∧ y.id = k
theorem KD_up {N : List Nr} (hn : (N.map (·.id)).Nodup) {x : Nr} (hx : x ∈ N) {f : Nr → Nr} (hf : Skel f) {g p j : Int} : KD (upN N x.id f) g p j ↔ (j ≠ x.id ∧ KD N g p j) ∨ (j = x.id ∧ x.par = g ∧ (f x).rdy = true ∧ (f x).pass = p) := by
  constructor
  · rintro ⟨y, hy, h1, h2, h3, h4⟩
    obtain ⟨z, hz, ⟨e1, rfl⟩ | ⟨e1, rfl⟩⟩ := mem_upN.1 hy
    · have := nd_eq hn hz hx e1; subst this
      rw [hf.id] at h4; rw [hf.par] at h1
      exact .inr ⟨h4.symm, h1, h2, h3⟩
    · exact .inl ⟨fun h => e1 (by rw [h4, h]), y, hz, h1, h2, h3, h4⟩
  · rintro (⟨h1, y, hy, h2, h3, h4, h5⟩ | ⟨h1, h2, h3, h4⟩)
    · exact ⟨y, mem_upN.2 ⟨y, hy, .inr ⟨fun h => h1 (by rw [← h5, h]), rfl⟩⟩, h2, h3, h4, h5⟩
    · exact ⟨f x, mem_upN.2 ⟨x, hx, .inl ⟨rfl, rfl⟩⟩, by rw [hf.par, h2], h3, h4, by rw [hf.id, h1]⟩
theorem KD_one {N : List Nr} (hn : (N.map (·.id)).Nodup) {x : Nr} (hx : x ∈ N) {g p : Int} : KD N g p x.id ↔ x.par = g ∧ x.rdy = true ∧ x.pass = p := by
  constructor
  · rintro ⟨y, hy, h1, h2, h3, h4⟩
    have := nd_eq hn hy hx h4; subst this
    exact ⟨h1, h2, h3⟩
  · rintro ⟨h1, h2, h3⟩
    exact ⟨x, hx, h1, h2, h3, rfl⟩
/-- A change of a node tells nothing to a group that isn't its own, or of which it says the same. -/
theorem KD_same {N : List Nr} (hn : (N.map (·.id)).Nodup) {x : Nr} (hx : x ∈ N) {f : Nr → Nr} (hf : Skel f) {g p j : Int} (h : x.par ≠ g ∨ ((f x).rdy = x.rdy ∧ ((f x).pass = x.pass ∨ x.rdy = false))) : KD (upN N x.id f) g p j ↔ KD N g p j := by
  rw [KD_up hn hx hf]
  by_cases c : j = x.id
  · subst c
    rw [KD_one hn hx]
    rcases h with h | ⟨h1, h2⟩
    · simp [h]
    · rw [h1]
      rcases h2 with h2 | h2
      · rw [h2]; simp
      · simp [h2]
  · simp [c]
theorem KD_uni {N : List Nr} (hn : (N.map (·.id)).Nodup) {g p p' k : Int} (h : KD N g p k) (h' : KD N g p' k) : p = p' := by
  obtain ⟨y, hy, _, _, h3, h4⟩ := h
  rw [← h4, KD_one hn hy] at h'
  rw [← h3, h'.2.2]
theorem kidR_ne {N : List Nr} {g : Int} : kidR N g ≠ [] ↔ ∃ p k, KD N g p k := by
  constructor
  · intro hne
    obtain ⟨y, hy⟩ := List.exists_mem_of_ne_nil _ hne
    simp only [kidR, List.mem_filter, Bool.and_eq_true, beq_iff_eq] at hy
    exact ⟨y.pass, y.id, y, hy.1, hy.2.1, hy.2.2, rfl, rfl⟩
  · rintro ⟨p, k, y, hy, h1, h2, _⟩
    exact List.ne_nil_of_mem (a := y) (by simp only [kidR, List.mem_filter, Bool.and_eq_true, beq_iff_eq]; exact ⟨hy, h1, h2⟩)
/-! ## the nodes in memory, when one changes -/
/-- The same nodes at the same places. -/
def SameT (T T' : List Nd) : Prop := T'.map (fun x => (x.n.id, x.b, x.ib)) = T.map (fun x => (x.n.id, x.b, x.ib))
theorem SameT.refl (T : List Nd) : SameT T T := Eq.refl _
theorem SameT.trans {A B C : List Nd} (h : SameT A B) (g : SameT B C) : SameT A C := Eq.trans g h
theorem SameT.kp {T T' : List Nd} (h : SameT T T') : T'.map kp = T.map kp := by
  have := congrArg (List.map (fun (z : Int × Nat × Nat) => ((z.1, Value.pointer (some ⟨z.2.1, 0, none⟩)) : Int × Value))) h
  rw [List.map_map, List.map_map] at this
  exact this
theorem SameT.at {T T' : List Nd} (h : SameT T T') {i : Nat} {x : Nd} (hi : T[i]? = some x) : ∃ x', T'[i]? = some x' ∧ x'.n.id = x.n.id ∧ x'.b = x.b ∧ x'.ib = x.ib := by
  have := congrArg (fun l => l[i]?) h
  simp only [List.getElem?_map, hi, Option.map_some] at this
  obtain ⟨x', h1, h2⟩ := Option.map_eq_some_iff.1 this
  simp only [Prod.mk.injEq] at h2
  exact ⟨x', h1, h2.1, h2.2.1, h2.2.2⟩
theorem SameT.set {T : List Nd} {i : Nat} {x x' : Nd} (hi : T[i]? = some x) (h : x'.n.id = x.n.id ∧ x'.b = x.b ∧ x'.ib = x.ib) : SameT T (T.set i x') := by
  unfold SameT
  apply List.ext_getElem?
  intro j
  simp only [List.getElem?_map, List.getElem?_set]
  split
  · rename_i e; subst e
    obtain ⟨hil, rfl⟩ := List.getElem?_eq_some_iff.1 hi
    simp [hil, h.1, h.2.1, h.2.2]
  · rfl
theorem OkT.mem_n {N : List Nr} {T : List Nd} (h : OkT N T) {x : Nd} (hx : x ∈ T) : x.n ∈ N := h.n ▸ List.mem_map.2 ⟨x, hx, rfl⟩
theorem OkT.of_n {N : List Nr} {T : List Nd} (h : OkT N T) {y : Nr} (hy : y ∈ N) : ∃ (i : Nat) (x : Nd), T[i]? = some x ∧ x.n = y := by
  rw [← h.n] at hy
  obtain ⟨x, hx, rfl⟩ := List.mem_map.1 hy
  obtain ⟨i, hi⟩ := List.mem_iff_getElem?.1 hx
  exact ⟨i, x, hi, rfl⟩
theorem OkT.len {N : List Nr} {T : List Nd} (h : OkT N T) : T.length = N.length := by rw [← h.n, List.length_map]
theorem OkT.ix {N : List Nr} {T : List Nd} (h : OkT N T) (hn : (N.map (·.id)).Nodup) {i j : Nat} {x y : Nd} (hi : T[i]? = some x) (hj : T[j]? = some y) (he : x.n.id = y.n.id) : i = j := by
  have hN : N.map (·.id) = T.map (fun x : Nd => x.n.id) := by rw [← h.n]; simp [List.map_map, Function.comp_def]
  rw [hN] at hn
  obtain ⟨hil, rfl⟩ := List.getElem?_eq_some_iff.1 hi
  obtain ⟨hjl, rfl⟩ := List.getElem?_eq_some_iff.1 hj
  exact (List.getElem_inj (h₀ := by simpa using hil) (h₁ := by simpa using hjl) hn).1 (by simpa using he)
theorem OkT.at {N : List Nr} {T : List Nd} (h : OkT N T) (hn : (N.map (·.id)).Nodup) {i : Nat} {x : Nd} (hi : T[i]? = some x) : gt N x.n.id = some x.n := gt_of hn (h.mem_n (List.mem_of_getElem? hi))
/-- One that is told by its number. -/
theorem OkT.get {N : List Nr} {T : List Nd} (h : OkT N T) {k : Int} {y : Nr} (hg : gt N k = some y) : ∃ (i : Nat) (x : Nd), T[i]? = some x ∧ x.n = y ∧ x.n.id = k := by
  obtain ⟨h1, h2⟩ := gt_mem hg
  obtain ⟨i, x, hi, hx⟩ := h.of_n h1
  exact ⟨i, x, hi, hx, by rw [hx, h2]⟩
theorem lkE_kp (T : List Nd) (k : Int) : lkE (T.map kp) k = (T.find? (fun x : Nd => x.n.id == k)).map (fun x => .pointer (some ⟨x.b, 0, none⟩)) := by
  induction T with
  | nil => rfl
  | cons a T ih =>
    simp only [List.map_cons, lkE, kp, List.find?_cons]
    cases a.n.id == k with
    | true => rfl
    | false => simpa using ih
theorem lk_some {N : List Nr} {T : List Nd} (h : OkT N T) (hn : (N.map (·.id)).Nodup) {i : Nat} {x : Nd} {k : Int} (hi : T[i]? = some x) (hk : x.n.id = k) : lkE (T.map kp) k = some (.pointer (some ⟨x.b, 0, none⟩)) := by
  rw [lkE_kp]
  cases hf : T.find? (fun x : Nd => x.n.id == k) with
  | none => simp only [List.find?_eq_none, beq_iff_eq] at hf; exact absurd hk (hf x (List.mem_of_getElem? hi))
  | some y =>
    have hy := List.mem_of_find?_eq_some hf
    obtain ⟨j, hj⟩ := List.mem_iff_getElem?.1 hy
    have hyk : y.n.id = k := by simpa using List.find?_some hf
    have := h.ix hn hi hj (by rw [hk, hyk])
    subst this
    rw [hi] at hj
    cases hj
    rfl
theorem lk_none {N : List Nr} {T : List Nd} (h : OkT N T) {k : Int} (hg : gt N k = none) : lkE (T.map kp) k = none := by
  rw [lkE_kp]
  cases hf : T.find? (fun x : Nd => x.n.id == k) with
  | none => rfl
  | some y => exact absurd (by simpa using List.find?_some hf) (gt_none.1 hg _ (h.mem_n (List.mem_of_find?_eq_some hf)))
theorem set_up {N : List Nr} {T : List Nd} (h : T.map (·.n) = N) (hn : (N.map (·.id)).Nodup) {i : Nat} {x : Nd} (hi : T[i]? = some x) (f : Nr → Nr) (x' : Nd) (hx' : x'.n = f x.n) : (T.set i x').map (·.n) = upN N x.n.id f := by
  subst h
  apply List.ext_getElem?
  intro j
  obtain ⟨hil, hxi⟩ := List.getElem?_eq_some_iff.1 hi
  simp only [upN, List.getElem?_map, List.getElem?_set]
  by_cases c : i = j
  · subst c
    simp [hil, hxi, hx']
  · rw [if_neg c]
    cases hj : T[j]? with
    | none => simp
    | some y =>
      have : y.n.id ≠ x.n.id := by
        intro e
        obtain ⟨hjl, hyj⟩ := List.getElem?_eq_some_iff.1 hj
        refine c ((List.getElem_inj (h₀ := by simpa using hil) (h₁ := by simpa using hjl) hn).1 ?_)
        simp [hxi, hyj, e]
      simp [this]
/-- A node has changed, of which its group learns nothing. -/
theorem OkT.one {N : List Nr} {T : List Nd} (h : OkT N T) (hn : (N.map (·.id)).Nodup) {i : Nat} {x : Nd} (hi : T[i]? = some x) {f : Nr → Nr} (hf : Skel f) (hs : (∀ y ∈ N, y.id ≠ x.n.par) ∨ ((f x.n).rdy = x.n.rdy ∧ ((f x.n).pass = x.n.pass ∨ x.n.rdy = false))) :
    OkT (upN N x.n.id f) (T.set i { x with n := f x.n }) := by
  have key : ∀ z ∈ T, ∀ p k, (p, k) ∈ z.q ↔ KD (upN N x.n.id f) z.n.id p k := by
    intro z hz p k
    rw [KD_same hn (h.mem_n (List.mem_of_getElem? hi)) hf]
    · exact h.mem z hz p k
    · rcases hs with hs | hs
      · exact .inl fun e => hs z.n (h.mem_n hz) e.symm
      · exact .inr hs
  refine ⟨set_up h.n hn hi f _ rfl, fun z hz => ?_, fun z hz p k => ?_⟩
  · rcases List.mem_or_eq_of_mem_set hz with hz | rfl
    · exact h.srt z hz
    · exact h.srt x (List.mem_of_getElem? hi)
  · rcases List.mem_or_eq_of_mem_set hz with hz | rfl
    · exact key z hz p k
    · have := key x (List.mem_of_getElem? hi) p k
      show (p, k) ∈ x.q ↔ KD (upN N x.n.id f) (f x.n).id p k
      rw [hf.id]
      exact this
/-- A node and its group's index have changed. -/
theorem OkT.two {N : List Nr} {T : List Nd} (h : OkT N T) (hn : (N.map (·.id)).Nodup) {i j : Nat} {x p : Nd} (hi : T[i]? = some x) (hj : T[j]? = some p) (hp : p.n.id = x.n.par) (hij : i ≠ j) {f : Nr → Nr} (hf : Skel f) {q : List (Int × Int)} (hq : SrtE q)
    (hm : ∀ s k, (s, k) ∈ q ↔ KD (upN N x.n.id f) p.n.id s k) : OkT (upN N x.n.id f) ((T.set i { x with n := f x.n }).set j { p with q := q }) := by
  have hx := h.mem_n (List.mem_of_getElem? hi)
  have hj' : (T.set i { x with n := f x.n })[j]? = some p := by rw [List.getElem?_set, if_neg hij]; exact hj
  have hset : ((T.set i { x with n := f x.n }).set j { p with q := q }).map (·.n) = (T.set i { x with n := f x.n }).map (·.n) := by
    apply List.ext_getElem?
    intro l
    simp only [List.getElem?_map, List.getElem?_set (i := j)]
    by_cases c : j = l
    · subst c
      rw [hj', if_pos rfl, if_pos (List.getElem?_eq_some_iff.1 hj').1]
      rfl
    · rw [if_neg c]
  refine ⟨hset.trans (set_up h.n hn hi f _ rfl), ?_, ?_⟩
  · intro z hz
    rcases List.mem_or_eq_of_mem_set hz with hz | rfl
    · rcases List.mem_or_eq_of_mem_set hz with hz | rfl
      · exact h.srt z hz
      · exact h.srt x (List.mem_of_getElem? hi)
    · exact hq
  · intro z hz s k
    obtain ⟨l, hl⟩ := List.mem_iff_getElem?.1 hz
    rw [List.getElem?_set] at hl
    by_cases c : j = l
    · subst c
      rw [if_pos rfl] at hl
      split at hl
      · cases hl; exact hm s k
      · cases hl
    · rw [if_neg c, List.getElem?_set] at hl
      by_cases c2 : i = l
      · subst c2
        rw [if_pos rfl] at hl
        split at hl
        · cases hl
          have hne : x.n.par ≠ x.n.id := fun e => hij (h.ix hn hi hj (by rw [hp, e]))
          rw [show ({ x with n := f x.n } : Nd).n.id = x.n.id from hf.id _]
          show (s, k) ∈ x.q ↔ KD (upN N x.n.id f) x.n.id s k
          rw [KD_same hn hx hf (.inl hne)]
          exact h.mem x (List.mem_of_getElem? hi) s k
        · cases hl
      · rw [if_neg c2] at hl
        have hne : x.n.par ≠ z.n.id := fun e => c (h.ix hn hj hl (by rw [hp, e]))
        show (s, k) ∈ z.q ↔ KD (upN N x.n.id f) z.n.id s k
        rw [KD_same hn hx hf (.inl hne)]
        exact h.mem z (List.mem_of_getElem? hl) s k
end Go.Proofs.YtlhjibkkkhgonaaGreatDoor
set_option linter.unusedVariables false
set_option linter.unusedSimpArgs false
namespace Go.Proofs.YtlhjibkkkhgonaaGreatDoor
open Go.RowKit G
namespace G
theorem bltY {P : Program} {n : Nat} {L : List (Nat × Value)} {c : Code} {S : World → Prop} {i : Nat} (b : Builtin) (x y : Operand) (ats : Array TypeId) (vx vy v : Value) (d : Option Tmp) (hg : ∀ rest, goes n c i L rest = true) (hd : (opAt c i).dst = d)
    (hop : (opAt c i).op = .call { callee := .builtin b, args := #[x, y], argTypes := ats }) (hx : ∀ rest, evalL L rest x = vx) (hy : ∀ rest, evalL L rest y = vy)
    (hr : ∀ w ty cs, (builtin b ats ty cs #[vx, vy]).run P w = .ok (.value v) w) : Yld P n L S c i d v := by
  refine ⟨hg, hd, fun rest w _ hs => ?_⟩
  unfold execOp
  simp only [hop, resolve, invoke, Sem.run_bind, Sem.run_pure, Result.andThen_ok, List.map_toArray, List.map_cons, List.map_nil, hx rest, hy rest, hr]
/-- An element's place in an array. -/
theorem aidxY {P : Program} {n : Nat} {L : List (Nat × Value)} {c : Code} {S : World → Prop} {i : Nat} (t : TypeId) (x ix : Operand) (b o len J sz : Nat) (E : TypeId) (j : Int) (k : IntKind) (d : Option Tmp) (hg : ∀ rest, goes n c i L rest = true) (hd : (opAt c i).dst = d) (hop : (opAt c i).op = .indexAddr t x ix)
    (hx : ∀ rest, evalL L rest x = .pointer (some ⟨b, o, none⟩)) (hix : ∀ rest, evalL L rest ix = .int k j) (hu : P.underlying t = some (.array len E)) (hsz : (P.info? E).map (·.size) = some sz) (hj : j = (J : Int)) (hJ : J < len) : Yld P n L S c i d (.pointer (some ⟨b, o + J * sz, none⟩)) := by
  refine ⟨hg, hd, fun rest w _ hs => ?_⟩
  have hi : ∃ q, P.info? E = some q ∧ q.size = sz := by
    cases hq : P.info? E with
    | none => rw [hq] at hsz; cases hsz
    | some q => rw [hq] at hsz; exact ⟨q, rfl, by simpa using hsz⟩
  obtain ⟨q, hq, hqs⟩ := hi
  subst hj
  unfold execOp
  simp only [hop, hx rest, hix rest]
  simp [Instr.indexAt, Instr.sureAddr, asIntOf, run_underlying hu, sizeOf, typeInfo, hq, hqs, hJ, Addr.add_lit]
/-- One operation that reckons. -/
def calmOk (P : Program) (n : Nat) (c : Code) (i : Nat) (L : List (Nat × Value)) (rest : Nat → Value) : Option (Value × Option Tmp) :=
  match goes n c i L rest with
  | true => (match calmL P (execOp (evalL L rest) (opAt c i)) [] with
    | some (.value v, [], _) => some (v, (opAt c i).dst)
    | _ => none)
  | false => none
theorem calmS {P : Program} {n : Nat} {L : List (Nat × Value)} {H : List SP} {c : Code} {i : Nat} (v : Value) (d : Option Tmp) (h : ∀ rest, calmOk P n c i L rest = some (v, d)) : Step (ι := Unit) P n L H c i d (fun _ => v) (fun _ => H) := by
  have key : ∀ rest, goes n c i L rest = true ∧ (opAt c i).dst = d ∧ ∃ r, calmL P (execOp (evalL L rest) (opAt c i)) [] = some (.value v, [], r) := by
    intro rest
    have h0 := h rest
    unfold calmOk at h0
    cases hg : goes n c i L rest with
    | false => rw [hg] at h0; cases h0
    | true =>
      rw [hg] at h0
      simp only at h0
      cases hr : calmL P (execOp (evalL L rest) (opAt c i)) [] with
      | none => rw [hr] at h0; cases h0
      | some z =>
        obtain ⟨x, cs, r⟩ := z
        rw [hr] at h0
        cases x with
        | value u =>
          cases cs with
          | cons _ _ => cases h0
          | nil =>
            simp only [Option.some.injEq, Prod.mk.injEq] at h0
            obtain ⟨rfl, rfl⟩ := h0
            exact ⟨rfl, rfl, r, rfl⟩
        | _ => cases h0
  refine valueS d _ _ (fun rest => (key rest).1) (key fun _ => undef).2.1 ?_
  intro rest w _ hs
  obtain ⟨r, hr⟩ := (key rest).2.2
  exact ⟨(), w, (calmL_run (w := w) _ hr (fun p hp => by simp at hp) (fun p hp => by simp at hp)).1, hs⟩
end G
theorem max_flt {P : Program} {a b : Int} {ats : Array TypeId} (ha : a.natAbs < 2 ^ 53) (hb : b.natAbs < 2 ^ 53) (w : World) (ty : TypeId) (cs : Array Bool) :
    (builtin .max ats ty cs #[.float .f64 (floatOfInt .f64 a), .float .f64 (floatOfInt .f64 b)]).run P w = .ok (.value (.float .f64 (floatOfInt .f64 (mxI a b)))) w := by
  have ho : FloatKind.f64.format.order (floatOfInt .f64 a) (floatOfInt .f64 b) = some (compare a b) := fi_order a b ha hb
  have h2 : (Builtin.max2 (.float .f64 (floatOfInt .f64 a)) (.float .f64 (floatOfInt .f64 b))).run P w = .ok (.float .f64 (floatOfInt .f64 (mxI a b))) w := by
    unfold Builtin.max2
    simp only [ho]
    unfold mxI
    rcases Int.lt_trichotomy a b with h | h | h
    · rw [Int.compare_eq_lt.2 h]
      simp [h]
    · subst h
      rw [Int.compare_eq_eq.2 rfl]
      simp
    · rw [Int.compare_eq_gt.2 h]
      simp [Int.lt_asymm h]
  simp [builtin, Builtin.max_, Sem.run_bind, h2]
/-- A block of elements as a row. -/
theorem Sat.blkRows {α : Type} {E : Enc α} {T : TypeId} {H : List SP} {w : World} {b : Nat} {xs : List α} (hl : xs.length ≤ maxLen) (h : Sat w (blk b T (E.flat xs) :: H)) : Sat w (row E T (.slice (some ⟨b, 0, none⟩) xs.length xs.length) xs :: H) :=
  Sat.change h fun G hG => by
    refine ⟨Upd.refl _ w, OneB b, .inr ⟨b, 0, xs.length, _, rfl, rfl, hG.1, Nat.le_refl _, hl, by simp [E.flat_length], ?_⟩, fun x hx => .inl ((hG.2 x).2 hx)⟩
    simp only [List.drop_zero]
    rw [← E.flat_length xs]; exact List.take_length
theorem PT.blkRows {α : Type} {E : Enc α} {T : TypeId} {H : List SP} {n : Nat} {L : List (Nat × Value)} {Φ : Act → World → Prop} {b : Nat} {cs : List Value} (xs : List α) (hl : xs.length ≤ maxLen) (hc : cs = E.flat xs) (h : PT n L (row E T (.slice (some ⟨b, 0, none⟩) xs.length xs.length) xs :: H) Φ) : PT n L (blk b T cs :: H) Φ :=
  PT.sat (fun w hs => Sat.blkRows hl (hc ▸ hs)) h
/-! ## nodes come out of the memory, and go in again -/
theorem Sat.nds {A B : SP} {T T' : List Nd} {H : List SP} (h : T.Perm T') {w : World} (hs : Sat w (A :: B :: (nodesL T ++ H))) : Sat w (A :: B :: (nodesL T' ++ H)) := Sat.perm ((((nodesL_perm h).append_right H).cons B).cons A) hs
theorem PT.open1 {n : Nat} {L : List (Nat × Value)} {A B : SP} {T R : List Nd} {H : List SP} {x : Nd} {Φ : Act → World → Prop} (h : T.Perm (x :: R))
    (hn : PT n L (A :: B :: blk x.b 109 (ndc x) :: idxS x.ib 60 x.q :: (nodesL R ++ H)) Φ) : PT n L (A :: B :: (nodesL T ++ H)) Φ := PT.sat (fun _ hs => Sat.nds h hs) hn
theorem PT.open2 {n : Nat} {L : List (Nat × Value)} {A B : SP} {T R : List Nd} {H : List SP} {x p : Nd} {Φ : Act → World → Prop} (h : T.Perm (x :: p :: R))
    (hn : PT n L (A :: B :: blk x.b 109 (ndc x) :: idxS x.ib 60 x.q :: blk p.b 109 (ndc p) :: idxS p.ib 60 p.q :: (nodesL R ++ H)) Φ) : PT n L (A :: B :: (nodesL T ++ H)) Φ := PT.sat (fun _ hs => Sat.nds h hs) hn
theorem PT.close1 {n : Nat} {L : List (Nat × Value)} {A B : SP} {T R : List Nd} {H : List SP} (x : Nd) {Φ : Act → World → Prop} (h : T.Perm (x :: R))
    (hn : PT n L (A :: B :: (nodesL T ++ H)) Φ) : PT n L (A :: B :: blk x.b 109 (ndc x) :: idxS x.ib 60 x.q :: (nodesL R ++ H)) Φ := PT.sat (fun _ hs => Sat.nds (T := x :: R) h.symm hs) hn
theorem PT.close2 {n : Nat} {L : List (Nat × Value)} {A B : SP} {T R : List Nd} {H : List SP} (x p : Nd) {Φ : Act → World → Prop} (h : T.Perm (x :: p :: R))
    (hn : PT n L (A :: B :: (nodesL T ++ H)) Φ) : PT n L (A :: B :: blk x.b 109 (ndc x) :: idxS x.ib 60 x.q :: blk p.b 109 (ndc p) :: idxS p.ib 60 p.q :: (nodesL R ++ H)) Φ := PT.sat (fun _ hs => Sat.nds (T := x :: p :: R) h.symm hs) hn
theorem Sat.nds3 {A B C : SP} {T T' : List Nd} {H : List SP} (h : T.Perm T') {w : World} (hs : Sat w (A :: B :: C :: (nodesL T ++ H))) : Sat w (A :: B :: C :: (nodesL T' ++ H)) := Sat.perm (((((nodesL_perm h).append_right H).cons C).cons B).cons A) hs
theorem PT.open1c {n : Nat} {L : List (Nat × Value)} {A B C : SP} {T R : List Nd} {H : List SP} {x : Nd} {Φ : Act → World → Prop} (h : T.Perm (x :: R))
    (hn : PT n L (A :: B :: C :: blk x.b 109 (ndc x) :: idxS x.ib 60 x.q :: (nodesL R ++ H)) Φ) : PT n L (A :: B :: C :: (nodesL T ++ H)) Φ := PT.sat (fun _ hs => Sat.nds3 h hs) hn
theorem PT.close1c {n : Nat} {L : List (Nat × Value)} {A B C : SP} {T R : List Nd} {H : List SP} (x : Nd) {Φ : Act → World → Prop} (h : T.Perm (x :: R))
    (hn : PT n L (A :: B :: C :: (nodesL T ++ H)) Φ) : PT n L (A :: B :: C :: blk x.b 109 (ndc x) :: idxS x.ib 60 x.q :: (nodesL R ++ H)) Φ := PT.sat (fun _ hs => Sat.nds3 (T := x :: R) h.symm hs) hn
theorem Sat.nds4 {A B C D : SP} {T T' : List Nd} {H : List SP} (h : T.Perm T') {w : World} (hs : Sat w (A :: B :: C :: D :: (nodesL T ++ H))) : Sat w (A :: B :: C :: D :: (nodesL T' ++ H)) := Sat.perm ((((((nodesL_perm h).append_right H).cons D).cons C).cons B).cons A) hs
theorem PT.open1d {n : Nat} {L : List (Nat × Value)} {A B C D : SP} {T R : List Nd} {H : List SP} {x : Nd} {Φ : Act → World → Prop} (h : T.Perm (x :: R))
    (hn : PT n L (A :: B :: C :: D :: blk x.b 109 (ndc x) :: idxS x.ib 60 x.q :: (nodesL R ++ H)) Φ) : PT n L (A :: B :: C :: D :: (nodesL T ++ H)) Φ := PT.sat (fun _ hs => Sat.nds4 h hs) hn
theorem PT.close1d {n : Nat} {L : List (Nat × Value)} {A B C D : SP} {T R : List Nd} {H : List SP} (x : Nd) {Φ : Act → World → Prop} (h : T.Perm (x :: R))
    (hn : PT n L (A :: B :: C :: D :: (nodesL T ++ H)) Φ) : PT n L (A :: B :: C :: D :: blk x.b 109 (ndc x) :: idxS x.ib 60 x.q :: (nodesL R ++ H)) Φ := PT.sat (fun _ hs => Sat.nds4 (T := x :: R) h.symm hs) hn
end Go.Proofs.YtlhjibkkkhgonaaGreatDoor
namespace Go.Proofs.YtlhjibkkkhgonaaGreatDoor.G
theorem Xj {P : Program} {n : Nat} {L : List (Nat × Value)} {c : Code} {S : World → Prop} {i : Nat} (t : TypeId) (x ix : Operand) (b o len J sz : Nat) (E : TypeId) (j : Int) (d : Nat) (hu : P.underlying t = some (.array len E)) (hJ : J < len := by first | omega | decide | (simp; done) | (simp; omega) | (simp at *; omega)) (hg : ∀ rest, goes n c i L rest = true := by intro _; kernel_rfl) (hd : (opAt c i).dst = some d := by kernel_rfl) (hop : (opAt c i).op = .indexAddr t x ix := by kernel_rfl)
    (hx : ∀ rest, evalL L rest x = .pointer (some ⟨b, o, none⟩) := by intro _; kernel_rfl) (hix : ∀ rest, evalL L rest ix = .int .i64 j := by intro _; kernel_rfl) (hsz : (P.info? E).map (·.size) = some sz := by kernel_rfl) (hj : j = (J : Int) := by first | rfl | assumption | simp | omega) : Yld P n L S c i (some d) (.pointer (some ⟨b, o + J * sz, none⟩)) := aidxY t x ix b o len J sz E j .i64 (some d) hg hd hop hx hix hu hsz hj hJ
end Go.Proofs.YtlhjibkkkhgonaaGreatDoor.G
set_option linter.unusedVariables false
set_option linter.unusedSimpArgs false
namespace Go.Proofs.YtlhjibkkkhgonaaGreatDoor
open Go.RowKit G
set_option maxRecDepth 100000 in
theorem strIs_walk (H : List SP) (w_ : Int) : ∀ w, Sat w H → Calls Tryz.prog 76 #[vi w_] w (Ret (ι := Unit) (fun _ => .bool (isW w_)) fun _ => H) := by
 refine enterG (fn := Tryz.f76) 9 [vi w_] Tryz.func76 (by kernel_rfl) (by kernel_rfl) (by kernel_rfl) ?_
 refine Xq (Xg 1 (Xe [(0,vi w_), (2,.bool false)] ?_ 1))
 refine Xq (Xg 7 (Xr [(0,vi w_), (2,.bool false), (5,.bool (decide (w_ ≥ 1)))] ?_ 4 3))
 refine (Xs0 1 3 [(2,.bool false), (8,.bool ((decide (w_ ≥ 1)) && (decide (w_ ≤ 16))))] ?_ ?_ : RT _ _ _ _ _ _ 4 _)
 ·cases hg3 : (decide (w_ ≥ 1)) with
  | true =>
   refine Xe [(2,.bool false), (8,.bool (decide (w_ ≤ 16)))] ?_ 3
   refine Xp [(2,.bool false), (8,.bool (true && (decide (w_ ≤ 16))))] ?_
   exact midR () rfl rfl
  | false =>
   refine Xe [(2,.bool false), (8,.bool false)] ?_ 3
   refine Xp [(2,.bool false), (8,.bool (false && (decide (w_ ≤ 16))))] ?_
   exact midR () rfl rfl
 refine Xe [(2,.bool ((decide (w_ ≥ 1)) && (decide (w_ ≤ 16))))] ?_ 1
 refine Xv (Y0 (.bool ((decide (w_ ≥ 1)) && (decide (w_ ≤ 16)))) (fun w hs => ?_))
 exact ⟨(), rfl, hs⟩
set_option maxRecDepth 100000 in
theorem strOf_walk (H : List SP) (w_ : Int) : ∀ w, Sat w H → Calls Tryz.prog 116 #[vi w_] w (Ret (ι := Unit) (fun _ => vi (strd w_)) fun _ => H) := by
 refine enterG (fn := Tryz.f116) 8 [vi w_] Tryz.func116 (by kernel_rfl) (by kernel_rfl) (by kernel_rfl) ?_
 refine Xq (Xg 1 (Xe [(0,vi w_), (2,vi 0)] ?_ 1))
 refine Xq (Xq (Xg 3 (Xr [(0,vi w_), (2,vi 0), (3,vi w_)] ?_ 2 1)))
 refine Xs (Xa (some 4) (fun _ => .bool (isW w_)) (strIs_walk _ w_)) (fun _ => ?_) 1
 refine Xe [(0,vi w_), (2,vi 0), (5,.bool (!(isW w_)))] ?_ 1
 refine Xc (!(isW w_)) (fun h1 => ?_) (fun h1 => ?_)
 ·skip
  refine Xq (Xg 1 (Xe [(0,vi w_), (2,vi 0)] ?_ 1))
  refine Xv (thenV (Y0 (vi 0) (fun w hs => ?_)))
  exact ⟨(), by rw [strd, if_neg (by simpa using h1)], hs⟩
 ·skip
  refine Xk (Xq (Xg 3 (Xr [(2,vi 0), (6,vi w_)] ?_ 2 1)))
  have hw : isW w_ = true := by simpa using h1
  refine Xs (yldS (binY .quo 3 3 (.const (.int .i64 720720)) (.tmp 6) (.int .i64 720720) (.int .i64 w_) (.int .i64 (IntKind.i64.wrap ((720720 : Int).tdiv w_))) (some 7) (fun _ => by kernel_rfl) (by kernel_rfl) (by kernel_rfl) (fun _ => by kernel_rfl) (fun _ => by kernel_rfl) (quoR (t' := 0) (by have := isW_cases hw; omega)))) (fun _ => ?_) 1
  refine Xe [(2,vi (IntKind.i64.wrap ((720720 : Int).tdiv w_)))] ?_ 1
  refine Xv (Y0 (vi (IntKind.i64.wrap ((720720 : Int).tdiv w_))) (fun w hs => ?_))
  exact ⟨(), by rw [show IntKind.i64.wrap ((720720 : Int).tdiv w_) = strd w_ from ?_]; rw [strd, if_pos hw]; have h2 := strd_pos hw; rw [strd, if_pos hw] at h2; exact w64 (by omega) (by omega), hs⟩
set_option maxRecDepth 100000 in
theorem strNext_walk (H : List SP) (p w_ : Int) (hp : 0 ≤ p ∧ p ≤ 1099511627776) (hw : isW w_ = true) : ∀ w, Sat w H → Calls Tryz.prog 101 #[vi p, vi w_] w (Ret (ι := Unit) (fun _ => vi (p + strd w_)) fun _ => H) := by
 refine enterG (fn := Tryz.f101) 9 [vi p, vi w_] Tryz.func101 (by kernel_rfl) (by kernel_rfl) (by kernel_rfl) ?_
 refine Xq (Xg 1 (Xe [(0,vi p), (1,vi w_), (4,vi 0)] ?_ 1))
 refine Xq (Xg 5 (Xr [(4,vi 0), (5,vi p), (6,vi w_)] ?_ 3 2))
 refine Xs (Xa (some 7) (fun _ => vi (strd w_)) (strOf_walk _ w_)) (fun _ => ?_) 2
 refine Xe [(4,vi (IntKind.i64.wrap (p + (strd w_))))] ?_ 2
 refine Xv ?_
 have h2 := strd_pos hw
 refine Y0 (vi (IntKind.i64.wrap (p + (strd w_)))) (fun w hs => ?_)
 exact ⟨(), by rw [w64 (by omega) (by omega)], hs⟩
set_option maxRecDepth 100000 in
theorem pair_walk (H : List SP) (a b : Int) : ∀ w, Sat w H → Calls Tryz.prog 106 #[vi a, vi b] w (Ret (ι := Unit) (fun _ => .complex .f64 (floatOfInt .f64 a) (floatOfInt .f64 b)) fun _ => H) := by
 refine enterG (fn := Tryz.f106) 10 [vi a, vi b] Tryz.func106 (by kernel_rfl) (by kernel_rfl) (by kernel_rfl) ?_
 refine Xq (Xg 1 (Xe [(0,vi a), (1,vi b), (4,.complex .f64 0 0)] ?_ 1))
 refine Xq (Xg 6 (Xe [(4,.complex .f64 (floatOfInt .f64 a) (floatOfInt .f64 b))] ?_ 6))
 refine Xv (Y0 (.complex .f64 (floatOfInt .f64 a) (floatOfInt .f64 b)) (fun w hs => ?_))
 exact ⟨(), rfl, hs⟩
set_option maxRecDepth 100000 in
theorem later_walk (H : List SP) (a b : Int) (ha : a.natAbs < 2 ^ 53) (hb : b.natAbs < 2 ^ 53) : ∀ w, Sat w H → Calls Tryz.prog 105 #[.complex .f64 (floatOfInt .f64 a) (floatOfInt .f64 b)] w (Ret (ι := Unit) (fun _ => vi (mxI a b)) fun _ => H) := by
 refine enterG (fn := Tryz.f105) 9 [.complex .f64 (floatOfInt .f64 a) (floatOfInt .f64 b)] Tryz.func105 (by kernel_rfl) (by kernel_rfl) (by kernel_rfl) ?_
 refine Xq (Xg 1 (Xe [(0,.complex .f64 (floatOfInt .f64 a) (floatOfInt .f64 b)), (2,vi 0)] ?_ 1))
 refine Xq (Xg 7 (Xr [(2,vi 0), (4,.float .f64 (floatOfInt .f64 a)), (6,.float .f64 (floatOfInt .f64 b))] ?_ 3 4))
 refine Xs (yldS (bltY .max (.tmp 4) (.tmp 6) #[186, 186] (.float .f64 (floatOfInt .f64 a)) (.float .f64 (floatOfInt .f64 b)) (.float .f64 (floatOfInt .f64 (mxI a b))) (some 7) (fun _ => by kernel_rfl) (by kernel_rfl) (by kernel_rfl) (fun _ => by kernel_rfl) (fun _ => by kernel_rfl) (max_flt (by omega) (by omega)))) (fun _ => ?_) 2
 refine Xs (yldS (cvtY 186 3 (.tmp 7) (.float .f64 (floatOfInt .f64 (mxI a b))) (.int .i64 (mxI a b)) (some 8) (fun _ => by kernel_rfl) (by kernel_rfl) (by kernel_rfl) (fun _ => by kernel_rfl) (cvt_int (by unfold mxI; split <;> omega)))) (fun _ => ?_) 1
 refine Xe [(2,vi (mxI a b))] ?_ 1
 refine Xv (Y0 (vi (mxI a b)) (fun w hs => ?_))
 exact ⟨(), rfl, hs⟩
set_option maxRecDepth 100000 in
theorem scale_walk (H : List SP) (p n f t : Int) (hp : 0 ≤ p ∧ p ≤ 1099511627776) (hn : 0 ≤ n ∧ n ≤ 1099511627776) (hf : isW f = true) (ht : isW t = true) : ∀ w, Sat w H → Calls Tryz.prog 96 #[vi p, vi n, vi f, vi t] w (Ret (ι := Unit) (fun _ => vi (scaleN p n f t)) fun _ => H) := by
 refine enterG (fn := Tryz.f96) 29 [vi p, vi n, vi f, vi t] Tryz.func96 (by kernel_rfl) (by kernel_rfl) (by kernel_rfl) ?_
 refine Xq (Xg 1 (Xe [(0,vi p), (1,vi n), (2,vi f), (3,vi t), (8,vi 0)] ?_ 1))
 refine Xq (Xq (Xg 8 (Xr [(0,vi p), (1,vi n), (2,vi f), (3,vi t), (8,vi 0), (12,.bool (decide (p ≤ n)))] ?_ 4 4)))
 refine (Xs0 0 4 [(0,vi p), (1,vi n), (2,vi f), (3,vi t), (8,vi 0), (16,.bool ((decide (p ≤ n)) || ((strd f) == 0)))] ?_ ?_ : RT _ _ _ _ _ _ 4 _)
 ·cases hg4 : (decide (p ≤ n)) with
  | true =>
   refine Xe [(0,vi p), (1,vi n), (2,vi f), (3,vi t), (8,vi 0), (16,.bool true)] ?_ 4
   refine Xp [(0,vi p), (1,vi n), (2,vi f), (3,vi t), (8,vi 0), (16,.bool (true || ((strd f) == 0)))] ?_
   exact midR () rfl rfl
  | false =>
   refine Xr [(0,vi p), (1,vi n), (2,vi f), (3,vi t), (8,vi 0), (12,.bool false), (13,vi f)] ?_ 3 1
   refine Xs (Xa (some 14) (fun _ => vi (strd f)) (strOf_walk _ f)) (fun _ => ?_) 2
   refine Xe [(0,vi p), (1,vi n), (2,vi f), (3,vi t), (8,vi 0), (16,.bool ((strd f) == 0))] ?_ 2
   refine Xp [(0,vi p), (1,vi n), (2,vi f), (3,vi t), (8,vi 0), (16,.bool (false || ((strd f) == 0)))] ?_
   exact midR () rfl rfl
 refine endR ?_
 refine Xc ((decide (p ≤ n)) || ((strd f) == 0)) (fun h1 => ?_) (fun h1 => ?_)
 ·skip
  refine Xq (Xg 2 (Xe [(0,vi p), (1,vi n), (2,vi f), (3,vi t), (8,vi p)] ?_ 2))
  refine Xv (thenV (Y0 (vi p) (fun w hs => ?_)))
  exact ⟨(), by rw [scaleN, if_pos (by simpa using h1)], hs⟩
 ·skip
  refine Xk (Xq (Xg 12 (Xr [(2,vi f), (8,vi 0), (18,vi n), (21,vi (IntKind.i64.wrap (p - n))), (22,vi t)] ?_ 7 5)))
  refine Xs (Xa (some 23) (fun _ => vi (strd t)) (strOf_walk _ t)) (fun _ => ?_) 6
  refine Xr [(8,vi 0), (18,vi n), (24,vi (IntKind.i64.wrap ((IntKind.i64.wrap (p - n)) * (strd t)))), (25,vi f)] ?_ 4 2
  refine Xs (Xa (some 26) (fun _ => vi (strd f)) (strOf_walk _ f)) (fun _ => ?_) 3
  have h2 : ¬ (p ≤ n ∨ strd f = 0) := by simpa using h1
  have hsf := strd_pos hf
  have hst := strd_pos ht
  have hm : 0 ≤ (p - n) * strd t ∧ (p - n) * strd t ≤ 1099511627776 * 720720 := ⟨Int.mul_nonneg (by omega) (by omega), Int.le_trans (Int.mul_le_mul_of_nonneg_right (c := strd t) (show p - n ≤ 1099511627776 by omega) (by omega)) (Int.mul_le_mul_of_nonneg_left hst.2 (by omega))⟩
  have hd := tdiv_le hm.1 hsf.1
  rw [show IntKind.i64.wrap (p - n) = (p - n) by rw [w64 (by omega) (by omega)]]
  rw [show IntKind.i64.wrap ((p - n) * (strd t)) = ((p - n) * strd t) by rw [w64 (by omega) (by omega)]]
  refine Xs (yldS (binY .quo 3 3 (.tmp 24) (.tmp 26) (.int .i64 ((p - n) * strd t)) (.int .i64 (strd f)) (.int .i64 (IntKind.i64.wrap (((p - n) * strd t : Int).tdiv (strd f)))) (some 27) (fun _ => by kernel_rfl) (by kernel_rfl) (by kernel_rfl) (fun _ => by kernel_rfl) (fun _ => by kernel_rfl) (quoR (t' := 0) (by omega)))) (fun _ => ?_) 2
  refine Xe [(8,vi (IntKind.i64.wrap (n + (IntKind.i64.wrap (((p - n) * strd t : Int).tdiv (strd f))))))] ?_ 2
  refine Xv (Y0 (vi (IntKind.i64.wrap (n + (IntKind.i64.wrap (((p - n) * strd t : Int).tdiv (strd f)))))) (fun w hs => ?_))
  exact ⟨(), by rw [scaleN, if_neg h2, w64 (n := ((p - n) * strd t).tdiv (strd f)) (by omega) (by omega), w64 (by omega) (by omega)], hs⟩
end Go.Proofs.YtlhjibkkkhgonaaGreatDoor
set_option linter.unusedVariables false
set_option linter.unusedSimpArgs false
namespace Go.Proofs.YtlhjibkkkhgonaaGreatDoor
open Go.RowKit G
def idxL (l : List Int) (id : Int) : Int := match l.findIdx? (fun e => e == id) with | none => -1 | some i => (i : Int)
theorem idxL_none {l : List Int} {id : Int} (h : ∀ e ∈ l, e ≠ id) : idxL l id = -1 := by
 rw [idxL, List.findIdx?_eq_none_iff.2 fun e he => by simpa using h e he]
theorem idxL_some {l : List Int} {id : Int} {i : Nat} (he : l[i]? = some id) (hno : ∀ v e, v < i → l[v]? = some e → e ≠ id) : idxL l id = i := by
 have : l.findIdx? (fun e => e == id) = some i := by
  obtain ⟨hi, rfl⟩ := List.getElem?_eq_some_iff.1 he
  refine List.findIdx?_eq_some_iff_getElem.2 ⟨hi, by simp, fun j hj => ?_⟩
  simpa using hno j l[j] hj (List.getElem?_eq_getElem _)
 rw [idxL, this]
theorem idxL_has (l : List Int) (id : Int) : decide (idxL l id ≥ 0) = l.contains id := by
 unfold idxL
 cases h : l.findIdx? (fun e => e == id) with
 | none =>
  have := List.findIdx?_eq_none_iff.1 h
  have h2 : l.contains id = false := by
   cases c : l.contains id with
   | false => rfl
   | true => have := this id (by simpa using c); simp at this
  rw [h2]; rfl
 | some i =>
  obtain ⟨h1, h2, _⟩ := List.findIdx?_eq_some_iff_getElem.1 h
  have h3 : l.contains id = true := by
   have : l[i] = id := by simpa using h2
   simp only [List.contains_iff_mem]
   exact this ▸ List.getElem_mem h1
  rw [h3]; simp
set_option maxRecDepth 100000 in
theorem idxL_walk (H : List SP) (s : SV Int) (hk : KR H (kE .i64) s) (hl : s.l.length ≤ 1000000) (id : Int) : ∀ w, Sat w H → Calls Tryz.prog 126 #[.slice s.a s.l.length s.c, vi id] w (Ret (ι := Unit) (fun _ => vi (idxL s.l id)) fun _ => H) := by
 refine enterG (fn := Tryz.f126) 19 [.slice s.a s.l.length s.c, vi id] Tryz.func126 (by kernel_rfl) (by kernel_rfl) (by kernel_rfl) ?_
 refine Xq (Xg 1 (Xe [(0,.slice s.a s.l.length s.c), (1,vi id), (4,vi 0)] ?_ 1))
 refine Xq (Xq (Xg 3 (Xe [(0,.slice s.a s.l.length s.c), (1,vi id), (4,vi 0), (7,vi (s.l.length : Int)), (8,vi 0)] ?_ 3)))
 refine Xb 0 (Xp [(0,.slice s.a s.l.length s.c), (1,vi id), (7,vi (s.l.length : Int)), (8,vi 0)] (Xl0 (fun (v : Nat) => [(0,.slice s.a s.l.length s.c), (1,vi id), (7,vi (s.l.length : Int)), (8,vi v)]) (fun k (v : Nat) => k + v = s.l.length ∧ ∀ u e, u < v → s.l[u]? = some e → e ≠ id) s.l.length 0 (by kernel_rfl) ⟨by simp, fun u e h => by omega⟩ ?_))
 rintro k v ⟨hkv, hno⟩
 refine Xq (Xg 1 (Xe [(0,.slice s.a s.l.length s.c), (1,vi id), (7,vi (s.l.length : Int)), (8,vi v), (9,.bool (decide ((v : Int) < (s.l.length : Int))))] ?_ 1))
 refine Xq (Xc (decide ((v : Int) < (s.l.length : Int))) (fun h1 => ?_) (fun h1 => ?_))
 ·skip
  have hv := of_decide_eq_true h1
  obtain ⟨x, hx⟩ : ∃ x, s.l[v]? = some x := ⟨_, List.getElem?_eq_getElem (by omega)⟩
  refine PT.know ((hk).isSome (List.ne_nil_of_length_pos (by omega))) ?_
  rintro ⟨sb, so, hA'⟩
  try rw [hA']
  refine Xk (Xq (Xb 1 (Xq (Xg 2 (Xe [(0,.slice (some ⟨sb, so, none⟩) s.l.length s.c), (1,vi id), (7,vi (s.l.length : Int)), (8,vi v), (5,vi v)] ?_ 2)))))
  refine Xq (Xg 6 (Xr [(0,.slice (some ⟨sb, so, none⟩) s.l.length s.c), (1,vi id), (7,vi (s.l.length : Int)), (8,vi v), (5,vi v), (11,vi id), (12,.slice (some ⟨sb, so, none⟩) s.l.length s.c), (13,vi v)] ?_ 3 3))
  refine Xs (yldS (Xi 50 (.tmp 12) (.tmp 13) sb so s.l.length s.c v 1 3 (v : Int) 14 Tryz.underlying50)) (fun _ => ?_) 2
  refine Xm [(0,.slice (some ⟨sb, so, none⟩) s.l.length s.c), (1,vi id), (7,vi (s.l.length : Int)), (8,vi v), (5,vi v), (16,.bool (id == x))] [(⟨sb, so + v * 1, none⟩, vi x)] (hasC (hk.cell hA' (i := v) (x := x) hx (j := 0) rfl) has0) ?_ 2
  refine Xc (id == x) (fun h2 => ?_) (fun h2 => ?_)
  ·skip
   have e2 : id = x := by simpa using h2
   refine Xq (Xg 2 (Xe [(0,.slice (some ⟨sb, so, none⟩) s.l.length s.c), (1,vi id), (7,vi (s.l.length : Int)), (8,vi v), (4,vi v)] ?_ 2))
   refine Xv (blockV (thenV (thenV (blockV (thenV ?_)))))
   try rw [← hA']
   refine Y0 (vi v) (fun w hs => ?_)
   exact ⟨(), by rw [idxL_some (i := v) (by rw [hx, e2]) hno], hs⟩
  ·skip
   have e2 : ¬ id = x := by simpa using h2
   refine Xk (Xg 2 (Xe [(0,.slice (some ⟨sb, so, none⟩) s.l.length s.c), (1,vi id), (7,vi (s.l.length : Int)), (8,vi (IntKind.i64.wrap ((v : Int) + 1)))] ?_ 2))
   try rw [← hA']
   rw [show IntKind.i64.wrap ((v : Int) + 1) = ((v : Int) + 1) by rw [w64 (by omega) (by omega)]]
   refine Xp [(0,.slice s.a s.l.length s.c), (1,vi id), (7,vi (s.l.length : Int)), (8,vi ((v : Int) + 1))] ?_
   exact againG (k - 1) (v + 1) rfl rfl (by omega) ⟨by omega, fun u e hu he => by rcases Nat.lt_succ_iff_lt_or_eq.1 hu with hu | rfl; exact hno u e hu he; rw [hx] at he; cases he; exact fun e => e2 e.symm⟩
 ·skip
  have hv : ¬ (v : Int) < s.l.length := of_decide_eq_false h1
  refine Xx 0 (thenX (thenX (leaveR (Xq (Xg 1 (Xe [(4,vi (-1))] ?_ 1))))))
  refine Xv (Y0 (vi (-1)) (fun w hs => ?_))
  exact ⟨(), by rw [idxL_none fun e he => by obtain ⟨u, hu⟩ := List.getElem?_of_mem he; exact hno u e (by have := (List.getElem?_eq_some_iff.1 hu).1; omega) hu], hs⟩
set_option maxRecDepth 100000 in
theorem contains_walk (H : List SP) (s : SV Int) (hk : KR H (kE .i64) s) (hl : s.l.length ≤ 1000000) (id : Int) : ∀ w, Sat w H → Calls Tryz.prog 112 #[.slice s.a s.l.length s.c, vi id] w (Ret (ι := Unit) (fun _ => .bool (s.l.contains id)) fun _ => H) := by
 refine enterG (fn := Tryz.f112) 9 [.slice s.a s.l.length s.c, vi id] Tryz.func112 (by kernel_rfl) (by kernel_rfl) (by kernel_rfl) ?_
 refine Xq (Xg 1 (Xe [(0,.slice s.a s.l.length s.c), (1,vi id), (4,.bool false)] ?_ 1))
 refine Xq (Xg 5 (Xr [(4,.bool false), (5,.slice s.a s.l.length s.c), (6,vi id)] ?_ 3 2))
 refine Xs (Xa (some 7) (fun _ => vi (idxL s.l id)) (idxL_walk _ s hk hl id)) (fun _ => ?_) 2
 refine Xe [(4,.bool (decide ((idxL s.l id) ≥ 0)))] ?_ 2
 refine Xv (Y0 (.bool (decide ((idxL s.l id) ≥ 0))) (fun w hs => ?_))
 exact ⟨(), by rw [← idxL_has], hs⟩
theorem delI_walk (H : List SP) (v : Value) (xs : List Int) (i : Nat) (hi : i < xs.length) (hn : xs.length ≤ 1000000000) :
  ∀ w, Sat w (row (kE .i64) 3 v xs :: H) → Calls Tryz.prog 95 #[v, .int .i64 i, .int .i64 ((i : Int) + 1)] w (Ret (ι := Option Addr × Nat) (fun p => .slice p.1 (xs.take i ++ xs.drop (i + 1)).length p.2) fun p => row (kE .i64) 3 (.slice p.1 (xs.take i ++ xs.drop (i + 1)).length p.2) (xs.take i ++ xs.drop (i + 1)) :: H) :=
 rowCall fun w F hr _ => del_in w F v xs hr i hi hn
end Go.Proofs.YtlhjibkkkhgonaaGreatDoor
set_option linter.unusedVariables false
set_option linter.unusedSimpArgs false
namespace Go.Proofs.YtlhjibkkkhgonaaGreatDoor
open Go.RowKit Go.Maps Go.Sort Go.Shelf G
def LyK_ren : Go.Shelf.Ren := ⟨fun | 7 => 103 | 10 => 121 | n => n, fun | 23 => 110 | 26 => 3 | 3 => 105 | 28 => 156 | 0 => 0 | 27 => 155 | 33 => 82 | 4 => 4 | n => n, fun | n => n⟩
theorem LyK : SlLaysZI.n7 Tryz.prog LyK_ren where
  mixed := by kernel_rfl
  f7 := ⟨ "maps.Keys[map[int]*tontine/tree.node,int,*tontine/tree.node]", by decide, Tryz.func103.trans (congrArg some (by kernel_rfl))⟩
  f10 := ⟨ "maps.Keys[map[int]*tontine/tree.node,int,*tontine/tree.node]$1", by decide, Tryz.func121.trans (congrArg some (by kernel_rfl))⟩
  t0 := Tryz.underlying0
  a0 := Tryz.isAgg0
  z0 := Tryz.sizeOf0
  v0 := Tryz.zeroValue0
  t4 := Tryz.underlying4
  a4 := Tryz.isAgg4
  z4 := Tryz.sizeOf4
  v4 := Tryz.zeroValue4
  t23 := Tryz.underlying110
  a23 := Tryz.isAgg110
  z23 := Tryz.sizeOf110
  v23 := Tryz.zeroValue110
  t26 := Tryz.underlying3
  a26 := Tryz.isAgg3
  z26 := Tryz.sizeOf3
  v26 := Tryz.zeroValue3
  t27 := Tryz.underlying155
  a27 := Tryz.isAgg155
  z27 := Tryz.sizeOf155
  v27 := Tryz.zeroValue155
  t28 := Tryz.underlying156
  a28 := Tryz.isAgg156
  z28 := Tryz.sizeOf156
  v28 := Tryz.zeroValue156
  t33 := Tryz.underlying82
  a33 := Tryz.isAgg82
  z33 := Tryz.sizeOf82
  v33 := Tryz.zeroValue82
def LyO_ren : Go.Shelf.Ren := ⟨fun | 6 => 102 | 8 => 119 | 9 => 120 | 11 => 130 | 13 => 132 | 12 => 131 | 23 => 148 | 24 => 149 | 14 => 139 | 15 => 140 | 16 => 141 | 17 => 142 | 18 => 143 | 19 => 144 | 20 => 145 | 21 => 146 | 22 => 147 | 25 => 161 | 26 => 162 | 27 => 163 | 28 => 164 | 29 => 165 | 30 => 160 | 31 => 170 | n => n, fun | 26 => 3 | 28 => 156 | 24 => 50 | 0 => 0 | 3 => 3 | 37 => 195 | 48 => 210 | 50 => 212 | 4 => 4 | 40 => 203 | 39 => 202 | 45 => 58 | 5 => 5 | 9 => 9 | 51 => 220 | 55 => 224 | 57 => 228 | 58 => 35 | 33 => 82 | n => n, fun | n => n⟩
theorem LyO : SlLaysZI.n6 Tryz.prog LyO_ren where
  mixed := by kernel_rfl
  f6 := ⟨ "slices.Sorted[int]", by decide, Tryz.func102.trans (congrArg some (by kernel_rfl))⟩
  f8 := ⟨ "slices.Collect[int]", by decide, Tryz.func119.trans (congrArg some (by kernel_rfl))⟩
  f11 := ⟨ "slices.AppendSeq[[]int,int]", by decide, Tryz.func130.trans (congrArg some (by kernel_rfl))⟩
  t0 := Tryz.underlying0
  a0 := Tryz.isAgg0
  z0 := Tryz.sizeOf0
  v0 := Tryz.zeroValue0
  t24 := Tryz.underlying50
  a24 := Tryz.isAgg50
  z24 := Tryz.sizeOf50
  v24 := Tryz.zeroValue50
  t26 := Tryz.underlying3
  a26 := Tryz.isAgg3
  z26 := Tryz.sizeOf3
  v26 := Tryz.zeroValue3
  t28 := Tryz.underlying156
  a28 := Tryz.isAgg156
  z28 := Tryz.sizeOf156
  v28 := Tryz.zeroValue156
  i26 := by kernel_rfl
def LyQ_ren : Go.Shelf.Ren := ⟨fun | 5 => 120 | 8 => 132 | 7 => 131 | 19 => 148 | 20 => 149 | 10 => 139 | 11 => 140 | 12 => 141 | 13 => 142 | 14 => 143 | 15 => 144 | 16 => 145 | 17 => 146 | 18 => 147 | 30 => 161 | 31 => 162 | 32 => 163 | 33 => 164 | 34 => 165 | 35 => 160 | 40 => 170 | n => n, fun | 23 => 50 | 25 => 3 | 3 => 3 | 32 => 195 | 22 => 50 | 0 => 0 | 44 => 210 | 46 => 212 | 4 => 4 | 36 => 203 | 35 => 202 | 41 => 58 | 5 => 5 | 9 => 9 | 53 => 220 | 57 => 224 | 63 => 228 | 64 => 35 | n => n, fun | n => n⟩
theorem LyQ : SlLaysM.n5 Tryz.prog LyQ_ren where
  mixed := by kernel_rfl
  f5 := ⟨ "slices.Sort[[]int,int]", by decide, Tryz.func120.trans (congrArg some (by kernel_rfl))⟩
  f7 := ⟨ "slices.pdqsortOrdered[int]", by decide, Tryz.func131.trans (congrArg some (by kernel_rfl))⟩
  f8 := Tryz.func132.trans (congrArg some (by kernel_rfl))
  f10 := ⟨ "slices.insertionSortOrdered[int]", by decide, Tryz.func139.trans (congrArg some (by kernel_rfl))⟩
  f11 := ⟨ "slices.heapSortOrdered[int]", by decide, Tryz.func140.trans (congrArg some (by kernel_rfl))⟩
  f12 := ⟨ "slices.breakPatternsOrdered[int]", by decide, Tryz.func141.trans (congrArg some (by kernel_rfl))⟩
  f13 := ⟨ "slices.choosePivotOrdered[int]", by decide, Tryz.func142.trans (congrArg some (by kernel_rfl))⟩
  f14 := ⟨ "slices.reverseRangeOrdered[int]", by decide, Tryz.func143.trans (congrArg some (by kernel_rfl))⟩
  f15 := ⟨ "slices.partialInsertionSortOrdered[int]", by decide, Tryz.func144.trans (congrArg some (by kernel_rfl))⟩
  f16 := ⟨ "cmp.Less[int]", by decide, Tryz.func145.trans (congrArg some (by kernel_rfl))⟩
  f17 := ⟨ "slices.partitionEqualOrdered[int]", by decide, Tryz.func146.trans (congrArg some (by kernel_rfl))⟩
  f18 := ⟨ "slices.partitionOrdered[int]", by decide, Tryz.func147.trans (congrArg some (by kernel_rfl))⟩
  f19 := Tryz.func148.trans (congrArg some (by kernel_rfl))
  f20 := Tryz.func149.trans (congrArg some (by kernel_rfl))
  f30 := ⟨ "slices.siftDownOrdered[int]", by decide, Tryz.func161.trans (congrArg some (by kernel_rfl))⟩
  f31 := Tryz.func162.trans (congrArg some (by kernel_rfl))
  f32 := Tryz.func163.trans (congrArg some (by kernel_rfl))
  f33 := ⟨ "slices.medianAdjacentOrdered[int]", by decide, Tryz.func164.trans (congrArg some (by kernel_rfl))⟩
  f34 := ⟨ "slices.medianOrdered[int]", by decide, Tryz.func165.trans (congrArg some (by kernel_rfl))⟩
  f35 := ⟨ "cmp.isNaN[int]", by decide, Tryz.func160.trans (congrArg some (by kernel_rfl))⟩
  f40 := ⟨ "slices.order2Ordered[int]", by decide, Tryz.func170.trans (congrArg some (by kernel_rfl))⟩
  t0 := Tryz.underlying0
  a0 := Tryz.isAgg0
  z0 := Tryz.sizeOf0
  v0 := Tryz.zeroValue0
  t3 := Tryz.underlying3
  a3 := Tryz.isAgg3
  z3 := Tryz.sizeOf3
  v3 := Tryz.zeroValue3
  t4 := Tryz.underlying4
  a4 := Tryz.isAgg4
  z4 := Tryz.sizeOf4
  v4 := Tryz.zeroValue4
  t5 := Tryz.underlying5
  a5 := Tryz.isAgg5
  z5 := Tryz.sizeOf5
  v5 := Tryz.zeroValue5
  t9 := Tryz.underlying9
  a9 := Tryz.isAgg9
  z9 := Tryz.sizeOf9
  v9 := Tryz.zeroValue9
  t22 := Tryz.underlying50
  a22 := Tryz.isAgg50
  z22 := Tryz.sizeOf50
  v22 := Tryz.zeroValue50
  t23 := Tryz.underlying50
  a23 := Tryz.isAgg50
  z23 := Tryz.sizeOf50
  v23 := Tryz.zeroValue50
  t25 := Tryz.underlying3
  a25 := Tryz.isAgg3
  z25 := Tryz.sizeOf3
  v25 := Tryz.zeroValue3
  t32 := Tryz.underlying195
  a32 := Tryz.isAgg195
  z32 := Tryz.sizeOf195
  v32 := Tryz.zeroValue195
  t35 := Tryz.underlying202
  a35 := Tryz.isAgg202
  z35 := Tryz.sizeOf202
  v35 := Tryz.zeroValue202
  t36 := Tryz.underlying203
  a36 := Tryz.isAgg203
  z36 := Tryz.sizeOf203
  v36 := Tryz.zeroValue203
  t41 := Tryz.underlying58
  a41 := Tryz.isAgg58
  z41 := Tryz.sizeOf58
  v41 := Tryz.zeroValue58
  t44 := Tryz.underlying210
  a44 := Tryz.isAgg210
  z44 := Tryz.sizeOf210
  v44 := Tryz.zeroValue210
  t46 := Tryz.underlying212
  a46 := Tryz.isAgg212
  z46 := Tryz.sizeOf212
  v46 := Tryz.zeroValue212
  t53 := Tryz.underlying220
  a53 := Tryz.isAgg220
  z53 := Tryz.sizeOf220
  v53 := Tryz.zeroValue220
  t57 := Tryz.underlying224
  a57 := Tryz.isAgg224
  z57 := Tryz.sizeOf224
  v57 := Tryz.zeroValue224
  t63 := Tryz.underlying228
  a63 := Tryz.isAgg228
  z63 := Tryz.sizeOf228
  v63 := Tryz.zeroValue228
  t64 := Tryz.underlying35
  a64 := Tryz.isAgg35
  z64 := Tryz.sizeOf35
  v64 := Tryz.zeroValue35
theorem sortsIn (m : Nat) : AnyZI.SortsIn Tryz.prog LyO_ren Fence.wide m :=
  ⟨fun blk off cap ss W hH hblk hsz => callsIn_wide.2 (AnyM.slices_Sort_int LyQ blk off cap ss W hH hblk hsz),
   fun p cap W => callsIn_wide.2 (AnyM.slices_Sort_int_none LyQ p cap W)⟩
theorem insert_perm {H : Type} (x : Lit × DataW H) : ∀ (l : List (Lit × DataW H)), (DataW.insert x l).Perm (x :: l)
  | [] => .refl _
  | y :: r => by
    unfold DataW.insert
    split
    · exact .refl _
    · exact ((insert_perm x r).cons y).trans (.swap _ _ _)
theorem foldr_insert_perm {H : Type} : ∀ (l : List (Lit × DataW H)), (l.foldr DataW.insert []).Perm l
  | [] => .refl _
  | x :: l => by
    rw [List.foldr_cons]
    exact (insert_perm x _).trans ((foldr_insert_perm l).cons x)
def noR : Value → Option (DataW Unit × List MemPlace) := fun _ => some (.nil, [])
/-- A map of numbers, as the shelf tells it. -/
theorem mapS_owns {b : Nat} {l : List (Int × Value)} {w : World} {F : Nat → Prop} (h : (mapS b l).holds w F) (hl : l.length ≤ 1000000) (hw : ∀ p ∈ l, (Lit.int .i64 p.1).wf = true) :
    ∃ D : DataW Unit, w.ownsMap Tryz.prog 3 noR b l.length D ∧ (intKeys D).Perm (l.map (·.1)) ∧ Maps.size D = l.length := by
  obtain ⟨⟨es, ck, hb, hst, he⟩, _⟩ := h
  have hlen : es.size = l.length := by simpa [mEnt] using congrArg List.length he
  have hkey : ∀ x ∈ es.toList, ∃ a : Int, x.key = .int .i64 a ∧ (Lit.int .i64 a).wf = true ∧ WideElems.rd Tryz.prog 3 noR x = some (.int .i64 a, .nil) := by
    intro x hx
    have hm : entOf x ∈ mEnt l := he ▸ List.mem_map.2 ⟨x, hx, rfl⟩
    obtain ⟨p, hp, hpe⟩ := List.mem_map.1 hm
    simp only [entOf, Prod.mk.injEq] at hpe
    refine ⟨p.1, hpe.1.symm, hw p hp, ?_⟩
    unfold WideElems.rd
    rw [← hpe.1, keyOf_int_mk Tryz.underlying3 (hw p hp)]
    rfl
  have hrg : es.toList.map (WideElems.rg Tryz.prog 3 noR) = l.map (fun p => (Lit.int .i64 p.1, DataW.nil)) := by
    have h1 : ∀ x ∈ es.toList, WideElems.rg Tryz.prog 3 noR x = (match (entOf x).1 with | .int _ a => (Lit.int .i64 a, DataW.nil) | _ => (.bool false, .nil)) := by
      intro x hx
      obtain ⟨a, ha, _, hr⟩ := hkey x hx
      unfold WideElems.rg
      rw [hr, entOf, ha]; rfl
    have h2 : es.toList.map (WideElems.rg Tryz.prog 3 noR) = (es.toList.map entOf).map (fun z => (match z.1 with | .int _ a => (Lit.int .i64 a, (DataW.nil : DataW Unit)) | _ => (.bool false, .nil))) := by
      rw [List.map_map]
      exact List.map_congr_left h1
    rw [h2, he, mEnt, List.map_map]
    rfl
  refine ⟨_, ⟨es, ck, hb, ⟨by unfold maxLen; omega, hst, fun x hx => by obtain ⟨a, _, _, hr⟩ := hkey x hx; exact ⟨_, hr⟩⟩, by omega, rfl⟩, ?_, ?_⟩
  · rw [hrg]
    show (List.map (fun p : Lit × DataW Unit => Go.intOf p.1) _).Perm _
    refine ((foldr_insert_perm _).map _).trans ?_
    rw [List.map_map]
    exact .refl _
  · rw [hrg]
    show (List.foldr DataW.insert [] _).length = _
    rw [(foldr_insert_perm _).length_eq, List.length_map]
def sortI (l : List Int) : List Int := l.mergeSort fun x y => decide (x ≤ y)
theorem sortI_len (l : List Int) : (sortI l).length = l.length := List.length_mergeSort l
theorem sortI_mem {l : List Int} {x : Int} : x ∈ sortI l ↔ x ∈ l := (List.mergeSort_perm l _).mem_iff
theorem keys_walk (H : List SP) (mb : Nat) : ∀ w, Sat w H → Calls Tryz.prog 103 #[.map (some mb)] w (Ret (ι := Nat) (fun b => .func (.func 121) #[] #[vp b]) fun b => blk b 110 [.map (some mb)] :: H) := by
  intro w hs
  refine ((callsIn_wide (n := 1)).1 (AnyZI.keys_in LyK Fence.wide 1 trivial rfl (some mb) w)).mono ?_
  rintro e w' ⟨rfl, rfl⟩
  exact ⟨w.heap.size, rfl, Sat.fresh hs (Upd.alloc _ _ _) (G' := fun b => b = w.heap.size) ⟨Blk.new w _ _, fun _ => Iff.rfl⟩ (fun b hb => by omega)⟩
set_option maxRecDepth 100000 in
theorem sorted_walk (H : List SP) (b mb : Nat) (l : List (Int × Value)) (hl : l.length ≤ 1000000) (hwf : ∀ p ∈ l, (Lit.int .i64 p.1).wf = true) : ∀ w, Sat w (blk b 110 [.map (some mb)] :: mapS mb l :: H) → Calls Tryz.prog 102 #[.func (.func 121) #[] #[vp b]] w
    (Ret (ι := Option Addr × Nat) (fun x => .slice x.1 (sortI (l.map (·.1))).length x.2) fun x => row intE 3 (.slice x.1 (sortI (l.map (·.1))).length x.2) (sortI (l.map (·.1))) :: blk b 110 [.map (some mb)] :: mapS mb l :: H) := by
  intro w hs
  obtain ⟨G1, ⟨hb, _⟩⟩ := hs.head
  obtain ⟨G2, hm⟩ := hs.tail.head
  obtain ⟨D, hown, hperm, hsize⟩ := mapS_owns hm hl hwf
  have hbl : b < w.heap.size := hb.lt
  have hcell : w.cell? ⟨b, 0, none⟩ = some (.map (some mb)) := hb.cell 0
  have hseq : SeqGives Fence.wide 2 Tryz.prog 121 #[.pointer (some ⟨b, 0, none⟩)] encZ (fun ss => ss.Perm (intKeys D)) (Maps.size D) w :=
    AnyZI.keys_gives (ρ := LyK_ren) { LyK with } Fence.wide _ trivial rfl (by omega) b mb l.length D w hbl hcell hown
  have cS := AnyZI.sorted_in LyO Fence.wide 5 trivial trivial trivial trivial rfl (by omega) (sortsIn _) (enters_of Tryz.func120 (by kernel_rfl) rfl) 121 #[.pointer (some ⟨b, 0, none⟩)] trivial (enters_of Tryz.func121 (by kernel_rfl) rfl) _ _ (by rw [hsize]; unfold maxLen; omega) (by rw [hsize]; omega) _ hseq
  refine (callsIn_wide.1 cS).mono ?_
  rintro e w' ⟨v, ss, rfl, hS, hrow, hnil, hbel⟩
  have hsort : ss.mergeSort (fun x y => decide (x ≤ y)) = sortI (l.map (·.1)) := mergeSort_of_perm_i (hS.trans hperm)
  have hlen : ss.length = (sortI (l.map (·.1))).length := by rw [← hsort, List.length_mergeSort]
  rw [hsort, hlen] at hrow
  have hflat : ∀ xs : List Int, intE.flat xs = xs.map encZ := by
    intro xs
    induction xs with
    | nil => rfl
    | cons a r ih =>
      show [Value.int .i64 a] ++ intE.flat r = _
      rw [ih]; rfl
  have hu : Upd NoB w w' := Upd.ofBelow hbel
  rcases hrow.2 with ⟨rfl, hz⟩ | ⟨g, cap, cur, rfl, hbase, hgb, r1, r2, r3, r4⟩
  · have h0 : sortI (l.map (·.1)) = [] := List.eq_nil_of_length_eq_zero hz
    refine ⟨(none, 0), by rw [hz], ?_⟩
    rw [h0]
    exact Sat.fresh hs hu (G' := NoB) (.inl ⟨rfl, rfl, rfl⟩) (fun _ h => h.elim)
  · refine ⟨(some ⟨g, 0, none⟩, cap), rfl, Sat.fresh hs hu (G' := OneB g) (.inr ⟨g, 0, cap, cur, rfl, rfl, hgb, r1, r2, ?_, ?_⟩) (fun b' hb' => by cases hb'; exact hbase)⟩
    · rw [r3]; show 0 + cap * 1 ≤ cap * 1; omega
    · rw [List.drop_zero, hflat]; exact r4
end Go.Proofs.YtlhjibkkkhgonaaGreatDoor
set_option linter.unusedVariables false
set_option linter.unusedSimpArgs false
namespace Go.Proofs.YtlhjibkkkhgonaaGreatDoor
open Go.RowKit G
def rootN : Nr := ⟨0, -1, 1, 0, false, false, 0⟩
def rootT (b ib : Nat) : Nd := ⟨rootN, [], b, ib⟩
set_option maxRecDepth 100000 in
theorem tnew_walk (H : List SP) : ∀ w, Sat w H → Calls Tryz.prog 35 #[] w (Ret (ι := Nat × Nat × Nat × Nat) (fun x => .pointer (some ⟨x.1, 0, none⟩)) fun x => blk x.1 112 [.map (some x.2.1)] :: mapS x.2.1 ([rootT x.2.2.1 x.2.2.2].map kp) :: (nodesL [rootT x.2.2.1 x.2.2.2] ++ H)) := by
 refine enterG (fn := Tryz.f35) 11 [] Tryz.func35 (by kernel_rfl) (by kernel_rfl) (by kernel_rfl) ?_
 refine Xq (Xg 1 (Xe [(0,.pointer none)] ?_ 1))
 refine Xq (Xg 5 (Xr [(0,.pointer none), (2,.agg #[vi 0, vi (-1), vi 1, vi 0, .bool false, .bool false])] ?_ 4 1))
 refine Xs (Xa (some 3) (fun (ib : Nat) => vp ib) (new_walk _ 60)) (fun (ib : Nat) => ?_) 3
 refine Xr [(0,.pointer none), (4,.agg #[vi 0, vi (-1), vi 1, vi 0, .bool false, .bool false, vi 0, vp ib])] ?_ 2 1
 refine Xs (Xn 109 [vi 0, vi (-1), vi 1, vi 0, .bool false, .bool false, vi 0, vp ib] (some 5) (fun b => vp b)) (fun b1 => ?_) 1
 refine Xe [(0,.pointer none), (1,vp b1)] ?_ 1
 refine Xq (Xg 7 (Xs (newMapS (some 6) (fun b => .map (some b)) (fun _ _ => by kernel_rfl)) (fun b2 => ?_) 6))
 refine Xr [(6,.map (some b2)), (0,.pointer none), (7,vp b1)] ?_ 5 1
 refine Xs (updS 110 (.tmp 6) (.const (.int .i64 0)) (.tmp 7) b2 0 [] (.pointer (some ⟨b1, 0, none⟩)) 3 105 (fun _ => by kernel_rfl) (by kernel_rfl) (.inr (by kernel_rfl)) (fun _ => by kernel_rfl) (fun _ => by kernel_rfl) (fun _ => by kernel_rfl) Tryz.underlying110 (by kernel_rfl) (rfl)) (fun _ => ?_) 4
 refine Xr [(0,.pointer none), (9,.agg #[.map (some b2)])] ?_ 2 2
 refine Xs (Xn 112 [.map (some b2)] (some 10) (fun b => vp b)) (fun b3 => ?_) 1
 refine Xe [(0,vp b3)] ?_ 1
 refine Xv (Y0 (vp b3) (fun w hs => ?_))
 exact ⟨(b3, b2, b1, ib), rfl, hs⟩
theorem deepN_rk {N : List Nr} (h : SK N) {rk : Int → Nat} (hr : ∀ x ∈ N, (x.id = 0 → rk x.id = 1) ∧ (x.id ≠ 0 → rk x.id = rk x.par + 1) ∧ rk x.id ≤ 5 ∧ (x.thr = false → rk x.id ≤ 4)) :
  ∀ (f : Nat) (x : Nr), x ∈ N → rk x.id ≤ f → deepN f N x.id = rk x.id
 | 0, x, hx, hf => by
  by_cases c : x.id = 0
  ·have := (hr x hx).1 c; omega
  ·have := (hr x hx).2.1 c; omega
 | f + 1, x, hx, hf => by
  rw [deepN, gt_of h.nd hx]
  simp only
  by_cases c : x.id = 0
  ·rw [(hr x hx).1 c, (h.rt x hx c).1]
   have : gt N (-1) = none := gt_none.2 fun y hy e => by
    by_cases c2 : y.id = 0
    ·omega
    ·have := (h.pa y hy c2).1; omega
   cases f with
   | zero => rfl
   | succ f => rw [deepN, this]
  ·obtain ⟨_, p, hp, hpi, _⟩ := h.pa x hx c
   have h1 := (hr x hx).2.1 c
   rw [← hpi, deepN_rk h hr f p hp (by rw [hpi]; omega), h1, hpi]
theorem SK.neg {N : List Nr} (h : SK N) {k : Int} (hk : k < 0) : gt N k = none := gt_none.2 fun y hy e => by
 by_cases c2 : y.id = 0
 ·omega
 ·have := (h.pa y hy c2).1; omega
set_option maxRecDepth 100000 in
theorem deep_walk {N : List Nr} {T : List Nd} (hT : OkT N T) (hsk : SK N) (H : List SP) (t mb : Nat) (k0 : Int) : ∀ w, Sat w (blk t 112 [.map (some mb)] :: mapS mb (T.map kp) :: (nodesL T ++ H)) → Calls Tryz.prog 104 #[vp t, vi k0] w (Ret (ι := Unit) (fun _ => vi (deepN 6 N k0 : Int)) fun _ => blk t 112 [.map (some mb)] :: mapS mb (T.map kp) :: (nodesL T ++ H)) := by
 obtain ⟨rk, hrk⟩ := hsk.rk
 have hnd := hsk.nd
 refine enterG (fn := Tryz.f104) 27 [vp t, vi k0] Tryz.func104 (by kernel_rfl) (by kernel_rfl) (by kernel_rfl) ?_
 refine Xq (Xg 1 (Xe [(0,vp t), (1,vi k0), (4,vi 0)] ?_ 1))
 refine scopeG 0 (fun (x : Int × Nat) => [(0, vp t), (1, vi x.1), (5, vi (x.2 : Int))]) (fun _ => (blk t 112 [.map (some mb)] :: mapS mb (T.map kp) :: (nodesL T ++ H))) (fun k (x : Int × Nat) => k + x.2 = 6 ∧ deepN 6 N k0 = x.2 + deepN k N x.1 ∧ ∀ y ∈ N, y.id = x.1 → rk y.id + x.2 ≤ 5) (by kernel_rfl) (by kernel_rfl) (by kernel_rfl) (by kernel_rfl) ?_ ?_
 ·skip
  rintro k ⟨id, n⟩ ⟨hkn, hd, hb⟩ K hK
  simp only at hkn hd hb
  cases hg : gt N id with
  | none =>
   refine Xq (Xg 11 (Xl [(0,vp t), (1,vi id), (5,vi n), (12,.map (some mb)), (13,vi id)] [(⟨t, 0, none⟩, .map (some mb))] (hasC (ba 0) has0) ?_ 6 5))
   refine Xs (yldS (lookY 110 (.tmp 12) (.tmp 13) true mb id (T.map kp) (.pointer none) (.tuple #[.pointer none, .bool false]) 3 105 (some 14) (fun _ => by kernel_rfl) (by kernel_rfl) (by kernel_rfl) (fun _ => by kernel_rfl) (fun _ => by kernel_rfl) Tryz.underlying110 (by kernel_rfl) (fun _ => by kernel_rfl) (mapAt (H := (blk t 112 [.map (some mb)] :: mapS mb (T.map kp) :: (nodesL T ++ H))) (i := 1) rfl) (by rw [lk_none hT hg]; rfl))) (fun _ => ?_) 5
   refine Xe [(0,vp t), (1,vi id), (5,vi n), (6,.pointer none), (7,.bool false)] ?_ 5
   refine Xq (Xq (Xg 2 (Xe [(0,vp t), (1,vi id), (5,vi n), (6,.pointer none), (18,.bool true)] ?_ 2)))
   refine Xc true (fun _ => ?_) (fun h => by cases h)
   refine Xq (Xg 2 (Xe [(0,vp t), (1,vi id), (5,vi n), (6,.pointer none), (4,vi n)] ?_ 2))
   refine Xv (thenV (jumpV ?_))
   have hz : deepN k N id = 0 := by cases k <;> simp [deepN, hg]
   refine Y0 (vi n) (fun w hs => ?_)
   exact ⟨(), by rw [hd, hz]; rfl, hs⟩
  | some y =>
   obtain ⟨i, z, hi, hzn, hzk⟩ := hT.get hg
   have hy := gt_mem hg
   have hr1 := hrk y hy.1
   have hb1 := hb y hy.1 hy.2
   refine Xq (Xg 11 (Xl [(0,vp t), (1,vi id), (5,vi n), (12,.map (some mb)), (13,vi id)] [(⟨t, 0, none⟩, .map (some mb))] (hasC (ba 0) has0) ?_ 6 5))
   refine Xs (yldS (lookY 110 (.tmp 12) (.tmp 13) true mb id (T.map kp) (.pointer none) (.tuple #[.pointer (some ⟨z.b, 0, none⟩), .bool true]) 3 105 (some 14) (fun _ => by kernel_rfl) (by kernel_rfl) (by kernel_rfl) (fun _ => by kernel_rfl) (fun _ => by kernel_rfl) Tryz.underlying110 (by kernel_rfl) (fun _ => by kernel_rfl) (mapAt (H := (blk t 112 [.map (some mb)] :: mapS mb (T.map kp) :: (nodesL T ++ H))) (i := 1) rfl) (by rw [lk_some hT hnd hi hzk]; rfl))) (fun _ => ?_) 5
   refine Xe [(0,vp t), (1,vi id), (5,vi n), (6,.pointer (some ⟨z.b, 0, none⟩)), (7,.bool true)] ?_ 5
   refine Xq (Xq (Xg 2 (Xe [(0,vp t), (1,vi id), (5,vi n), (6,.pointer (some ⟨z.b, 0, none⟩)), (18,.bool false)] ?_ 2)))
   refine Xc false (fun h => by cases h) (fun _ => ?_)
   refine Xk (Xq (Xg 3 (Xe [(0,vp t), (1,vi id), (5,vi (IntKind.i64.wrap ((n : Int) + 1))), (6,.pointer (some ⟨z.b, 0, none⟩))] ?_ 3)))
   refine Xq (Xg 6 (Xm [(0,vp t), (1,vi z.n.par), (5,vi (IntKind.i64.wrap ((n : Int) + 1)))] [(⟨z.b, 1, none⟩, vi z.n.par)] (hasC (up (up (nodeAt (T := T) (List.mem_of_getElem? hi) (j := 1) rfl))) has0) ?_ 6))
   refine gotoR 0 (by kernel_rfl) (by kernel_rfl) ?_
   obtain ⟨k, rfl⟩ : ∃ k', k = k' + 1 := ⟨k - 1, by omega⟩
   have hd2 : deepN (k + 1) N id = deepN k N z.n.par + 1 := by rw [deepN, hg, hzn]
   rw [show IntKind.i64.wrap ((n : Int) + 1) = ((n + 1 : Nat) : Int) by rw [w64 (by omega) (by omega)]; rfl]
   refine Xp [(0,vp t), (1,vi z.n.par), (5,vi ((n + 1 : Nat) : Int))] ?_
   exact jumpR (hK k (z.n.par, n + 1) (by omega) ⟨by simp only; omega, by simp only; rw [hd, hd2]; omega, fun p hp hpi => by simp only at hpi ⊢; rw [hzn] at hpi; by_cases c : y.id = 0; (have := (hsk.rt y hy.1 c).1; have h3 : gt N p.id = none := hsk.neg (by omega); rw [gt_of hnd hp] at h3; cases h3); (have := hr1.2.1 c; rw [hpi]; omega)⟩)
 ·skip
  intro K hK
  refine Xq (Xg 1 (Xe [(0,vp t), (1,vi k0), (4,vi 0), (5,vi 0)] ?_ 1))
  refine Xq ?_
  refine labelR (by kernel_rfl) ?_
  refine Xp [(0,vp t), (1,vi k0), (5,vi 0)] ?_
  refine codeR (by kernel_rfl) (hK 6 (k0, 0) ⟨rfl, by simp, fun y hy _ => by have := (hrk y hy).2.2.1; simpa using this⟩)
def ndV (x : Nr) : Value := .agg #[.int .i64 x.id, .int .i64 x.par, .int .i64 x.wt, .int .i64 x.pass, .bool x.thr, .bool x.rdy]
def zeroN : Nr := ⟨0, 0, 0, 0, false, false, 0⟩
set_option maxRecDepth 100000 in
theorem node_walk {N : List Nr} {T : List Nd} (hT : OkT N T) (hnd : (N.map (·.id)).Nodup) (H : List SP) (t mb : Nat) (id : Int) : ∀ w, Sat w (blk t 112 [.map (some mb)] :: mapS mb (T.map kp) :: (nodesL T ++ H)) → Calls Tryz.prog 71 #[vp t, vi id] w (Ret (ι := Unit) (fun _ => .tuple #[ndV ((gt N id).getD zeroN), .bool (gt N id).isSome]) fun _ => blk t 112 [.map (some mb)] :: mapS mb (T.map kp) :: (nodesL T ++ H)) := by
 refine enterG (fn := Tryz.f71) 24 [vp t, vi id] Tryz.func71 (by kernel_rfl) (by kernel_rfl) (by kernel_rfl) ?_
 cases hg : gt N id with
 | none =>
  refine Xq (Xg 2 (Xs (Xn 95 [vi 0, vi 0, vi 0, vi 0, .bool false, .bool false] (some 4) (fun b => vp b)) (fun b1 => ?_) 1))
  refine Xe [(4,vp b1), (0,vp t), (1,vi id), (5,.bool false)] ?_ 1
  refine Xq (Xg 11 (Xl [(4,vp b1), (5,.bool false), (12,.map (some mb)), (13,vi id)] [(⟨t, 0, none⟩, .map (some mb))] (hasC (ba 1) has0) ?_ 6 5))
  refine Xs (yldS (lookY 110 (.tmp 12) (.tmp 13) true mb id (T.map kp) (.pointer none) (.tuple #[.pointer none, .bool false]) 3 105 (some 14) (fun _ => by kernel_rfl) (by kernel_rfl) (by kernel_rfl) (fun _ => by kernel_rfl) (fun _ => by kernel_rfl) Tryz.underlying110 (by kernel_rfl) (fun _ => by kernel_rfl) (mapAt (H := (blk b1 95 [.int .i64 0, .int .i64 0, .int .i64 0, .int .i64 0, .bool false, .bool false] :: blk t 112 [.map (some mb)] :: mapS mb (T.map kp) :: (nodesL T ++ H))) (i := 2) rfl) (by rw [lk_none hT hg]; rfl))) (fun _ => ?_) 5
  refine Xe [(4,vp b1), (5,.bool false), (6,.pointer none), (7,.bool false)] ?_ 5
  refine Xq (Xq (Xg 2 (Xe [(4,vp b1), (5,.bool false), (6,.pointer none), (18,.bool true)] ?_ 2)))
  refine Xc true (fun _ => ?_) (fun h => by cases h)
  refine Xq (Xg 3 (Xr [(4,vp b1), (5,.bool false), (6,.pointer none), (19,.agg #[vi 0, vi 0, vi 0, vi 0, .bool false, .bool false])] ?_ 2 1))
  refine Xs (Xz [(0,vi 0), (1,vi 0), (2,vi 0), (3,vi 0), (4,.bool false), (5,.bool false)]) (fun _ => ?_) 1
  refine Xe [(4,vp b1), (5,.bool false), (6,.pointer none)] ?_ 1
  refine Xv (thenV ?_)
  refine doneG (.tuple #[.agg #[.int .i64 0, .int .i64 0, .int .i64 0, .int .i64 0, .bool false, .bool false], .bool false]) [(⟨b1, 0, none⟩, .int .i64 0), (⟨b1, 1, none⟩, .int .i64 0), (⟨b1, 2, none⟩, .int .i64 0), (⟨b1, 3, none⟩, .int .i64 0), (⟨b1, 4, none⟩, .bool false), (⟨b1, 5, none⟩, .bool false)] (hasC (blkAt (T := 95) (cs := [.int .i64 0, .int .i64 0, .int .i64 0, .int .i64 0, .bool false, .bool false]) 0 rfl rfl) (hasC (blkAt (T := 95) (cs := [.int .i64 0, .int .i64 0, .int .i64 0, .int .i64 0, .bool false, .bool false]) 0 rfl rfl) (hasC (blkAt (T := 95) (cs := [.int .i64 0, .int .i64 0, .int .i64 0, .int .i64 0, .bool false, .bool false]) 0 rfl rfl) (hasC (blkAt (T := 95) (cs := [.int .i64 0, .int .i64 0, .int .i64 0, .int .i64 0, .bool false, .bool false]) 0 rfl rfl) (hasC (blkAt (T := 95) (cs := [.int .i64 0, .int .i64 0, .int .i64 0, .int .i64 0, .bool false, .bool false]) 0 rfl rfl) (hasC (blkAt (T := 95) (cs := [.int .i64 0, .int .i64 0, .int .i64 0, .int .i64 0, .bool false, .bool false]) 0 rfl rfl) has0)))))) (fun _ => by kernel_rfl) (fun w hs => ?_) .ret (.inr rfl)
  exact ⟨(), rfl, hs.tail⟩
 | some y =>
  obtain ⟨i, z, hi, hzn, hzk⟩ := hT.get hg
  refine Xq (Xg 2 (Xs (Xn 95 [vi 0, vi 0, vi 0, vi 0, .bool false, .bool false] (some 4) (fun b => vp b)) (fun b1 => ?_) 1))
  refine Xe [(4,vp b1), (0,vp t), (1,vi id), (5,.bool false)] ?_ 1
  refine Xq (Xg 11 (Xl [(4,vp b1), (5,.bool false), (12,.map (some mb)), (13,vi id)] [(⟨t, 0, none⟩, .map (some mb))] (hasC (ba 1) has0) ?_ 6 5))
  refine Xs (yldS (lookY 110 (.tmp 12) (.tmp 13) true mb id (T.map kp) (.pointer none) (.tuple #[.pointer (some ⟨z.b, 0, none⟩), .bool true]) 3 105 (some 14) (fun _ => by kernel_rfl) (by kernel_rfl) (by kernel_rfl) (fun _ => by kernel_rfl) (fun _ => by kernel_rfl) Tryz.underlying110 (by kernel_rfl) (fun _ => by kernel_rfl) (mapAt (H := (blk b1 95 [.int .i64 0, .int .i64 0, .int .i64 0, .int .i64 0, .bool false, .bool false] :: blk t 112 [.map (some mb)] :: mapS mb (T.map kp) :: (nodesL T ++ H))) (i := 2) rfl) (by rw [lk_some hT hnd hi hzk]; rfl))) (fun _ => ?_) 5
  refine Xe [(4,vp b1), (5,.bool false), (6,.pointer (some ⟨z.b, 0, none⟩)), (7,.bool true)] ?_ 5
  refine Xq (Xq (Xg 2 (Xe [(4,vp b1), (5,.bool false), (6,.pointer (some ⟨z.b, 0, none⟩)), (18,.bool false)] ?_ 2)))
  refine Xc false (fun h => by cases h) (fun _ => ?_)
  refine Xk (Xq (Xg 6 (Xl [(4,vp b1), (5,.bool false), (23,.agg #[vi z.n.id, vi z.n.par, vi z.n.wt, vi z.n.pass, .bool z.n.thr, .bool z.n.rdy])] [(⟨z.b, 0, none⟩, vi z.n.id), (⟨z.b, 1, none⟩, vi z.n.par), (⟨z.b, 2, none⟩, vi z.n.wt), (⟨z.b, 3, none⟩, vi z.n.pass), (⟨z.b, 4, none⟩, .bool z.n.thr), (⟨z.b, 5, none⟩, .bool z.n.rdy)] (hasC (up (up (up (nodeAt (T := T) (List.mem_of_getElem? hi) (j := 0) rfl)))) (hasC (up (up (up (nodeAt (T := T) (List.mem_of_getElem? hi) (j := 1) rfl)))) (hasC (up (up (up (nodeAt (T := T) (List.mem_of_getElem? hi) (j := 2) rfl)))) (hasC (up (up (up (nodeAt (T := T) (List.mem_of_getElem? hi) (j := 3) rfl)))) (hasC (up (up (up (nodeAt (T := T) (List.mem_of_getElem? hi) (j := 4) rfl)))) (hasC (up (up (up (nodeAt (T := T) (List.mem_of_getElem? hi) (j := 5) rfl)))) has0)))))) ?_ 2 4)))
  refine Xs (Xz [(0,vi z.n.id), (1,vi z.n.par), (2,vi z.n.wt), (3,vi z.n.pass), (4,.bool z.n.thr), (5,.bool z.n.rdy)]) (fun _ => ?_) 1
  refine Xe [(4,vp b1), (5,.bool true)] ?_ 1
  refine Xv ?_
  subst hzn
  refine doneG (.tuple #[.agg #[.int .i64 z.n.id, .int .i64 z.n.par, .int .i64 z.n.wt, .int .i64 z.n.pass, .bool z.n.thr, .bool z.n.rdy], .bool true]) [(⟨b1, 0, none⟩, .int .i64 z.n.id), (⟨b1, 1, none⟩, .int .i64 z.n.par), (⟨b1, 2, none⟩, .int .i64 z.n.wt), (⟨b1, 3, none⟩, .int .i64 z.n.pass), (⟨b1, 4, none⟩, .bool z.n.thr), (⟨b1, 5, none⟩, .bool z.n.rdy)] (hasC (blkAt (T := 95) (cs := [.int .i64 z.n.id, .int .i64 z.n.par, .int .i64 z.n.wt, .int .i64 z.n.pass, .bool z.n.thr, .bool z.n.rdy]) 0 rfl rfl) (hasC (blkAt (T := 95) (cs := [.int .i64 z.n.id, .int .i64 z.n.par, .int .i64 z.n.wt, .int .i64 z.n.pass, .bool z.n.thr, .bool z.n.rdy]) 0 rfl rfl) (hasC (blkAt (T := 95) (cs := [.int .i64 z.n.id, .int .i64 z.n.par, .int .i64 z.n.wt, .int .i64 z.n.pass, .bool z.n.thr, .bool z.n.rdy]) 0 rfl rfl) (hasC (blkAt (T := 95) (cs := [.int .i64 z.n.id, .int .i64 z.n.par, .int .i64 z.n.wt, .int .i64 z.n.pass, .bool z.n.thr, .bool z.n.rdy]) 0 rfl rfl) (hasC (blkAt (T := 95) (cs := [.int .i64 z.n.id, .int .i64 z.n.par, .int .i64 z.n.wt, .int .i64 z.n.pass, .bool z.n.thr, .bool z.n.rdy]) 0 rfl rfl) (hasC (blkAt (T := 95) (cs := [.int .i64 z.n.id, .int .i64 z.n.par, .int .i64 z.n.wt, .int .i64 z.n.pass, .bool z.n.thr, .bool z.n.rdy]) 0 rfl rfl) has0)))))) (fun _ => by kernel_rfl) (fun w hs => ?_) .ret (.inr rfl)
  exact ⟨(), rfl, hs.tail⟩
end Go.Proofs.YtlhjibkkkhgonaaGreatDoor
set_option linter.unusedVariables false
set_option linter.unusedSimpArgs false
namespace Go.Proofs.YtlhjibkkkhgonaaGreatDoor
open Go.RowKit G
def RK (N : List Nr) (rk : Int → Nat) : Prop := ∀ x ∈ N, (x.id = 0 → rk x.id = 1) ∧ (x.id ≠ 0 → rk x.id = rk x.par + 1) ∧ rk x.id ≤ 5 ∧ (x.thr = false → rk x.id ≤ 4)
theorem RK.ups {N : List Nr} {rk : Int → Nat} (h : RK N rk) {k : Int} {f : Nr → Nr} (hf : Skel f) : RK (upN N k f) rk := fun x hx => by
  obtain ⟨y, hy, ⟨_, rfl⟩ | ⟨_, rfl⟩⟩ := mem_upN.1 hx
  · rw [hf.id, hf.par, hf.thr]; exact h y hy
  · exact h x hy
theorem RK.pos {N : List Nr} {rk : Int → Nat} (h : RK N rk) {x : Nr} (hx : x ∈ N) : 1 ≤ rk x.id := by
  by_cases c : x.id = 0
  · rw [(h x hx).1 c]; omega
  · rw [(h x hx).2.1 c]; omega
theorem RK.up {N : List Nr} {rk : Int → Nat} (hs : SK N) (h : RK N rk) {x p : Nr} (hx : x ∈ N) (hp : p ∈ N) (he : p.id = x.par) : rk x.id = rk p.id + 1 := by
  by_cases c : x.id = 0
  · have h1 := (hs.rt x hx c).1
    have h2 := hs.neg (k := p.id) (by omega)
    rw [gt_of hs.nd hp] at h2; cases h2
  · rw [(h x hx).2.1 c, he]
theorem SK.ne_par {N : List Nr} (hs : SK N) {x : Nr} (hx : x ∈ N) : x.id ≠ x.par := by
  obtain ⟨rk, h⟩ := hs.rk
  intro e
  have := RK.up hs h hx hx e
  omega
theorem SK.pos {N : List Nr} (hs : SK N) {x : Nr} (hx : x ∈ N) : 0 ≤ x.id := by
  by_cases c : x.id = 0
  · omega
  · have := (hs.pa x hx c).1; omega
/-- What an index holds: each number once; fewer than there may be. -/
theorem OkT.uni {N : List Nr} {T : List Nd} (h : OkT N T) (hs : SK N) {x : Nd} (hx : x ∈ T) {e e' : Int × Int} (he : e ∈ x.q) (he' : e' ∈ x.q) (hk : e.2 = e'.2) : e = e' := by
  obtain ⟨p, k⟩ := e
  obtain ⟨p', k'⟩ := e'
  simp only at hk; subst hk
  rw [KD_uni hs.nd ((h.mem x hx p k).1 he) ((h.mem x hx p' k).1 he')]
theorem OkT.qlen {N : List Nr} {T : List Nd} (h : OkT N T) (hs : SK N) {x : Nd} (hx : x ∈ T) : x.q.length < 60 := by
  have h1 : (x.n.id :: x.q.map (·.2)).Nodup := by
    refine List.nodup_cons.2 ⟨fun hm => ?_, ?_⟩
    · obtain ⟨⟨p, k⟩, he, hk⟩ := List.mem_map.1 hm
      obtain ⟨y, hy, h1, _, _, h4⟩ := (h.mem x hx p k).1 he
      simp only at hk
      have := hs.ne_par hy
      rw [h4, h1, hk] at this
      exact this rfl
    · refine List.pairwise_map.2 ((h.srt x hx).imp_of_mem fun {a b} ha hb hab e => ?_)
      have := h.uni hs hx ha hb e
      subst this
      exact eLt_irrefl _ hab
  have h2 : (x.n.id :: x.q.map (·.2)) ⊆ N.map (·.id) := by
    intro k hk
    rcases List.mem_cons.1 hk with rfl | hk
    · exact List.mem_map.2 ⟨x.n, h.mem_n hx, rfl⟩
    · obtain ⟨⟨p, k⟩, he, rfl⟩ := List.mem_map.1 hk
      obtain ⟨y, hy, _, _, _, h4⟩ := (h.mem x hx p k).1 he
      exact List.mem_map.2 ⟨y, hy, h4⟩
  have h3 := h1.length_le_of_subset h2
  have h4 := hs.len
  simp only [List.length_cons, List.length_map] at h3
  omega
theorem LB.ups {N : List Nr} (h : LB N) {x : Nr} (hn : (N.map (·.id)).Nodup) (hx : x ∈ N) {f : Nr → Nr} (h1 : isW (f x).wt = true) (h2 : 0 ≤ (f x).pass ∧ (f x).pass ≤ 1099511627776) (h3 : 0 ≤ (f x).now ∧ (f x).now ≤ 1099511627776) : LB (upN N x.id f) := by
  have key : ∀ y ∈ upN N x.id f, (y = f x) ∨ y ∈ N := fun y hy => by
    obtain ⟨z, hz, ⟨e, rfl⟩ | ⟨_, rfl⟩⟩ := mem_upN.1 hy
    · left; rw [nd_eq hn hz hx e]
    · exact .inr hz
  refine ⟨fun y hy => ?_, fun y hy => ?_, fun y hy => ?_⟩ <;> rcases key y hy with rfl | hy
  · exact h1
  · exact h.wt y hy
  · exact h2
  · exact h.pass y hy
  · exact h3
  · exact h.now y hy
def wkF (P : Int) (x : Nr) : Nr := { x with rdy := true, pass := mxI x.pass P }
def rsF (x : Nr) : Nr := { x with rdy := false }
def psF (P : Int) (x : Nr) : Nr := { x with pass := P }
theorem wkF_skel (P : Int) : Skel (wkF P) := ⟨fun _ => rfl, fun _ => rfl, fun _ => rfl⟩
theorem rsF_skel : Skel rsF := ⟨fun _ => rfl, fun _ => rfl, fun _ => rfl⟩
theorem psF_skel (P : Int) : Skel (psF P) := ⟨fun _ => rfl, fun _ => rfl, fun _ => rfl⟩
theorem same2 {T : List Nd} {i j : Nat} {x p x' p' : Nd} (hi : T[i]? = some x) (hj : T[j]? = some p) (hij : i ≠ j) (hx : x'.n.id = x.n.id ∧ x'.b = x.b ∧ x'.ib = x.ib) (hp : p'.n.id = p.n.id ∧ p'.b = p.b ∧ p'.ib = p.ib) : SameT T ((T.set i x').set j p') :=
  (SameT.set hi hx).trans (SameT.set (x := p) (by rw [List.getElem?_set, if_neg hij]; exact hj) hp)
/-- A round of waking. -/
theorem wake_round {N : List Nr} {T : List Nd} (hT : OkT N T) (hsk : SK N) (hlb : LB N) {i j : Nat} {x p : Nd} (hi : T[i]? = some x) (hj : T[j]? = some p) (hp : p.n.id = x.n.par) (hr : x.n.rdy = false) :
    i ≠ j ∧ putE 60 p.q (mxI x.n.pass p.n.now) x.n.id = (0, insE (mxI x.n.pass p.n.now, x.n.id) p.q) ∧ p.q.length < 1000000 ∧ SrtE p.q ∧ x.n.pass.natAbs < 2 ^ 53 ∧ p.n.now.natAbs < 2 ^ 53 ∧
    OkT (upN N x.n.id (wkF p.n.now)) ((T.set i { x with n := wkF p.n.now x.n }).set j { p with q := insE (mxI x.n.pass p.n.now, x.n.id) p.q }) ∧
    SameT T ((T.set i { x with n := wkF p.n.now x.n }).set j { p with q := insE (mxI x.n.pass p.n.now, x.n.id) p.q }) ∧ SK (upN N x.n.id (wkF p.n.now)) ∧ LB (upN N x.n.id (wkF p.n.now)) := by
  have hxT := List.mem_of_getElem? hi
  have hpT := List.mem_of_getElem? hj
  have hx := hT.mem_n hxT
  have hpn := hT.mem_n hpT
  have hij : i ≠ j := fun e => by subst e; rw [hi] at hj; cases hj; exact hsk.ne_par hx hp
  have hno : ∀ e ∈ p.q, e.2 ≠ x.n.id := fun e he hk => by
    obtain ⟨s, k⟩ := e
    simp only at hk; subst hk
    have := (KD_one hsk.nd hx).1 ((hT.mem p hpT s _).1 he)
    rw [hr] at this; cases this.2.1
  have hql := hT.qlen hsk hpT
  have h1 := hlb.pass x.n hx
  have h2 := hlb.now p.n hpn
  have hmx : 0 ≤ mxI x.n.pass p.n.now ∧ mxI x.n.pass p.n.now ≤ 1099511627776 := by unfold mxI; split <;> omega
  refine ⟨hij, putE_ok hmx (hsk.pos hx) hno (by omega), by omega, hT.srt p hpT, by omega, by omega, ?_, ?_, hsk.upN (wkF_skel _), hlb.ups hsk.nd hx (hlb.wt x.n hx) hmx (hlb.now x.n hx)⟩
  · refine hT.two hsk.nd hi hj hp hij (wkF_skel _) ((hT.srt p hpT).ins fun e he h => hno e he (by rw [h])) fun s k => ?_
    rw [mem_insE, KD_up hsk.nd hx (wkF_skel _), Prod.mk.injEq]
    show (s = mxI x.n.pass p.n.now ∧ k = x.n.id) ∨ (s, k) ∈ p.q ↔ (k ≠ x.n.id ∧ KD N p.n.id s k) ∨ (k = x.n.id ∧ x.n.par = p.n.id ∧ true = true ∧ mxI x.n.pass p.n.now = s)
    rw [hT.mem p hpT s k]
    show _ ∨ KD N p.n.id s k ↔ _
    constructor
    · rintro (⟨rfl, rfl⟩ | h)
      · exact .inr ⟨rfl, hp.symm, rfl, rfl⟩
      · exact .inl ⟨fun e => hno (s, k) ((hT.mem p hpT s k).2 h) e, h⟩
    · rintro (⟨_, h⟩ | ⟨h3, _, _, h4⟩)
      · exact .inr h
      · exact .inl ⟨h4.symm, h3⟩
  · exact same2 hi hj hij ⟨rfl, rfl, rfl⟩ ⟨rfl, rfl, rfl⟩
/-- A round of resting. -/
theorem rest_round {N : List Nr} {T : List Nd} (hT : OkT N T) (hsk : SK N) (hlb : LB N) {i j : Nat} {x p : Nd} (hi : T[i]? = some x) (hj : T[j]? = some p) (hp : p.n.id = x.n.par) (hr : x.n.rdy = true) :
    i ≠ j ∧ p.q.length < 1000000 ∧ ∃ q, dropE p.q x.n.id = (0, q) ∧ OkT (upN N x.n.id rsF) ((T.set i { x with n := rsF x.n }).set j { p with q := q }) ∧ SameT T ((T.set i { x with n := rsF x.n }).set j { p with q := q }) ∧ SK (upN N x.n.id rsF) ∧ LB (upN N x.n.id rsF) := by
  have hxT := List.mem_of_getElem? hi
  have hpT := List.mem_of_getElem? hj
  have hx := hT.mem_n hxT
  have hij : i ≠ j := fun e => by subst e; rw [hi] at hj; cases hj; exact hsk.ne_par hx hp
  have hin : (x.n.pass, x.n.id) ∈ p.q := (hT.mem p hpT _ _).2 ((KD_one hsk.nd hx).2 ⟨hp.symm, hr, rfl⟩)
  obtain ⟨q, h1, h2, _, h4⟩ := dropE_is (hT.srt p hpT) hin rfl (fun e' he' hk => hT.uni hsk hpT he' hin hk)
  have hql := hT.qlen hsk hpT
  refine ⟨hij, by omega, q, h1, ?_, same2 hi hj hij ⟨rfl, rfl, rfl⟩ ⟨rfl, rfl, rfl⟩, hsk.upN rsF_skel, hlb.ups hsk.nd hx (hlb.wt x.n hx) (hlb.pass x.n hx) (hlb.now x.n hx)⟩
  refine hT.two hsk.nd hi hj hp hij rsF_skel h2 fun s k => ?_
  rw [h4, KD_up hsk.nd hx rsF_skel, hT.mem p hpT s k]
  show KD N p.n.id s k ∧ k ≠ x.n.id ↔ (k ≠ x.n.id ∧ KD N p.n.id s k) ∨ (k = x.n.id ∧ x.n.par = p.n.id ∧ false = true ∧ x.n.pass = s)
  simp [And.comm]
/-- A ready node's other pass. -/
theorem sets_round {N : List Nr} {T : List Nd} (hT : OkT N T) (hsk : SK N) (hlb : LB N) {i j : Nat} {x p : Nd} (hi : T[i]? = some x) (hj : T[j]? = some p) (hp : p.n.id = x.n.par) (hr : x.n.rdy = true) {P : Int} (hP : 0 ≤ P ∧ P ≤ 1099511627776) :
    i ≠ j ∧ p.q.length < 1000000 ∧ SrtE p.q ∧ ∃ q, rekeyE p.q x.n.id P = (0, q) ∧ OkT (upN N x.n.id (psF P)) ((T.set i { x with n := psF P x.n }).set j { p with q := q }) ∧ SameT T ((T.set i { x with n := psF P x.n }).set j { p with q := q }) ∧ SK (upN N x.n.id (psF P)) ∧ LB (upN N x.n.id (psF P)) := by
  have hxT := List.mem_of_getElem? hi
  have hpT := List.mem_of_getElem? hj
  have hx := hT.mem_n hxT
  have hij : i ≠ j := fun e => by subst e; rw [hi] at hj; cases hj; exact hsk.ne_par hx hp
  have hin : (x.n.pass, x.n.id) ∈ p.q := (hT.mem p hpT _ _).2 ((KD_one hsk.nd hx).2 ⟨hp.symm, hr, rfl⟩)
  obtain ⟨q, h1, h2, _, h4⟩ := rekeyE_is (hT.srt p hpT) hin rfl (fun e' he' hk => hT.uni hsk hpT he' hin hk) hP
  have hql := hT.qlen hsk hpT
  refine ⟨hij, by omega, hT.srt p hpT, q, h1, ?_, same2 hi hj hij ⟨rfl, rfl, rfl⟩ ⟨rfl, rfl, rfl⟩, hsk.upN (psF_skel P), hlb.ups hsk.nd hx (hlb.wt x.n hx) hP (hlb.now x.n hx)⟩
  refine hT.two hsk.nd hi hj hp hij (psF_skel P) h2 fun s k => ?_
  rw [h4, KD_up hsk.nd hx (psF_skel P), hT.mem p hpT s k, Prod.mk.injEq]
  show (s = P ∧ k = x.n.id) ∨ (KD N p.n.id s k ∧ k ≠ x.n.id) ↔ (k ≠ x.n.id ∧ KD N p.n.id s k) ∨ (k = x.n.id ∧ x.n.par = p.n.id ∧ x.n.rdy = true ∧ P = s)
  rw [hr]
  constructor
  · rintro (⟨rfl, rfl⟩ | ⟨h5, h6⟩)
    · exact .inr ⟨rfl, hp.symm, rfl, rfl⟩
    · exact .inl ⟨h6, h5⟩
  · rintro (⟨h5, h6⟩ | ⟨h5, _, _, h6⟩)
    · exact .inr ⟨h6, h5⟩
    · exact .inl ⟨h6.symm, h5⟩
/-- A walk up from a node: what is still to do. -/
structure Climb (F : Nat → List Nr → Int → List Nr) (N : List Nr) (k0 : Int) (T : List Nd) (rk : Int → Nat) (k : Nat) (T1 : List Nd) (x1 : Nd) : Prop where
  ex : ∃ N1, OkT N1 T1 ∧ SK N1 ∧ LB N1 ∧ RK N1 rk ∧ F 6 N k0 = F k N1 x1.n.id
  same : SameT T T1
  mem : ∃ i : Nat, T1[i]? = some x1
  le : rk x1.n.id ≤ k
end Go.Proofs.YtlhjibkkkhgonaaGreatDoor
