/- passq: insert, Put, Drop, Rekey. Conditions: none. -/
import Derived.Test.YtjbjngikaiggdaaGreatPq3
set_option linter.unusedVariables false
set_option linter.unusedSimpArgs false
namespace Go.Proofs.YtjbjngikaiggdaaGreat
open Go.RowKit G
def pinS (P : SP) (G : Nat → Prop) : SP := ⟨fun w F => P.holds w F ∧ F = G, fun h => P.lt h.1, fun h a => ⟨P.stay h.1 a, h.2⟩⟩
/-- A call that changes a row, by what it says of the row. -/
theorem rowCall {α : Type} {E : Enc α} {T : TypeId} {v : Value} {xs zs : List α} {H : List SP} {P : Program} {f : FuncId} {vs : Array Value}
    (h : ∀ w F, Row E T w F v xs → SatF H w (fun b => True ∧ ¬ F b) → Calls P f vs w (RowPost E T F w zs)) :
    ∀ w, Sat w (row E T v xs :: H) → Calls P f vs w (Ret (ι := Option Addr × Nat) (fun p => .slice p.1 zs.length p.2) fun p => row E T (.slice p.1 zs.length p.2) zs :: H) := by
  rintro w ⟨G, hG, _, h3⟩
  refine (h w G hG h3).mono ?_
  rintro e w' ⟨v', F', rfl, hr, hu, hf⟩
  have hp : Sat w (pinS (row E T v xs) G :: H) := ⟨G, ⟨hG, rfl⟩, fun _ _ => trivial, h3⟩
  have key : Sat w' (row E T v' zs :: H) := hp.change fun G' hG' => by
    obtain ⟨_, rfl⟩ := hG'
    exact ⟨hu, F', hr, hf⟩
  rcases hr with ⟨rfl, h0, _⟩ | ⟨b, o, c, cur, rfl, _⟩
  · subst h0; exact ⟨(none, 0), rfl, key⟩
  · exact ⟨(some ⟨b, o, none⟩, c), rfl, key⟩
theorem ins_walk (H : List SP) (j : Nat) (v : Value) (xs : List (Int × Int)) (x : Int × Int) (yb : Nat) (T' : TypeId) (hj : H[j]? = some (blk yb T' (slE.enc x))) (i : Nat) (hi : i ≤ xs.length) (hn : xs.length ≤ 1000000000) :
    ∀ w, Sat w (row slE 65 v xs :: H) → Calls Tryz.prog 54 #[v, .int .i64 i, .slice (some ⟨yb, 0, none⟩) 1 1] w (Ret (ι := Option Addr × Nat) (fun p => .slice p.1 (xs.take i ++ x :: xs.drop i).length p.2) fun p => row slE 65 (.slice p.1 (xs.take i ++ x :: xs.drop i).length p.2) (xs.take i ++ x :: xs.drop i) :: H) :=
  rowCall fun w F hr h3 => by
    obtain ⟨K, ⟨hk1, hk2⟩, hk3, _⟩ := SatF.pick j hj h3
    exact ins_sl w F v xs x hr yb T' hk1 ((hk3 yb ((hk2 yb).2 rfl)).2) i hi hn
theorem del_walk (H : List SP) (v : Value) (xs : List (Int × Int)) (i : Nat) (hi : i < xs.length) (hn : xs.length ≤ 1000000000) :
    ∀ w, Sat w (row slE 65 v xs :: H) → Calls Tryz.prog 47 #[v, .int .i64 i, .int .i64 ((i : Int) + 1)] w (Ret (ι := Option Addr × Nat) (fun p => .slice p.1 (xs.take i ++ xs.drop (i + 1)).length p.2) fun p => row slE 65 (.slice p.1 (xs.take i ++ xs.drop (i + 1)).length p.2) (xs.take i ++ xs.drop (i + 1)) :: H) :=
  rowCall fun w F hr _ => del_sl w F v xs hr i hi hn
/-- An entry where it belongs. -/
def insE (e : Int × Int) : List (Int × Int) → List (Int × Int)
  | [] => [e]
  | x :: r => if eLt x e then x :: insE e r else e :: x :: r
theorem insE_cut (e : Int × Int) : ∀ (l : List (Int × Int)) (i : Nat), CutE l e i → l.take i ++ e :: l.drop i = insE e l
  | [], i, h => by simp [insE]
  | x :: r, 0, h => by
    have := h.2.2 0 x (by omega) rfl
    simp [insE, this]
  | x :: r, i + 1, h => by
    have h1 := h.2.1 0 x (by omega) rfl
    have ih := insE_cut e r i ⟨by have := h.1; simp at this; omega, fun v y hv hy => h.2.1 (v + 1) y (by omega) (by simpa using hy), fun v y hv hy => h.2.2 (v + 1) y (by omega) (by simpa using hy)⟩
    simp only [insE, List.take_succ_cons, List.drop_succ_cons, List.cons_append, if_pos h1, ih]
set_option maxHeartbeats 1000000 in
set_option maxRecDepth 100000 in
theorem insert_walk (H : List SP) (b : Nat) (A : Option Addr) (cap : Nat) (room : Int) (l : List (Int × Int)) (p i : Int) (hsr : SrtE l) (hl : l.length < 1000000) : ∀ w, Sat w (blk b 81 [.slice A l.length cap, .int .i64 room] :: row slE 65 (.slice A l.length cap) l :: H) → Calls Tryz.prog 46 #[.pointer (some ⟨b, 0, none⟩), .agg #[.int .i64 p, .int .i64 i]] w (Ret (ι := Option Addr × Nat) (fun _ => .tuple #[]) fun x => blk b 81 [.slice x.1 (insE (p, i) l).length x.2, .int .i64 room] :: row slE 65 (.slice x.1 (insE (p, i) l).length x.2) (insE (p, i) l) :: H) := by
  refine enterG (fn := Tryz.f46) 26 [.pointer (some ⟨b, 0, none⟩), .agg #[.int .i64 p, .int .i64 i]] Tryz.func46 (by kernel_rfl) (by kernel_rfl) (by kernel_rfl) ?_
  refine seqR (by kernel_rfl) ?_
  refine regionR 1 (by kernel_rfl) (by kernel_rfl) ?_
  refine (stepR (z := 0) (newS 65 [.int .i64 p, .int .i64 i] (some 3) (fun b => .pointer (some ⟨b, 0, none⟩)) (fun _ _ => by kernel_rfl)) (fun b1 => ?_) : RT _ _ _ _ _ _ 1 _)
  refine endR ?_
  refine seqR (by kernel_rfl) ?_
  refine drawR (fun w => Sat w (blk b1 65 [.int .i64 p, .int .i64 i] :: blk b 81 [.slice A l.length cap, .int .i64 room] :: row slE 65 (.slice A l.length cap) l :: H)) [] 11 (by kernel_rfl) (by kernel_rfl) (by kernel_rfl) (fun _ h => by first | exact h | exact h.tail | exact h.tail.tail | exact h.tail.tail.tail | exact h.tail.tail.tail.tail) ?_
  refine takesR [0, 1, 2, 3, 4] [3, 0, 10, 11] 6 [true, true, true, true, true, false, false, false, false, false, false] [(3, .pointer (some ⟨b1, 0, none⟩)), (0, .pointer (some ⟨b, 0, none⟩)), (10, .slice A l.length cap), (11, .agg #[.int .i64 p, .int .i64 i])] [(⟨b, 0, none⟩, .slice A l.length cap), (⟨b1, 0, none⟩, .int .i64 p), (⟨b1, 1, none⟩, .int .i64 i)] rfl (fun _ d _ _ _ h => by cases d <;> exact h) (fun _ h => by first | exact h | exact h.tail | exact h.tail.tail | exact h.tail.tail.tail | exact h.tail.tail.tail.tail) (hasC (blkAt (T := 81) (cs := [.slice A l.length cap, .int .i64 room]) 1 rfl rfl) (hasC (blkAt (T := 65) (cs := [.int .i64 p, .int .i64 i]) 0 rfl rfl) (hasC (blkAt (T := 65) (cs := [.int .i64 p, .int .i64 i]) 0 rfl rfl) has0))) (fun _ => by kernel_rfl) ?_
  refine oneR 5 5 [true, true, true, true, true, true, false, false, false, false, false] rfl rfl (by kernel_rfl) (callS 53 [.slice A l.length cap, .agg #[.int .i64 p, .int .i64 i], .func (.func 49) #[] #[]] (some 12) (fun (x : {x : Nat × Bool // CutE l (p, i) x.1}) => .tuple #[.int .i64 (x.1.1 : Int), .bool x.1.2]) (fun (x : {x : Nat × Bool // CutE l (p, i) x.1}) => (blk b1 65 [.int .i64 p, .int .i64 i] :: blk b 81 [.slice A l.length cap, .int .i64 room] :: row slE 65 (.slice A l.length cap) l :: H)) (fun _ => by kernel_rfl) (bs_walk _ ⟨A, cap, l⟩ p i (rowKRat 2 rfl) hsr hl)) (fun _ _ h hn => by first | exact h | exact h.tail | exact h.tail.tail | exact h.tail.tail.tail | exact h.tail.tail.tail.tail | exact absurd hn (by decide)) (fun (x : {x : Nat × Bool // CutE l (p, i) x.1}) => ?_)
  obtain ⟨⟨m, fo⟩, hcut⟩ := x
  dsimp only
  refine takesR [6, 7, 8, 9, 10] [3, 0, 4] 0 [true, true, true, true, true, true, true, true, true, true, true] [(3, .pointer (some ⟨b1, 0, none⟩)), (0, .pointer (some ⟨b, 0, none⟩)), (4, .int .i64 (m : Int))] [] rfl (fun _ d _ _ _ h => by cases d <;> exact h) (fun _ h => by first | exact h | exact h.tail | exact h.tail.tail | exact h.tail.tail.tail | exact h.tail.tail.tail.tail) has0 (fun _ => by kernel_rfl) ?_
  refine drawnR (by kernel_rfl) ?_
  refine PT.pick 2 rfl ?_
  refine drawR (fun w => Sat w (blk b1 65 [.int .i64 p, .int .i64 i] :: blk b 81 [.slice A l.length cap, .int .i64 room] :: H)) [11] 12 (by kernel_rfl) (by kernel_rfl) (by kernel_rfl) (fun _ h => by first | exact h | exact h.tail | exact h.tail.tail | exact h.tail.tail.tail | exact h.tail.tail.tail.tail) ?_
  refine takesR [0, 1, 2, 3, 4, 5, 6] [15, 19, 20, 21] 5 [true, true, true, true, true, true, true, false, false, false, false, false] [(15, .pointer (some ⟨b, 0, none⟩)), (19, .slice A l.length cap), (20, .int .i64 (m : Int)), (21, .agg #[.int .i64 p, .int .i64 i])] [(⟨b, 0, none⟩, .slice A l.length cap), (⟨b1, 0, none⟩, .int .i64 p), (⟨b1, 1, none⟩, .int .i64 i)] rfl (fun _ d _ _ _ h => by cases d <;> exact h) (fun _ h => by first | exact h | exact h.tail | exact h.tail.tail | exact h.tail.tail.tail | exact h.tail.tail.tail.tail) (hasC (blkAt (T := 81) (cs := [.slice A l.length cap, .int .i64 room]) 1 rfl rfl) (hasC (blkAt (T := 65) (cs := [.int .i64 p, .int .i64 i]) 0 rfl rfl) (hasC (blkAt (T := 65) (cs := [.int .i64 p, .int .i64 i]) 0 rfl rfl) has0))) (fun _ => by kernel_rfl) ?_
  refine oneR 7 4 [true, true, true, true, true, true, true, true, false, false, false, false] rfl rfl (by kernel_rfl) (newS 65 [.int .i64 p, .int .i64 i] (some 22) (fun b => .slice (some ⟨b, 0, none⟩) 1 1) (fun _ _ => by kernel_rfl)) (fun _ _ h hn => by first | exact h | exact h.tail | exact h.tail.tail | exact h.tail.tail.tail | exact h.tail.tail.tail.tail | exact absurd hn (by decide)) (fun b2 => ?_)
  refine DT.pick 1 rfl ?_
  refine oneR 8 3 [true, true, true, true, true, true, true, true, true, false, false, false] rfl rfl (by kernel_rfl) (callS 54 [.slice A l.length cap, .int .i64 (m : Int), .slice (some ⟨b2, 0, none⟩) 1 1] (some 23) (fun (r : Option Addr × Nat) => .slice r.1 (l.take m ++ (p, i) :: l.drop m).length r.2) (fun (r : Option Addr × Nat) => (row slE 65 (.slice r.1 (l.take m ++ (p, i) :: l.drop m).length r.2) (l.take m ++ (p, i) :: l.drop m) :: blk b2 65 [.int .i64 p, .int .i64 i] :: blk b1 65 [.int .i64 p, .int .i64 i] :: blk b 81 [.slice A l.length cap, .int .i64 room] :: H)) (fun _ => by kernel_rfl) (ins_walk (blk b2 65 [.int .i64 p, .int .i64 i] :: blk b1 65 [.int .i64 p, .int .i64 i] :: blk b 81 [.slice A l.length cap, .int .i64 room] :: H) 0 (.slice A l.length cap) l (p, i) b2 _ rfl m hcut.1 (by omega))) (fun _ _ h hn => by first | exact h | exact h.tail | exact h.tail.tail | exact h.tail.tail.tail | exact h.tail.tail.tail.tail | exact absurd hn (by decide)) (fun (r : Option Addr × Nat) => ?_)
  rw [insE_cut (p, i) l m hcut]
  refine takesR [9, 10] [23, 25] 1 [true, true, true, true, true, true, true, true, true, true, true, false] [(23, .slice r.1 ((insE (p, i) l).length) r.2), (25, .pointer (some ⟨b, 0, none⟩))] [] rfl (fun _ d _ _ _ h => by cases d <;> exact h) (fun _ h => by first | exact h | exact h.tail | exact h.tail.tail | exact h.tail.tail.tail | exact h.tail.tail.tail.tail) has0 (fun _ => by kernel_rfl) ?_
  refine DT.pick 3 rfl ?_
  refine oneR 11 0 [true, true, true, true, true, true, true, true, true, true, true, true] rfl rfl (by kernel_rfl) (storeS [(0, .slice r.1 ((insE (p, i) l).length) r.2)] [.slice r.1 ((insE (p, i) l).length) r.2, .int .i64 room] (fun _ => by kernel_rfl) (by kernel_rfl) (by kernel_rfl)) (fun _ _ h hn => by first | exact h | exact h.tail | exact h.tail.tail | exact h.tail.tail.tail | exact h.tail.tail.tail.tail | exact absurd hn (by decide)) (fun _ => ?_)
  refine drawnR (by kernel_rfl) ?_
  refine done0 (.tuple #[]) (fun _ => by kernel_rfl) (fun w hs => ?_) .normal (.inl rfl)
  exact ⟨r, rfl, Sat.erase 2 rfl (Sat.erase 2 rfl hs)⟩
def pqErr (e : Int) : Value := if e = 0 then .nilIface else .iface 46 (.int .i64 e)
def putE (room : Int) (l : List (Int × Int)) (p id : Int) : Int × List (Int × Int) :=
  if ((!isPassB p) || decide (id < 0)) = true then (10, l) else if findI l id ≥ 0 then (20, l) else if (l.length : Int) ≥ room then (14, l) else (0, insE (p, id) l)
set_option maxRecDepth 100000 in
theorem put_walk (H : List SP) (b : Nat) (A : Option Addr) (cap : Nat) (room : Int) (l : List (Int × Int)) (p id : Int) (hsr : SrtE l) (hl : l.length < 1000000) : ∀ w, Sat w (blk b 81 [.slice A l.length cap, .int .i64 room] :: row slE 65 (.slice A l.length cap) l :: H) → Calls Tryz.prog 34 #[.pointer (some ⟨b, 0, none⟩), .int .i64 p, .int .i64 id] w (Ret (ι := Option Addr × Nat) (fun _ => pqErr (putE room l p id).1) fun x => blk b 81 [.slice x.1 (putE room l p id).2.length x.2, .int .i64 room] :: row slE 65 (.slice x.1 (putE room l p id).2.length x.2) (putE room l p id).2 :: H) := by
  refine enterG (fn := Tryz.f34) 39 [.pointer (some ⟨b, 0, none⟩), .int .i64 p, .int .i64 id] Tryz.func34 (by kernel_rfl) (by kernel_rfl) (by kernel_rfl) ?_
  refine seqR (by kernel_rfl) ?_
  refine regionR 1 (by kernel_rfl) (by kernel_rfl) ?_
  refine (run0 (z := 0) 1 [0, 1, 2, 6] [(0, .pointer (some ⟨b, 0, none⟩)), (1, .int .i64 p), (2, .int .i64 id), (6, .nilIface)] (fun _ => by kernel_rfl) (endR ?_) : RT _ _ _ _ _ _ 1 _)
  refine seqR (by kernel_rfl) ?_
  refine blockR 0 (by kernel_rfl) (by kernel_rfl) ?_
  refine seqR (by kernel_rfl) ?_
  refine regionR 8 (by kernel_rfl) (by kernel_rfl) ?_
  refine (run0 (z := 7) 1 [0, 1, 2, 6, 8] [(0, .pointer (some ⟨b, 0, none⟩)), (1, .int .i64 p), (2, .int .i64 id), (6, .nilIface), (8, .int .i64 p)] (fun _ => by kernel_rfl) ?_ : RT _ _ _ _ _ _ 8 _)
  refine (stepR (z := 6) (callS 44 [.int .i64 p] (some 9) (fun _ => .bool (isPassB p)) (fun (_ : Unit) => (blk b 81 [.slice A l.length cap, .int .i64 room] :: row slE 65 (.slice A l.length cap) l :: H)) (fun _ => by kernel_rfl) (isPass_walk _ p)) (fun _ => ?_) : RT _ _ _ _ _ _ 7 _)
  refine (run0 (z := 4) 2 [0, 1, 2, 6, 11] [(0, .pointer (some ⟨b, 0, none⟩)), (1, .int .i64 p), (2, .int .i64 id), (6, .nilIface), (11, .bool (!(isPassB p)))] (fun _ => by kernel_rfl) ?_ : RT _ _ _ _ _ _ 6 _)
  refine (segR (ι := Unit) (z := 1) 3 (fun _ => [(0, .pointer (some ⟨b, 0, none⟩)), (1, .int .i64 p), (2, .int .i64 id), (6, .nilIface), (14, .bool ((!(isPassB p)) || (decide (id < 0))))]) (fun _ => (blk b 81 [.slice A l.length cap, .int .i64 room] :: row slE 65 (.slice A l.length cap) l :: H)) ?_ (fun _ => ?_) : RT _ _ _ _ _ _ 4 _)
  · cases hg4 : (!(isPassB p)) with
    | true =>
      refine (run0 (z := 0) 3 [0, 1, 2, 6, 14] [(0, .pointer (some ⟨b, 0, none⟩)), (1, .int .i64 p), (2, .int .i64 id), (6, .nilIface), (14, .bool true)] (fun _ => by kernel_rfl) (endR ?_) : RT _ _ _ _ _ _ 3 _)
      refine PT.keep (L' := [(0, .pointer (some ⟨b, 0, none⟩)), (1, .int .i64 p), (2, .int .i64 id), (6, .nilIface), (14, .bool (true || (decide (id < 0))))]) [0, 1, 2, 6, 14] rfl ?_
      exact midR () rfl rfl
    | false =>
      refine (run0 (z := 0) 3 [0, 1, 2, 6, 14] [(0, .pointer (some ⟨b, 0, none⟩)), (1, .int .i64 p), (2, .int .i64 id), (6, .nilIface), (14, .bool (decide (id < 0)))] (fun _ => by kernel_rfl) (endR ?_) : RT _ _ _ _ _ _ 3 _)
      refine PT.keep (L' := [(0, .pointer (some ⟨b, 0, none⟩)), (1, .int .i64 p), (2, .int .i64 id), (6, .nilIface), (14, .bool (false || (decide (id < 0))))]) [0, 1, 2, 6, 14] rfl ?_
      exact midR () rfl rfl
  refine (run0 (z := 0) 1 [0, 1, 2, 6, 7] [(0, .pointer (some ⟨b, 0, none⟩)), (1, .int .i64 p), (2, .int .i64 id), (6, .nilIface), (7, .bool ((!(isPassB p)) || (decide (id < 0))))] (fun _ => by kernel_rfl) (endR ?_) : RT _ _ _ _ _ _ 1 _)
  refine condR (b := (!(isPassB p)) || (decide (id < 0))) (by kernel_rfl) (fun _ => by kernel_rfl) (fun h1 => ?_) (fun h1 => ?_)
  · skip
    refine seqR (by kernel_rfl) ?_
    refine regionR 2 (by kernel_rfl) (by kernel_rfl) ?_
    refine (run0 (z := 0) 2 [0, 1, 2, 6] [(0, .pointer (some ⟨b, 0, none⟩)), (1, .int .i64 p), (2, .int .i64 id), (6, .iface 46 (.int .i64 10))] (fun _ => by kernel_rfl) (endR ?_) : RT _ _ _ _ _ _ 2 _)
    refine retR (by kernel_rfl) ?_
    refine blockV ?_
    refine thenV ?_
    refine done0 (.iface 46 (.int .i64 10)) (fun _ => by kernel_rfl) (fun w hs => ?_) .ret (.inr rfl)
    rw [putE, if_pos h1]; exact ⟨(A, cap), rfl, hs⟩
  · skip
    have h1' : ¬ ((!isPassB p) || decide (id < 0)) = true := by rw [show ((!isPassB p) || decide (id < 0)) = false from h1]; simp
    refine seqR (by kernel_rfl) ?_
    refine regionR 5 (by kernel_rfl) (by kernel_rfl) ?_
    refine (run0 (z := 3) 2 [0, 1, 2, 6, 17, 18] [(0, .pointer (some ⟨b, 0, none⟩)), (1, .int .i64 p), (2, .int .i64 id), (6, .nilIface), (17, .pointer (some ⟨b, 0, none⟩)), (18, .int .i64 id)] (fun _ => by kernel_rfl) ?_ : RT _ _ _ _ _ _ 5 _)
    refine (stepR (z := 2) (callS 45 [.pointer (some ⟨b, 0, none⟩), .int .i64 id] (some 19) (fun _ => .int .i64 (findI l id)) (fun _ => (blk b 81 [.slice A l.length cap, .int .i64 room] :: row slE 65 (.slice A l.length cap) l :: H)) (fun _ => by kernel_rfl) (find_walk _ b A cap room l id (by omega))) (fun _ => ?_) : RT _ _ _ _ _ _ 3 _)
    refine (run0 (z := 0) 2 [0, 1, 2, 6, 16] [(0, .pointer (some ⟨b, 0, none⟩)), (1, .int .i64 p), (2, .int .i64 id), (6, .nilIface), (16, .bool (decide ((findI l id) ≥ 0)))] (fun _ => by kernel_rfl) (endR ?_) : RT _ _ _ _ _ _ 2 _)
    refine condR (b := decide ((findI l id) ≥ 0)) (by kernel_rfl) (fun _ => by kernel_rfl) (fun h2 => ?_) (fun h2 => ?_)
    · skip
      refine seqR (by kernel_rfl) ?_
      refine regionR 2 (by kernel_rfl) (by kernel_rfl) ?_
      refine (run0 (z := 0) 2 [0, 1, 2, 6] [(0, .pointer (some ⟨b, 0, none⟩)), (1, .int .i64 p), (2, .int .i64 id), (6, .iface 46 (.int .i64 20))] (fun _ => by kernel_rfl) (endR ?_) : RT _ _ _ _ _ _ 2 _)
      refine retR (by kernel_rfl) ?_
      refine blockV ?_
      refine thenV ?_
      refine done0 (.iface 46 (.int .i64 20)) (fun _ => by kernel_rfl) (fun w hs => ?_) .ret (.inr rfl)
      rw [putE, if_neg h1', if_pos (of_decide_eq_true h2)]; exact ⟨(A, cap), rfl, hs⟩
    · skip
      refine seqR (by kernel_rfl) ?_
      refine drawR (fun w => Sat w (blk b 81 [.slice A l.length cap, .int .i64 room] :: row slE 65 (.slice A l.length cap) l :: H)) [] 11 (by kernel_rfl) (by kernel_rfl) (by kernel_rfl) (fun _ h => by first | exact h | exact h.tail | exact h.tail.tail | exact h.tail.tail.tail | exact h.tail.tail.tail.tail) ?_
      refine takesR [0, 1, 2, 3, 4, 5, 6, 7, 8, 9, 10] [0, 1, 2, 6, 22] 0 [true, true, true, true, true, true, true, true, true, true, true] [(0, .pointer (some ⟨b, 0, none⟩)), (1, .int .i64 p), (2, .int .i64 id), (6, .nilIface), (22, .bool (decide ((l.length : Int) ≥ room)))] [(⟨b, 0, none⟩, .slice A l.length cap), (⟨b, 1, none⟩, .int .i64 room)] rfl (fun _ d _ _ _ h => by cases d <;> exact h) (fun _ h => by first | exact h | exact h.tail | exact h.tail.tail | exact h.tail.tail.tail | exact h.tail.tail.tail.tail) (hasC (blkAt (T := 81) (cs := [.slice A l.length cap, .int .i64 room]) 0 rfl rfl) (hasC (blkAt (T := 81) (cs := [.slice A l.length cap, .int .i64 room]) 0 rfl rfl) has0)) (fun _ => by kernel_rfl) ?_
      refine drawnR (by kernel_rfl) ?_
      refine condR (b := decide ((l.length : Int) ≥ room)) (by kernel_rfl) (fun _ => by kernel_rfl) (fun h3 => ?_) (fun h3 => ?_)
      · skip
        refine seqR (by kernel_rfl) ?_
        refine regionR 2 (by kernel_rfl) (by kernel_rfl) ?_
        refine (run0 (z := 0) 2 [0, 1, 2, 6] [(0, .pointer (some ⟨b, 0, none⟩)), (1, .int .i64 p), (2, .int .i64 id), (6, .iface 46 (.int .i64 14))] (fun _ => by kernel_rfl) (endR ?_) : RT _ _ _ _ _ _ 2 _)
        refine retR (by kernel_rfl) ?_
        refine blockV ?_
        refine thenV ?_
        refine done0 (.iface 46 (.int .i64 14)) (fun _ => by kernel_rfl) (fun w hs => ?_) .ret (.inr rfl)
        rw [putE, if_neg h1', if_neg (of_decide_eq_false h2), if_pos (of_decide_eq_true h3)]; exact ⟨(A, cap), rfl, hs⟩
      · skip
        refine skipR (by kernel_rfl) ?_
        refine seqR (by kernel_rfl) ?_
        refine regionR 5 (by kernel_rfl) (by kernel_rfl) ?_
        refine (run0 (z := 1) 4 [6, 34, 37] [(6, .nilIface), (34, .pointer (some ⟨b, 0, none⟩)), (37, .agg #[.int .i64 p, .int .i64 id])] (fun _ => by kernel_rfl) ?_ : RT _ _ _ _ _ _ 5 _)
        refine (stepR (z := 0) (callS 46 [.pointer (some ⟨b, 0, none⟩), .agg #[.int .i64 p, .int .i64 id]] (some 38) (fun (r : Option Addr × Nat) => .tuple #[]) (fun (r : Option Addr × Nat) => blk b 81 [.slice r.1 (insE (p, id) l).length r.2, .int .i64 room] :: row slE 65 (.slice r.1 (insE (p, id) l).length r.2) (insE (p, id) l) :: H) (fun _ => by kernel_rfl) (insert_walk _ b A cap room l p id hsr hl)) (fun (r : Option Addr × Nat) => ?_) : RT _ _ _ _ _ _ 1 _)
        refine endR ?_
        refine seqR (by kernel_rfl) ?_
        refine regionR 1 (by kernel_rfl) (by kernel_rfl) ?_
        refine (run0 (z := 0) 1 [6] [(6, .nilIface)] (fun _ => by kernel_rfl) (endR ?_) : RT _ _ _ _ _ _ 1 _)
        refine retR (by kernel_rfl) ?_
        refine done0 (.nilIface) (fun _ => by kernel_rfl) (fun w hs => ?_) .ret (.inr rfl)
        rw [putE, if_neg h1', if_neg (of_decide_eq_false h2), if_neg (of_decide_eq_false h3)]; exact ⟨r, rfl, hs⟩
def dropE (l : List (Int × Int)) (id : Int) : Int × List (Int × Int) := if findI l id < 0 then (13, l) else (0, l.take (findI l id).toNat ++ l.drop ((findI l id).toNat + 1))
set_option maxRecDepth 100000 in
theorem drop_walk (H : List SP) (b : Nat) (A : Option Addr) (cap : Nat) (room : Int) (l : List (Int × Int)) (id : Int) (hl : l.length < 1000000) : ∀ w, Sat w (blk b 81 [.slice A l.length cap, .int .i64 room] :: row slE 65 (.slice A l.length cap) l :: H) → Calls Tryz.prog 36 #[.pointer (some ⟨b, 0, none⟩), .int .i64 id] w (Ret (ι := Option Addr × Nat) (fun _ => pqErr (dropE l id).1) fun x => blk b 81 [.slice x.1 (dropE l id).2.length x.2, .int .i64 room] :: row slE 65 (.slice x.1 (dropE l id).2.length x.2) (dropE l id).2 :: H) := by
  refine enterG (fn := Tryz.f36) 23 [.pointer (some ⟨b, 0, none⟩), .int .i64 id] Tryz.func36 (by kernel_rfl) (by kernel_rfl) (by kernel_rfl) ?_
  refine seqR (by kernel_rfl) ?_
  refine regionR 1 (by kernel_rfl) (by kernel_rfl) ?_
  refine (run0 (z := 0) 1 [0, 1, 4] [(0, .pointer (some ⟨b, 0, none⟩)), (1, .int .i64 id), (4, .nilIface)] (fun _ => by kernel_rfl) (endR ?_) : RT _ _ _ _ _ _ 1 _)
  refine seqR (by kernel_rfl) ?_
  refine regionR 4 (by kernel_rfl) (by kernel_rfl) ?_
  refine (run0 (z := 2) 2 [0, 4, 6, 7] [(0, .pointer (some ⟨b, 0, none⟩)), (4, .nilIface), (6, .pointer (some ⟨b, 0, none⟩)), (7, .int .i64 id)] (fun _ => by kernel_rfl) ?_ : RT _ _ _ _ _ _ 4 _)
  refine (stepR (z := 1) (callS 45 [.pointer (some ⟨b, 0, none⟩), .int .i64 id] (some 8) (fun _ => .int .i64 (findI l id)) (fun _ => (blk b 81 [.slice A l.length cap, .int .i64 room] :: row slE 65 (.slice A l.length cap) l :: H)) (fun _ => by kernel_rfl) (find_walk _ b A cap room l id (by omega))) (fun _ => ?_) : RT _ _ _ _ _ _ 2 _)
  refine (run0 (z := 0) 1 [0, 4, 5] [(0, .pointer (some ⟨b, 0, none⟩)), (4, .nilIface), (5, .int .i64 (findI l id))] (fun _ => by kernel_rfl) (endR ?_) : RT _ _ _ _ _ _ 1 _)
  refine seqR (by kernel_rfl) ?_
  refine seqR (by kernel_rfl) ?_
  refine regionR 2 (by kernel_rfl) (by kernel_rfl) ?_
  refine (run0 (z := 0) 2 [0, 4, 5, 10] [(0, .pointer (some ⟨b, 0, none⟩)), (4, .nilIface), (5, .int .i64 (findI l id)), (10, .bool (decide ((findI l id) < 0)))] (fun _ => by kernel_rfl) (endR ?_) : RT _ _ _ _ _ _ 2 _)
  refine condR (b := decide ((findI l id) < 0)) (by kernel_rfl) (fun _ => by kernel_rfl) (fun h1 => ?_) (fun h1 => ?_)
  · skip
    refine seqR (by kernel_rfl) ?_
    refine regionR 2 (by kernel_rfl) (by kernel_rfl) ?_
    refine (run0 (z := 0) 2 [0, 4, 5] [(0, .pointer (some ⟨b, 0, none⟩)), (4, .iface 46 (.int .i64 13)), (5, .int .i64 (findI l id))] (fun _ => by kernel_rfl) (endR ?_) : RT _ _ _ _ _ _ 2 _)
    refine retR (by kernel_rfl) ?_
    refine thenV ?_
    refine done0 (.iface 46 (.int .i64 13)) (fun _ => by kernel_rfl) (fun w hs => ?_) .ret (.inr rfl)
    rw [dropE, if_pos (of_decide_eq_true h1)]; exact ⟨(A, cap), rfl, hs⟩
  · skip
    have h1' := of_decide_eq_false h1
    rcases findI_cases l id with ⟨hf, _⟩ | ⟨i, e, hf, he, hid, _⟩
    · omega
    have hil := (List.getElem?_eq_some_iff.1 he).1
    have hd : dropE l id = (0, l.take i ++ l.drop (i + 1)) := by rw [dropE, if_neg h1', hf, Int.toNat_natCast]
    rw [hf, hd]
    have hw : IntKind.i64.wrap ((i : Int) + 1) = (i : Int) + 1 := by rw [IntKind.wrap_i64]; omega
    refine skipR (by kernel_rfl) ?_
    refine seqR (by kernel_rfl) ?_
    refine regionR 12 (by kernel_rfl) (by kernel_rfl) ?_
    refine (runR (H := (blk b 81 [.slice A l.length cap, .int .i64 room] :: row slE 65 (.slice A l.length cap) l :: H)) (z := 4) 8 [4, 12, 16, 17, 19] [(4, .nilIface), (12, .pointer (some ⟨b, 0, none⟩)), (16, .slice A l.length cap), (17, .int .i64 (i : Int)), (19, .int .i64 (IntKind.i64.wrap ((i : Int) + 1)))] [(⟨b, 0, none⟩, .slice A l.length cap)] (hasC (blkAt (T := 81) (cs := [.slice A l.length cap, .int .i64 room]) 0 rfl rfl) has0) (fun _ => by kernel_rfl) ?_ : RT _ _ _ _ _ _ 12 _)
    rw [hw]
    refine (RT.pick 1 rfl ?_ : RT _ _ _ (blk b 81 [.slice A l.length cap, .int .i64 room] :: row slE 65 (.slice A l.length cap) l :: H) _ _ 4 _)
    refine (stepR (z := 3) (callS 47 [.slice A l.length cap, .int .i64 (i : Int), .int .i64 ((i : Int) + 1)] (some 20) (fun (r : Option Addr × Nat) => .slice r.1 (l.take i ++ l.drop (i + 1)).length r.2) (fun (r : Option Addr × Nat) => (row slE 65 (.slice r.1 (l.take i ++ l.drop (i + 1)).length r.2) (l.take i ++ l.drop (i + 1)) :: blk b 81 [.slice A l.length cap, .int .i64 room] :: H)) (fun _ => by kernel_rfl) (del_walk (blk b 81 [.slice A l.length cap, .int .i64 room] :: H) (.slice A l.length cap) l i hil (by omega))) (fun (r : Option Addr × Nat) => ?_) : RT _ _ _ _ _ _ 4 _)
    refine (run0 (z := 1) 2 [20, 4, 22] [(20, .slice r.1 ((l.take i ++ l.drop (i + 1)).length) r.2), (4, .nilIface), (22, .pointer (some ⟨b, 0, none⟩))] (fun _ => by kernel_rfl) ?_ : RT _ _ _ _ _ _ 3 _)
    refine (RT.pick 1 rfl ?_ : RT _ _ _ (row slE 65 (.slice r.1 (l.take i ++ l.drop (i + 1)).length r.2) (l.take i ++ l.drop (i + 1)) :: blk b 81 [.slice A l.length cap, .int .i64 room] :: H) _ _ 1 _)
    refine (stepR (z := 0) (storeS [(0, .slice r.1 ((l.take i ++ l.drop (i + 1)).length) r.2)] [.slice r.1 ((l.take i ++ l.drop (i + 1)).length) r.2, .int .i64 room] (fun _ => by kernel_rfl) (by kernel_rfl) (by kernel_rfl)) (fun _ => ?_) : RT _ _ _ _ _ _ 1 _)
    refine endR ?_
    refine seqR (by kernel_rfl) ?_
    refine regionR 1 (by kernel_rfl) (by kernel_rfl) ?_
    refine (run0 (z := 0) 1 [4] [(4, .nilIface)] (fun _ => by kernel_rfl) (endR ?_) : RT _ _ _ _ _ _ 1 _)
    refine retR (by kernel_rfl) ?_
    refine done0 (.nilIface) (fun _ => by kernel_rfl) (fun w hs => ?_) .ret (.inr rfl)
    exact ⟨r, rfl, hs⟩
def rekeyE (l : List (Int × Int)) (id p : Int) : Int × List (Int × Int) := if isPassB p = false then (10, l) else if findI l id < 0 then (13, l) else (0, insE (p, id) (l.take (findI l id).toNat ++ l.drop ((findI l id).toNat + 1)))
theorem SrtE.drop {l : List (Int × Int)} (h : SrtE l) (id : Int) : SrtE (dropE l id).2 := by
  unfold dropE
  split
  · exact h
  · rw [← List.eraseIdx_eq_take_drop_succ]; exact h.sublist (List.eraseIdx_sublist _ _)
theorem dropE_len (l : List (Int × Int)) (id : Int) : (dropE l id).2.length ≤ l.length := by
  unfold dropE
  split
  · exact Nat.le_refl _
  · rw [← List.eraseIdx_eq_take_drop_succ]; exact (List.eraseIdx_sublist _ _).length_le
set_option maxRecDepth 100000 in
theorem rekey_walk (H : List SP) (b : Nat) (A : Option Addr) (cap : Nat) (room : Int) (l : List (Int × Int)) (id p : Int) (hsr : SrtE l) (hl : l.length < 1000000) : ∀ w, Sat w (blk b 81 [.slice A l.length cap, .int .i64 room] :: row slE 65 (.slice A l.length cap) l :: H) → Calls Tryz.prog 38 #[.pointer (some ⟨b, 0, none⟩), .int .i64 id, .int .i64 p] w (Ret (ι := Option Addr × Nat) (fun _ => pqErr (rekeyE l id p).1) fun x => blk b 81 [.slice x.1 (rekeyE l id p).2.length x.2, .int .i64 room] :: row slE 65 (.slice x.1 (rekeyE l id p).2.length x.2) (rekeyE l id p).2 :: H) := by
  refine enterG (fn := Tryz.f38) 23 [.pointer (some ⟨b, 0, none⟩), .int .i64 id, .int .i64 p] Tryz.func38 (by kernel_rfl) (by kernel_rfl) (by kernel_rfl) ?_
  refine seqR (by kernel_rfl) ?_
  refine regionR 1 (by kernel_rfl) (by kernel_rfl) ?_
  refine (run0 (z := 0) 1 [0, 1, 2, 6] [(0, .pointer (some ⟨b, 0, none⟩)), (1, .int .i64 id), (2, .int .i64 p), (6, .nilIface)] (fun _ => by kernel_rfl) (endR ?_) : RT _ _ _ _ _ _ 1 _)
  refine seqR (by kernel_rfl) ?_
  refine seqR (by kernel_rfl) ?_
  refine regionR 3 (by kernel_rfl) (by kernel_rfl) ?_
  refine (run0 (z := 2) 1 [0, 1, 2, 6, 8] [(0, .pointer (some ⟨b, 0, none⟩)), (1, .int .i64 id), (2, .int .i64 p), (6, .nilIface), (8, .int .i64 p)] (fun _ => by kernel_rfl) ?_ : RT _ _ _ _ _ _ 3 _)
  refine (stepR (z := 1) (callS 44 [.int .i64 p] (some 9) (fun _ => .bool (isPassB p)) (fun (_ : Unit) => (blk b 81 [.slice A l.length cap, .int .i64 room] :: row slE 65 (.slice A l.length cap) l :: H)) (fun _ => by kernel_rfl) (isPass_walk _ p)) (fun _ => ?_) : RT _ _ _ _ _ _ 2 _)
  refine (run0 (z := 0) 1 [0, 1, 2, 6, 10] [(0, .pointer (some ⟨b, 0, none⟩)), (1, .int .i64 id), (2, .int .i64 p), (6, .nilIface), (10, .bool (!(isPassB p)))] (fun _ => by kernel_rfl) (endR ?_) : RT _ _ _ _ _ _ 1 _)
  cases h1 : (isPassB p) with
  | true =>
    refine condR (b := false) (by kernel_rfl) (fun _ => by kernel_rfl) (fun h => by cases h) (fun _ => ?_)
    refine skipR (by kernel_rfl) ?_
    refine seqR (by kernel_rfl) ?_
    refine seqR (by kernel_rfl) ?_
    refine regionR 4 (by kernel_rfl) (by kernel_rfl) ?_
    refine (run0 (z := 2) 2 [0, 1, 2, 6, 12, 13] [(0, .pointer (some ⟨b, 0, none⟩)), (1, .int .i64 id), (2, .int .i64 p), (6, .nilIface), (12, .pointer (some ⟨b, 0, none⟩)), (13, .int .i64 id)] (fun _ => by kernel_rfl) ?_ : RT _ _ _ _ _ _ 4 _)
    refine (stepR (z := 1) (callS 36 [.pointer (some ⟨b, 0, none⟩), .int .i64 id] (some 14) (fun (r : Option Addr × Nat) => pqErr (dropE l id).1) (fun (r : Option Addr × Nat) => blk b 81 [.slice r.1 (dropE l id).2.length r.2, .int .i64 room] :: row slE 65 (.slice r.1 (dropE l id).2.length r.2) (dropE l id).2 :: H) (fun _ => by kernel_rfl) (drop_walk _ b A cap room l id hl)) (fun (r : Option Addr × Nat) => ?_) : RT _ _ _ _ _ _ 2 _)
    rcases Int.lt_or_le (findI l id) 0 with h2 | h2
    · rw [show dropE l id = (13, l) by rw [dropE, if_pos h2]]
      refine (run0 (z := 0) 1 [0, 1, 2, 6, 7] [(0, .pointer (some ⟨b, 0, none⟩)), (1, .int .i64 id), (2, .int .i64 p), (6, .nilIface), (7, .iface 46 (.int .i64 13))] (fun _ => by kernel_rfl) (endR ?_) : RT _ _ _ _ _ _ 1 _)
      refine seqR (by kernel_rfl) ?_
      refine regionR 2 (by kernel_rfl) (by kernel_rfl) ?_
      refine (run0 (z := 0) 2 [0, 1, 2, 6, 7, 16] [(0, .pointer (some ⟨b, 0, none⟩)), (1, .int .i64 id), (2, .int .i64 p), (6, .nilIface), (7, .iface 46 (.int .i64 13)), (16, .bool true)] (fun _ => by kernel_rfl) (endR ?_) : RT _ _ _ _ _ _ 2 _)
      refine condR (b := true) (by kernel_rfl) (fun _ => by kernel_rfl) (fun _ => ?_) (fun h => by cases h)
      refine seqR (by kernel_rfl) ?_
      refine regionR 2 (by kernel_rfl) (by kernel_rfl) ?_
      refine (run0 (z := 0) 2 [0, 1, 2, 6] [(0, .pointer (some ⟨b, 0, none⟩)), (1, .int .i64 id), (2, .int .i64 p), (6, .iface 46 (.int .i64 13))] (fun _ => by kernel_rfl) (endR ?_) : RT _ _ _ _ _ _ 2 _)
      refine retR (by kernel_rfl) ?_
      refine thenV ?_
      have hk2 : rekeyE l id p = (13, l) := by rw [rekeyE, if_neg (by rw [h1]; simp), if_pos h2]
      refine done0 (.iface 46 (.int .i64 13)) (fun _ => by kernel_rfl) (fun w hs => ?_) .ret (.inr rfl)
      rw [hk2]; exact ⟨r, rfl, hs⟩
    · skip
      have hd0 : (dropE l id).1 = 0 := by rw [dropE, if_neg (by omega)]
      have hk2 : rekeyE l id p = (0, insE (p, id) (dropE l id).2) := by rw [rekeyE, if_neg (by rw [h1]; simp), if_neg (by omega), dropE, if_neg (by omega)]
      rw [hd0]
      refine (run0 (z := 0) 1 [0, 1, 2, 6, 7] [(0, .pointer (some ⟨b, 0, none⟩)), (1, .int .i64 id), (2, .int .i64 p), (6, .nilIface), (7, .nilIface)] (fun _ => by kernel_rfl) (endR ?_) : RT _ _ _ _ _ _ 1 _)
      refine seqR (by kernel_rfl) ?_
      refine regionR 2 (by kernel_rfl) (by kernel_rfl) ?_
      refine (run0 (z := 0) 2 [0, 1, 2, 6, 7, 16] [(0, .pointer (some ⟨b, 0, none⟩)), (1, .int .i64 id), (2, .int .i64 p), (6, .nilIface), (7, .nilIface), (16, .bool false)] (fun _ => by kernel_rfl) (endR ?_) : RT _ _ _ _ _ _ 2 _)
      refine condR (b := false) (by kernel_rfl) (fun _ => by kernel_rfl) (fun h => by cases h) (fun _ => ?_)
      refine skipR (by kernel_rfl) ?_
      refine seqR (by kernel_rfl) ?_
      refine regionR 5 (by kernel_rfl) (by kernel_rfl) ?_
      refine (run0 (z := 1) 4 [6, 18, 21] [(6, .nilIface), (18, .pointer (some ⟨b, 0, none⟩)), (21, .agg #[.int .i64 p, .int .i64 id])] (fun _ => by kernel_rfl) ?_ : RT _ _ _ _ _ _ 5 _)
      refine (stepR (z := 0) (callS 46 [.pointer (some ⟨b, 0, none⟩), .agg #[.int .i64 p, .int .i64 id]] (some 22) (fun (q : Option Addr × Nat) => .tuple #[]) (fun (q : Option Addr × Nat) => blk b 81 [.slice q.1 (insE (p, id) (dropE l id).2).length q.2, .int .i64 room] :: row slE 65 (.slice q.1 (insE (p, id) (dropE l id).2).length q.2) (insE (p, id) (dropE l id).2) :: H) (fun _ => by kernel_rfl) (insert_walk _ b r.1 r.2 room (dropE l id).2 p id (hsr.drop id) (Nat.lt_of_le_of_lt (dropE_len l id) hl))) (fun (q : Option Addr × Nat) => ?_) : RT _ _ _ _ _ _ 1 _)
      refine endR ?_
      refine seqR (by kernel_rfl) ?_
      refine regionR 1 (by kernel_rfl) (by kernel_rfl) ?_
      refine (run0 (z := 0) 1 [6] [(6, .nilIface)] (fun _ => by kernel_rfl) (endR ?_) : RT _ _ _ _ _ _ 1 _)
      refine retR (by kernel_rfl) ?_
      refine done0 (.nilIface) (fun _ => by kernel_rfl) (fun w hs => ?_) .ret (.inr rfl)
      rw [hk2]; exact ⟨q, rfl, hs⟩
  | false =>
    refine condR (b := true) (by kernel_rfl) (fun _ => by kernel_rfl) (fun _ => ?_) (fun h => by cases h)
    refine seqR (by kernel_rfl) ?_
    refine regionR 2 (by kernel_rfl) (by kernel_rfl) ?_
    refine (run0 (z := 0) 2 [0, 1, 2, 6] [(0, .pointer (some ⟨b, 0, none⟩)), (1, .int .i64 id), (2, .int .i64 p), (6, .iface 46 (.int .i64 10))] (fun _ => by kernel_rfl) (endR ?_) : RT _ _ _ _ _ _ 2 _)
    refine retR (by kernel_rfl) ?_
    refine thenV ?_
    refine done0 (.iface 46 (.int .i64 10)) (fun _ => by kernel_rfl) (fun w hs => ?_) .ret (.inr rfl)
    rw [rekeyE, if_pos h1]; exact ⟨(A, cap), rfl, hs⟩
end Go.Proofs.YtjbjngikaiggdaaGreat
