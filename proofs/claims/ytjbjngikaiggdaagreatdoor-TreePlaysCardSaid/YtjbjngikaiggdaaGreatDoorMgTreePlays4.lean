/- Texts put together: tree: what calls answer, told by equations; what the laws know first. A tree as one part of memory: its operations. Trees: numbers of nodes stay below a bound; the told nodes. G: slices of slices; stores of whole elements. The document's strides, Fair. The document's tree: its nodes as a row; At, some, Deep, Nodes. Trees: what laws say of two in one group. Trees: waking, when nothing has run yet. Trees: threads in the root, by turns, by counting. Trees: threads of the root that are ready all along, whatever others do. The document's tree: NewTree, Nodes, Ready. Conditions: none. -/
import Derived.Test.YtjbjngikaiggdaaGreatDoorMgTreePlays3
set_option linter.unusedVariables false
set_option linter.unusedSimpArgs false
namespace Go.Proofs.YtjbjngikaiggdaaGreatDoor
open Go.RowKit G
theorem root_ok (b ib : Nat) : OkT [rootN] [rootT b ib] := by
  refine ⟨rfl, fun x hx => ?_, fun x hx p k => ?_⟩
  · simp at hx; subst hx; exact List.Pairwise.nil
  · simp at hx; subst hx
    constructor
    · intro h; cases h
    · rintro ⟨y, hy, h, _⟩
      simp at hy; subst hy
      cases h
section
variable {N N' : List Nr} {T : List Nd}
theorem add_ok (hT : OkT N T) (hw : WFN N) {par id wt : Int} {thr : Bool} (h : addN N par id wt thr = (0, N')) (H : List SP) (t mb : Nat) : ∀ w, Sat w (blk t 60 [.map (some mb)] :: mapS mb (T.map kp) :: (nodesL T ++ H)) → Calls Tryz.prog 8 #[.pointer (some ⟨t, 0, none⟩), .int .i64 par, .int .i64 id, .int .i64 wt, .bool thr] w (Ret (ι := { T' : List Nd // OkT N' T' ∧ WFN N' }) (fun _ => .nilIface) fun T' => blk t 60 [.map (some mb)] :: mapS mb (T'.1.map kp) :: (nodesL T'.1 ++ H)) := fun w hs =>
  (add_walk hT hw.sk H t mb par id wt thr w hs).mono fun e w' ⟨⟨T', hT'⟩, he, hx⟩ => ⟨⟨T', by have := hT'; rw [h] at this; exact this, by have := add_wf hw par id wt thr; rw [h] at this; exact this⟩, he.trans (by show Ending.returned (pqErr _) = Ending.returned .nilIface; rw [h]; rfl), hx⟩
theorem add_no (hT : OkT N T) (hw : WFN N) {par id wt : Int} {thr : Bool} {e : Int} (h : addN N par id wt thr = (e, N)) (he : e ≠ 0) (H : List SP) (t mb : Nat) : ∀ w, Sat w (blk t 60 [.map (some mb)] :: mapS mb (T.map kp) :: (nodesL T ++ H)) → Calls Tryz.prog 8 #[.pointer (some ⟨t, 0, none⟩), .int .i64 par, .int .i64 id, .int .i64 wt, .bool thr] w (Ret (ι := { T' : List Nd // OkT N T' }) (fun _ => .iface 52 (.int .i64 e)) fun T' => blk t 60 [.map (some mb)] :: mapS mb (T'.1.map kp) :: (nodesL T'.1 ++ H)) := fun w hs =>
  (add_walk hT hw.sk H t mb par id wt thr w hs).mono fun e w' ⟨⟨T', hT'⟩, he', hx⟩ => ⟨⟨T', by have := hT'; rw [h] at this; exact this⟩, he'.trans (by show Ending.returned (pqErr _) = Ending.returned (.iface 52 (.int .i64 _)); rw [h, pqErr, if_neg he]), hx⟩
theorem ready_ok (hT : OkT N T) (hw : WFN N) {id : Int} {r : Bool} (h : readyN N id r = (0, N')) (H : List SP) (t mb : Nat) : ∀ w, Sat w (blk t 60 [.map (some mb)] :: mapS mb (T.map kp) :: (nodesL T ++ H)) → Calls Tryz.prog 12 #[.pointer (some ⟨t, 0, none⟩), .int .i64 id, .bool r] w (Ret (ι := { T' : List Nd // OkT N' T' ∧ WFN N' }) (fun _ => .nilIface) fun T' => blk t 60 [.map (some mb)] :: mapS mb (T'.1.map kp) :: (nodesL T'.1 ++ H)) := fun w hs =>
  (ready_walk hT hw.sk hw.lb H t mb id r w hs).mono fun e w' ⟨⟨T', hT', _⟩, he, hx⟩ => ⟨⟨T', by have := hT'; rw [h] at this; exact this, by have := ready_wf hw id r; rw [h] at this; exact this⟩, he.trans (by show Ending.returned (pqErr _) = Ending.returned .nilIface; rw [h]; rfl), hx⟩
theorem weight_ok (hT : OkT N T) (hw : WFN N) {id W : Int} (h : weightN N id W = (0, N')) (H : List SP) (t mb : Nat) : ∀ w, Sat w (blk t 60 [.map (some mb)] :: mapS mb (T.map kp) :: (nodesL T ++ H)) → Calls Tryz.prog 14 #[.pointer (some ⟨t, 0, none⟩), .int .i64 id, .int .i64 W] w (Ret (ι := { T' : List Nd // OkT N' T' ∧ WFN N' }) (fun _ => .nilIface) fun T' => blk t 60 [.map (some mb)] :: mapS mb (T'.1.map kp) :: (nodesL T'.1 ++ H)) := fun w hs =>
  (weight_walk hT hw H t mb id W w hs).mono fun e w' ⟨⟨T', hT', _⟩, he, hx⟩ => ⟨⟨T', by have := hT'; rw [h] at this; exact this, by have := weight_wf hw id W; rw [h] at this; exact this⟩, he.trans (by show Ending.returned (pqErr _) = Ending.returned .nilIface; rw [h]; rfl), hx⟩
theorem remove_no (hT : OkT N T) (hw : WFN N) {id : Int} {e : Int} (h : removeN N id = (e, N)) (he : e ≠ 0) (H : List SP) (t mb : Nat) : ∀ w, Sat w (blk t 60 [.map (some mb)] :: mapS mb (T.map kp) :: (nodesL T ++ H)) → Calls Tryz.prog 10 #[.pointer (some ⟨t, 0, none⟩), .int .i64 id] w (Ret (ι := { T' : List Nd // OkT N T' }) (fun _ => .iface 52 (.int .i64 e)) fun T' => blk t 60 [.map (some mb)] :: mapS mb (T'.1.map kp) :: (nodesL T'.1 ++ H)) := fun w hs =>
  (remove_walk hT hw.sk hw.lb H t mb id w hs).mono fun e w' ⟨⟨T', hT'⟩, he', hx⟩ => ⟨⟨T', by have := hT'; rw [h] at this; exact this⟩, he'.trans (by show Ending.returned (pqErr _) = Ending.returned (.iface 52 (.int .i64 _)); rw [h, pqErr, if_neg he]), hx⟩
theorem run_ok (hT : OkT N T) (hw : WFN N) {z : Int × Bool} (h : runN N = (z, N')) (hw' : WFN N') (H : List SP) (t mb : Nat) : ∀ w, Sat w (blk t 60 [.map (some mb)] :: mapS mb (T.map kp) :: (nodesL T ++ H)) → Calls Tryz.prog 16 #[.pointer (some ⟨t, 0, none⟩)] w (Ret (ι := { T' : List Nd // OkT N' T' ∧ WFN N' }) (fun _ => .tuple #[.int .i64 z.1, .bool z.2]) fun T' => blk t 60 [.map (some mb)] :: mapS mb (T'.1.map kp) :: (nodesL T'.1 ++ H)) := fun w hs =>
  (run_walk hT hw H t mb w hs).mono fun e w' ⟨⟨T', hT', _⟩, he, hx⟩ => ⟨⟨T', by have := hT'; rw [h] at this; exact this, hw'⟩, he.trans (by show Ending.returned (.tuple #[.int .i64 (runN N).1.1, .bool (runN N).1.2]) = Ending.returned (.tuple #[.int .i64 z.1, .bool z.2]); rw [h]), hx⟩
end
theorem run_wf {N : List Nr} (hw : WFN N) : WFN (runN N).2 := by
  cases hg : gt N 0 with
  | none => rw [runN, hg]; exact hw
  | some r =>
    cases hr : r.rdy with
    | true => obtain ⟨y, id, g, h1, _, h3, _⟩ := run_root hw hg hr; rw [h1]; exact h3
    | false => rw [runN, hg]; simp only [hr, Bool.false_eq_true, if_false]; exact hw
theorem Sat.behind {l H : List SP} {w : World} (h : Sat w (l ++ H)) : Sat w H := by
  induction l with
  | nil => exact h
  | cons P l ih => exact ih h.tail
theorem behindAt {Tn : List Nd} {H : List SP} {b : Nat} {T : TypeId} {cs : List Value} {j : Nat} {v : Value} (hj : cs[j]? = some v) : ∀ w, Sat w (nodesL Tn ++ (blk b T cs :: H)) → w.cell? ⟨b, j, none⟩ = some v := fun w hs => blkAt (b := b) (T := T) (cs := cs) 0 rfl hj w (Sat.behind hs)
theorem PT.sink {n : Nat} {L : List (Nat × Value)} {X A B : SP} {T : List Nd} {H : List SP} {Φ : Act → World → Prop} (h : PT n L (A :: B :: (nodesL T ++ (X :: H))) Φ) : PT n L (X :: A :: B :: (nodesL T ++ H)) Φ :=
  PT.sat (fun _ hs => Sat.perm (List.perm_middle (a := X) (l₁ := A :: B :: nodesL T) (l₂ := H)).symm hs) h
/-! ### what the laws know first -/
def kn3 : List Nr := [rootN, ⟨1, 0, 1, 0, true, false, 0⟩, ⟨2, 0, 2, 0, true, false, 0⟩, ⟨3, 0, 1, 0, false, false, 0⟩]
def kn5 : List Nr := [⟨0, -1, 1, 0, false, true, 0⟩, ⟨1, 0, 1, 0, true, true, 0⟩, ⟨2, 0, 2, 0, true, true, 0⟩, ⟨3, 0, 1, 0, false, false, 0⟩]
def kn8 : List Nr := [⟨0, -1, 1, 0, false, true, 360360⟩, ⟨1, 0, 1, 720720, true, true, 0⟩, ⟨2, 0, 2, 720720, true, true, 0⟩, ⟨3, 0, 1, 0, false, false, 0⟩]
set_option maxHeartbeats 1000000 in
set_option maxRecDepth 100000 in
theorem known_true (H : List SP) : ∀ w, Sat w H → Calls Tryz.prog 4 #[] w (Ret (ι := Unit) (fun _ => .bool true) fun _ => H) := by
  refine enterG (fn := Tryz.f4) 140 [] Tryz.func4 (by kernel_rfl) (by kernel_rfl) (by kernel_rfl) ?_
  refine seqR (by kernel_rfl) ?_
  refine regionR 1 (by kernel_rfl) (by kernel_rfl) ?_
  refine (run0 (z := 0) 1 [0] [(0, .bool false)] (fun _ => by kernel_rfl) (endR ?_) : RT _ _ _ _ _ _ 1 _)
  refine seqR (by kernel_rfl) ?_
  refine regionR 2 (by kernel_rfl) (by kernel_rfl) ?_
  refine (stepR (z := 1) (callS 5 [] (some 20) (fun (x : Nat × Nat × Nat × Nat) => .pointer (some ⟨x.1, 0, none⟩)) (fun (x : Nat × Nat × Nat × Nat) => blk x.1 60 [.map (some x.2.1)] :: mapS x.2.1 ([rootT x.2.2.1 x.2.2.2].map kp) :: (nodesL [rootT x.2.2.1 x.2.2.2] ++ H)) (fun _ => by kernel_rfl) (tnew_walk H)) (fun (x : Nat × Nat × Nat × Nat) => ?_) : RT _ _ _ _ _ _ 2 _)
  obtain ⟨t, mb, b, ib⟩ := x
  refine (run0 (z := 0) 1 [0, 1] [(0, .bool false), (1, .pointer (some ⟨t, 0, none⟩))] (fun _ => by kernel_rfl) (endR ?_) : RT _ _ _ _ _ _ 1 _)
  refine seqR (by kernel_rfl) ?_
  refine seqR (by kernel_rfl) ?_
  refine regionR 2 (by kernel_rfl) (by kernel_rfl) ?_
  refine (run0 (z := 0) 2 [0, 1, 22] [(0, .bool false), (1, .pointer (some ⟨t, 0, none⟩)), (22, .bool false)] (fun _ => by kernel_rfl) (endR ?_) : RT _ _ _ _ _ _ 2 _)
  refine condR (b := false) (by kernel_rfl) (fun _ => by kernel_rfl) (fun h => by cases h) (fun _ => ?_)
  refine skipR (by kernel_rfl) ?_
  refine seqR (by kernel_rfl) ?_
  refine regionR 9 (by kernel_rfl) (by kernel_rfl) ?_
  refine (run0 (z := 8) 1 [0, 1, 23] [(0, .bool false), (1, .pointer (some ⟨t, 0, none⟩)), (23, .pointer (some ⟨t, 0, none⟩))] (fun _ => by kernel_rfl) ?_ : RT _ _ _ _ _ _ 9 _)
  refine (stepR (z := 7) (callS 8 [.pointer (some ⟨t, 0, none⟩), .int .i64 0, .int .i64 1, .int .i64 1, .bool true] (some 24) (fun (Ta : { T' : List Nd // OkT (kn3.take 2) T' ∧ WFN (kn3.take 2) }) => .nilIface) (fun (Ta : { T' : List Nd // OkT (kn3.take 2) T' ∧ WFN (kn3.take 2) }) => blk t 60 [.map (some mb)] :: mapS mb (Ta.1.map kp) :: (nodesL Ta.1 ++ H)) (fun _ => by kernel_rfl) (add_ok (N' := kn3.take 2) (root_ok b ib) root_wf (par := 0) (id := 1) (wt := 1) (thr := true) (by kernel_rfl) H t mb)) (fun (Ta : { T' : List Nd // OkT (kn3.take 2) T' ∧ WFN (kn3.take 2) }) => ?_) : RT _ _ _ _ _ _ 8 _)
  refine (run0 (z := 6) 1 [24, 0, 1, 25] [(24, .nilIface), (0, .bool false), (1, .pointer (some ⟨t, 0, none⟩)), (25, .pointer (some ⟨t, 0, none⟩))] (fun _ => by kernel_rfl) ?_ : RT _ _ _ _ _ _ 7 _)
  refine (stepR (z := 5) (callS 8 [.pointer (some ⟨t, 0, none⟩), .int .i64 0, .int .i64 2, .int .i64 2, .bool true] (some 26) (fun (Tb : { T' : List Nd // OkT (kn3.take 3) T' ∧ WFN (kn3.take 3) }) => .nilIface) (fun (Tb : { T' : List Nd // OkT (kn3.take 3) T' ∧ WFN (kn3.take 3) }) => blk t 60 [.map (some mb)] :: mapS mb (Tb.1.map kp) :: (nodesL Tb.1 ++ H)) (fun _ => by kernel_rfl) (add_ok (N' := kn3.take 3) Ta.2.1 Ta.2.2 (par := 0) (id := 2) (wt := 2) (thr := true) (by kernel_rfl) H t mb)) (fun (Tb : { T' : List Nd // OkT (kn3.take 3) T' ∧ WFN (kn3.take 3) }) => ?_) : RT _ _ _ _ _ _ 6 _)
  refine (run0 (z := 4) 1 [26, 24, 0, 1, 27] [(26, .nilIface), (24, .nilIface), (0, .bool false), (1, .pointer (some ⟨t, 0, none⟩)), (27, .pointer (some ⟨t, 0, none⟩))] (fun _ => by kernel_rfl) ?_ : RT _ _ _ _ _ _ 5 _)
  refine (stepR (z := 3) (callS 8 [.pointer (some ⟨t, 0, none⟩), .int .i64 0, .int .i64 3, .int .i64 1, .bool false] (some 28) (fun (Tc : { T' : List Nd // OkT kn3 T' ∧ WFN kn3 }) => .nilIface) (fun (Tc : { T' : List Nd // OkT kn3 T' ∧ WFN kn3 }) => blk t 60 [.map (some mb)] :: mapS mb (Tc.1.map kp) :: (nodesL Tc.1 ++ H)) (fun _ => by kernel_rfl) (add_ok (N' := kn3) Tb.2.1 Tb.2.2 (par := 0) (id := 3) (wt := 1) (thr := false) (by kernel_rfl) H t mb)) (fun (Tc : { T' : List Nd // OkT kn3 T' ∧ WFN kn3 }) => ?_) : RT _ _ _ _ _ _ 4 _)
  refine (run0 (z := 0) 3 [0, 1, 2, 3, 4] [(0, .bool false), (1, .pointer (some ⟨t, 0, none⟩)), (2, .nilIface), (3, .nilIface), (4, .nilIface)] (fun _ => by kernel_rfl) (endR ?_) : RT _ _ _ _ _ _ 3 _)
  refine seqR (by kernel_rfl) ?_
  refine regionR 6 (by kernel_rfl) (by kernel_rfl) ?_
  refine (run0 (z := 5) 1 [0, 1, 2, 3, 4, 29] [(0, .bool false), (1, .pointer (some ⟨t, 0, none⟩)), (2, .nilIface), (3, .nilIface), (4, .nilIface), (29, .pointer (some ⟨t, 0, none⟩))] (fun _ => by kernel_rfl) ?_ : RT _ _ _ _ _ _ 6 _)
  refine (stepR (z := 4) (callS 8 [.pointer (some ⟨t, 0, none⟩), .int .i64 1, .int .i64 4, .int .i64 1, .bool true] (some 30) (fun (Td : { T' : List Nd // OkT kn3 T' }) => .iface 52 (.int .i64 13)) (fun (Td : { T' : List Nd // OkT kn3 T' }) => blk t 60 [.map (some mb)] :: mapS mb (Td.1.map kp) :: (nodesL Td.1 ++ H)) (fun _ => by kernel_rfl) (add_no Tc.2.1 Tc.2.2 (par := 1) (id := 4) (wt := 1) (thr := true) (e := 13) (by kernel_rfl) (by decide) H t mb)) (fun (Td : { T' : List Nd // OkT kn3 T' }) => ?_) : RT _ _ _ _ _ _ 5 _)
  refine (run0 (z := 3) 1 [30, 0, 1, 2, 3, 4, 31] [(30, .iface 52 (.int .i64 13)), (0, .bool false), (1, .pointer (some ⟨t, 0, none⟩)), (2, .nilIface), (3, .nilIface), (4, .nilIface), (31, .pointer (some ⟨t, 0, none⟩))] (fun _ => by kernel_rfl) ?_ : RT _ _ _ _ _ _ 4 _)
  refine (stepR (z := 2) (callS 8 [.pointer (some ⟨t, 0, none⟩), .int .i64 3, .int .i64 3, .int .i64 1, .bool true] (some 32) (fun (Te : { T' : List Nd // OkT kn3 T' }) => .iface 52 (.int .i64 20)) (fun (Te : { T' : List Nd // OkT kn3 T' }) => blk t 60 [.map (some mb)] :: mapS mb (Te.1.map kp) :: (nodesL Te.1 ++ H)) (fun _ => by kernel_rfl) (add_no Td.2 Tc.2.2 (par := 3) (id := 3) (wt := 1) (thr := true) (e := 20) (by kernel_rfl) (by decide) H t mb)) (fun (Te : { T' : List Nd // OkT kn3 T' }) => ?_) : RT _ _ _ _ _ _ 3 _)
  refine (run0 (z := 0) 2 [0, 1, 2, 3, 4, 5, 6] [(0, .bool false), (1, .pointer (some ⟨t, 0, none⟩)), (2, .nilIface), (3, .nilIface), (4, .nilIface), (5, .iface 52 (.int .i64 13)), (6, .iface 52 (.int .i64 20))] (fun _ => by kernel_rfl) (endR ?_) : RT _ _ _ _ _ _ 2 _)
  refine seqR (by kernel_rfl) ?_
  refine regionR 7 (by kernel_rfl) (by kernel_rfl) ?_
  refine (run0 (z := 6) 1 [0, 1, 2, 3, 4, 5, 6, 34] [(0, .bool false), (1, .pointer (some ⟨t, 0, none⟩)), (2, .nilIface), (3, .nilIface), (4, .nilIface), (5, .iface 52 (.int .i64 13)), (6, .iface 52 (.int .i64 20)), (34, .pointer (some ⟨t, 0, none⟩))] (fun _ => by kernel_rfl) ?_ : RT _ _ _ _ _ _ 7 _)
  refine (stepR (z := 5) (callS 16 [.pointer (some ⟨t, 0, none⟩)] (some 35) (fun (Tf : { T' : List Nd // OkT kn3 T' ∧ WFN kn3 }) => .tuple #[.int .i64 0, .bool false]) (fun (Tf : { T' : List Nd // OkT kn3 T' ∧ WFN kn3 }) => blk t 60 [.map (some mb)] :: mapS mb (Tf.1.map kp) :: (nodesL Tf.1 ++ H)) (fun _ => by kernel_rfl) (run_ok Te.2 Tc.2.2 (N' := kn3) (z := (0, false)) (by kernel_rfl) Tc.2.2 H t mb)) (fun (Tf : { T' : List Nd // OkT kn3 T' ∧ WFN kn3 }) => ?_) : RT _ _ _ _ _ _ 6 _)
  refine (run0 (z := 0) 5 [0, 1, 2, 3, 4, 5, 6, 8] [(0, .bool false), (1, .pointer (some ⟨t, 0, none⟩)), (2, .nilIface), (3, .nilIface), (4, .nilIface), (5, .iface 52 (.int .i64 13)), (6, .iface 52 (.int .i64 20)), (8, .bool false)] (fun _ => by kernel_rfl) (endR ?_) : RT _ _ _ _ _ _ 5 _)
  refine seqR (by kernel_rfl) ?_
  refine regionR 6 (by kernel_rfl) (by kernel_rfl) ?_
  refine (run0 (z := 5) 1 [0, 1, 2, 3, 4, 5, 6, 8, 38] [(0, .bool false), (1, .pointer (some ⟨t, 0, none⟩)), (2, .nilIface), (3, .nilIface), (4, .nilIface), (5, .iface 52 (.int .i64 13)), (6, .iface 52 (.int .i64 20)), (8, .bool false), (38, .pointer (some ⟨t, 0, none⟩))] (fun _ => by kernel_rfl) ?_ : RT _ _ _ _ _ _ 6 _)
  refine (stepR (z := 4) (callS 12 [.pointer (some ⟨t, 0, none⟩), .int .i64 1, .bool true] (some 39) (fun (Tg : { T' : List Nd // OkT (readyN kn3 1 true).2 T' ∧ WFN (readyN kn3 1 true).2 }) => .nilIface) (fun (Tg : { T' : List Nd // OkT (readyN kn3 1 true).2 T' ∧ WFN (readyN kn3 1 true).2 }) => blk t 60 [.map (some mb)] :: mapS mb (Tg.1.map kp) :: (nodesL Tg.1 ++ H)) (fun _ => by kernel_rfl) (ready_ok Tf.2.1 Tf.2.2 (id := 1) (r := true) (N' := (readyN kn3 1 true).2) (by kernel_rfl) H t mb)) (fun (Tg : { T' : List Nd // OkT (readyN kn3 1 true).2 T' ∧ WFN (readyN kn3 1 true).2 }) => ?_) : RT _ _ _ _ _ _ 5 _)
  refine (run0 (z := 3) 1 [39, 0, 1, 2, 3, 4, 5, 6, 8, 40] [(39, .nilIface), (0, .bool false), (1, .pointer (some ⟨t, 0, none⟩)), (2, .nilIface), (3, .nilIface), (4, .nilIface), (5, .iface 52 (.int .i64 13)), (6, .iface 52 (.int .i64 20)), (8, .bool false), (40, .pointer (some ⟨t, 0, none⟩))] (fun _ => by kernel_rfl) ?_ : RT _ _ _ _ _ _ 4 _)
  refine (stepR (z := 2) (callS 12 [.pointer (some ⟨t, 0, none⟩), .int .i64 2, .bool true] (some 41) (fun (Th : { T' : List Nd // OkT kn5 T' ∧ WFN kn5 }) => .nilIface) (fun (Th : { T' : List Nd // OkT kn5 T' ∧ WFN kn5 }) => blk t 60 [.map (some mb)] :: mapS mb (Th.1.map kp) :: (nodesL Th.1 ++ H)) (fun _ => by kernel_rfl) (ready_ok Tg.2.1 Tg.2.2 (id := 2) (r := true) (N' := kn5) (by kernel_rfl) H t mb)) (fun (Th : { T' : List Nd // OkT kn5 T' ∧ WFN kn5 }) => ?_) : RT _ _ _ _ _ _ 3 _)
  refine (run0 (z := 0) 2 [0, 1, 2, 3, 4, 5, 6, 8, 9, 10] [(0, .bool false), (1, .pointer (some ⟨t, 0, none⟩)), (2, .nilIface), (3, .nilIface), (4, .nilIface), (5, .iface 52 (.int .i64 13)), (6, .iface 52 (.int .i64 20)), (8, .bool false), (9, .nilIface), (10, .nilIface)] (fun _ => by kernel_rfl) (endR ?_) : RT _ _ _ _ _ _ 2 _)
  refine seqR (by kernel_rfl) ?_
  refine regionR 7 (by kernel_rfl) (by kernel_rfl) ?_
  refine (run0 (z := 6) 1 [0, 1, 2, 3, 4, 5, 6, 8, 9, 10, 43] [(0, .bool false), (1, .pointer (some ⟨t, 0, none⟩)), (2, .nilIface), (3, .nilIface), (4, .nilIface), (5, .iface 52 (.int .i64 13)), (6, .iface 52 (.int .i64 20)), (8, .bool false), (9, .nilIface), (10, .nilIface), (43, .pointer (some ⟨t, 0, none⟩))] (fun _ => by kernel_rfl) ?_ : RT _ _ _ _ _ _ 7 _)
  refine (stepR (z := 5) (callS 16 [.pointer (some ⟨t, 0, none⟩)] (some 44) (fun (Ti : { T' : List Nd // OkT (runN kn5).2 T' ∧ WFN (runN kn5).2 }) => .tuple #[.int .i64 1, .bool true]) (fun (Ti : { T' : List Nd // OkT (runN kn5).2 T' ∧ WFN (runN kn5).2 }) => blk t 60 [.map (some mb)] :: mapS mb (Ti.1.map kp) :: (nodesL Ti.1 ++ H)) (fun _ => by kernel_rfl) (run_ok Th.2.1 Th.2.2 (N' := (runN kn5).2) (z := (1, true)) (by kernel_rfl) (run_wf Th.2.2) H t mb)) (fun (Ti : { T' : List Nd // OkT (runN kn5).2 T' ∧ WFN (runN kn5).2 }) => ?_) : RT _ _ _ _ _ _ 6 _)
  refine (run0 (z := 0) 5 [0, 1, 2, 3, 4, 5, 6, 8, 9, 10, 11, 12] [(0, .bool false), (1, .pointer (some ⟨t, 0, none⟩)), (2, .nilIface), (3, .nilIface), (4, .nilIface), (5, .iface 52 (.int .i64 13)), (6, .iface 52 (.int .i64 20)), (8, .bool false), (9, .nilIface), (10, .nilIface), (11, .int .i64 1), (12, .bool true)] (fun _ => by kernel_rfl) (endR ?_) : RT _ _ _ _ _ _ 5 _)
  refine seqR (by kernel_rfl) ?_
  refine regionR 7 (by kernel_rfl) (by kernel_rfl) ?_
  refine (run0 (z := 6) 1 [0, 1, 2, 3, 4, 5, 6, 8, 9, 10, 11, 12, 48] [(0, .bool false), (1, .pointer (some ⟨t, 0, none⟩)), (2, .nilIface), (3, .nilIface), (4, .nilIface), (5, .iface 52 (.int .i64 13)), (6, .iface 52 (.int .i64 20)), (8, .bool false), (9, .nilIface), (10, .nilIface), (11, .int .i64 1), (12, .bool true), (48, .pointer (some ⟨t, 0, none⟩))] (fun _ => by kernel_rfl) ?_ : RT _ _ _ _ _ _ 7 _)
  refine (stepR (z := 5) (callS 16 [.pointer (some ⟨t, 0, none⟩)] (some 49) (fun (Tj : { T' : List Nd // OkT (runN (runN kn5).2).2 T' ∧ WFN (runN (runN kn5).2).2 }) => .tuple #[.int .i64 2, .bool true]) (fun (Tj : { T' : List Nd // OkT (runN (runN kn5).2).2 T' ∧ WFN (runN (runN kn5).2).2 }) => blk t 60 [.map (some mb)] :: mapS mb (Tj.1.map kp) :: (nodesL Tj.1 ++ H)) (fun _ => by kernel_rfl) (run_ok Ti.2.1 Ti.2.2 (N' := (runN (runN kn5).2).2) (z := (2, true)) (by kernel_rfl) (run_wf Ti.2.2) H t mb)) (fun (Tj : { T' : List Nd // OkT (runN (runN kn5).2).2 T' ∧ WFN (runN (runN kn5).2).2 }) => ?_) : RT _ _ _ _ _ _ 6 _)
  refine (run0 (z := 0) 5 [0, 1, 2, 3, 4, 5, 6, 8, 9, 10, 11, 12, 13] [(0, .bool false), (1, .pointer (some ⟨t, 0, none⟩)), (2, .nilIface), (3, .nilIface), (4, .nilIface), (5, .iface 52 (.int .i64 13)), (6, .iface 52 (.int .i64 20)), (8, .bool false), (9, .nilIface), (10, .nilIface), (11, .int .i64 1), (12, .bool true), (13, .int .i64 2)] (fun _ => by kernel_rfl) (endR ?_) : RT _ _ _ _ _ _ 5 _)
  refine seqR (by kernel_rfl) ?_
  refine regionR 7 (by kernel_rfl) (by kernel_rfl) ?_
  refine (run0 (z := 6) 1 [0, 1, 2, 3, 4, 5, 6, 8, 9, 10, 11, 12, 13, 53] [(0, .bool false), (1, .pointer (some ⟨t, 0, none⟩)), (2, .nilIface), (3, .nilIface), (4, .nilIface), (5, .iface 52 (.int .i64 13)), (6, .iface 52 (.int .i64 20)), (8, .bool false), (9, .nilIface), (10, .nilIface), (11, .int .i64 1), (12, .bool true), (13, .int .i64 2), (53, .pointer (some ⟨t, 0, none⟩))] (fun _ => by kernel_rfl) ?_ : RT _ _ _ _ _ _ 7 _)
  refine (stepR (z := 5) (callS 16 [.pointer (some ⟨t, 0, none⟩)] (some 54) (fun (Tk : { T' : List Nd // OkT kn8 T' ∧ WFN kn8 }) => .tuple #[.int .i64 2, .bool true]) (fun (Tk : { T' : List Nd // OkT kn8 T' ∧ WFN kn8 }) => blk t 60 [.map (some mb)] :: mapS mb (Tk.1.map kp) :: (nodesL Tk.1 ++ H)) (fun _ => by kernel_rfl) (run_ok Tj.2.1 Tj.2.2 (N' := kn8) (z := (2, true)) (by kernel_rfl) (by have h := run_wf Tj.2.2; have e : (runN (runN (runN kn5).2).2).2 = kn8 := (by kernel_rfl); rw [e] at h; exact h) H t mb)) (fun (Tk : { T' : List Nd // OkT kn8 T' ∧ WFN kn8 }) => ?_) : RT _ _ _ _ _ _ 6 _)
  refine (run0 (z := 0) 5 [0, 1, 2, 3, 4, 5, 6, 8, 9, 10, 11, 12, 13, 15] [(0, .bool false), (1, .pointer (some ⟨t, 0, none⟩)), (2, .nilIface), (3, .nilIface), (4, .nilIface), (5, .iface 52 (.int .i64 13)), (6, .iface 52 (.int .i64 20)), (8, .bool false), (9, .nilIface), (10, .nilIface), (11, .int .i64 1), (12, .bool true), (13, .int .i64 2), (15, .int .i64 2)] (fun _ => by kernel_rfl) (endR ?_) : RT _ _ _ _ _ _ 5 _)
  refine seqR (by kernel_rfl) ?_
  refine regionR 8 (by kernel_rfl) (by kernel_rfl) ?_
  refine (run0 (z := 7) 1 [0, 1, 2, 3, 4, 5, 6, 8, 9, 10, 11, 12, 13, 15, 58] [(0, .bool false), (1, .pointer (some ⟨t, 0, none⟩)), (2, .nilIface), (3, .nilIface), (4, .nilIface), (5, .iface 52 (.int .i64 13)), (6, .iface 52 (.int .i64 20)), (8, .bool false), (9, .nilIface), (10, .nilIface), (11, .int .i64 1), (12, .bool true), (13, .int .i64 2), (15, .int .i64 2), (58, .pointer (some ⟨t, 0, none⟩))] (fun _ => by kernel_rfl) ?_ : RT _ _ _ _ _ _ 8 _)
  refine (stepR (z := 6) (callS 23 [.pointer (some ⟨t, 0, none⟩), .int .i64 2] (some 59) (fun _ => .tuple #[.agg #[.int .i64 2, .int .i64 0, .int .i64 2, .int .i64 720720, .bool true, .bool true], .bool true]) (fun _ => (blk t 60 [.map (some mb)] :: mapS mb (Tk.1.map kp) :: (nodesL Tk.1 ++ H))) (fun _ => by kernel_rfl) (node_walk Tk.2.1 Tk.2.2.sk.nd H t mb 2)) (fun _ => ?_) : RT _ _ _ _ _ _ 7 _)
  refine (run0 (z := 3) 3 [0, 1, 2, 3, 4, 5, 6, 8, 9, 10, 11, 12, 13, 15, 60, 61] [(0, .bool false), (1, .pointer (some ⟨t, 0, none⟩)), (2, .nilIface), (3, .nilIface), (4, .nilIface), (5, .iface 52 (.int .i64 13)), (6, .iface 52 (.int .i64 20)), (8, .bool false), (9, .nilIface), (10, .nilIface), (11, .int .i64 1), (12, .bool true), (13, .int .i64 2), (15, .int .i64 2), (60, .agg #[.int .i64 2, .int .i64 0, .int .i64 2, .int .i64 720720, .bool true, .bool true]), (61, .bool true)] (fun _ => by kernel_rfl) ?_ : RT _ _ _ _ _ _ 6 _)
  refine (stepR (z := 2) (newS 48 [.int .i64 0, .int .i64 0, .int .i64 0, .int .i64 0, .bool false, .bool false] (some 17) (fun b => .pointer (some ⟨b, 0, none⟩)) (fun _ _ => by kernel_rfl)) (fun b1 => ?_) : RT _ _ _ _ _ _ 3 _)
  refine (stepR (z := 1) (storeS [(0, .int .i64 2), (1, .int .i64 0), (2, .int .i64 2), (3, .int .i64 720720), (4, .bool true), (5, .bool true)] [.int .i64 2, .int .i64 0, .int .i64 2, .int .i64 720720, .bool true, .bool true] (fun _ => by kernel_rfl) (by kernel_rfl) (by kernel_rfl)) (fun _ => ?_) : RT _ _ _ _ _ _ 2 _)
  refine (run0 (z := 0) 1 [17, 0, 1, 2, 3, 4, 5, 6, 8, 9, 10, 11, 12, 13, 15, 18] [(17, .pointer (some ⟨b1, 0, none⟩)), (0, .bool false), (1, .pointer (some ⟨t, 0, none⟩)), (2, .nilIface), (3, .nilIface), (4, .nilIface), (5, .iface 52 (.int .i64 13)), (6, .iface 52 (.int .i64 20)), (8, .bool false), (9, .nilIface), (10, .nilIface), (11, .int .i64 1), (12, .bool true), (13, .int .i64 2), (15, .int .i64 2), (18, .bool true)] (fun _ => by kernel_rfl) (endR ?_) : RT _ _ _ _ _ _ 1 _)
  refine PT.sink ?_
  refine seqR (by kernel_rfl) ?_
  refine regionR 3 (by kernel_rfl) (by kernel_rfl) ?_
  refine (run0 (z := 2) 1 [17, 0, 1, 2, 3, 4, 5, 6, 8, 9, 10, 11, 12, 13, 15, 18, 62] [(17, .pointer (some ⟨b1, 0, none⟩)), (0, .bool false), (1, .pointer (some ⟨t, 0, none⟩)), (2, .nilIface), (3, .nilIface), (4, .nilIface), (5, .iface 52 (.int .i64 13)), (6, .iface 52 (.int .i64 20)), (8, .bool false), (9, .nilIface), (10, .nilIface), (11, .int .i64 1), (12, .bool true), (13, .int .i64 2), (15, .int .i64 2), (18, .bool true), (62, .pointer (some ⟨t, 0, none⟩))] (fun _ => by kernel_rfl) ?_ : RT _ _ _ _ _ _ 3 _)
  refine (stepR (z := 1) (callS 10 [.pointer (some ⟨t, 0, none⟩), .int .i64 0] (some 63) (fun (Tl : { T' : List Nd // OkT kn8 T' }) => .iface 52 (.int .i64 13)) (fun (Tl : { T' : List Nd // OkT kn8 T' }) => blk t 60 [.map (some mb)] :: mapS mb (Tl.1.map kp) :: (nodesL Tl.1 ++ (blk b1 48 [.int .i64 2, .int .i64 0, .int .i64 2, .int .i64 720720, .bool true, .bool true] :: H))) (fun _ => by kernel_rfl) (remove_no Tk.2.1 Tk.2.2 (id := 0) (e := 13) (by kernel_rfl) (by decide) (blk b1 48 [.int .i64 2, .int .i64 0, .int .i64 2, .int .i64 720720, .bool true, .bool true] :: H) t mb)) (fun (Tl : { T' : List Nd // OkT kn8 T' }) => ?_) : RT _ _ _ _ _ _ 2 _)
  refine (run0 (z := 0) 1 [17, 0, 1, 2, 3, 4, 5, 6, 8, 9, 10, 11, 12, 13, 15, 18, 19] [(17, .pointer (some ⟨b1, 0, none⟩)), (0, .bool false), (1, .pointer (some ⟨t, 0, none⟩)), (2, .nilIface), (3, .nilIface), (4, .nilIface), (5, .iface 52 (.int .i64 13)), (6, .iface 52 (.int .i64 20)), (8, .bool false), (9, .nilIface), (10, .nilIface), (11, .int .i64 1), (12, .bool true), (13, .int .i64 2), (15, .int .i64 2), (18, .bool true), (19, .iface 52 (.int .i64 13))] (fun _ => by kernel_rfl) (endR ?_) : RT _ _ _ _ _ _ 1 _)
  refine seqR (by kernel_rfl) ?_
  refine regionR 77 (by kernel_rfl) (by kernel_rfl) ?_
  refine (run0 (z := 64) 13 [17, 0, 1, 6, 8, 9, 10, 11, 12, 13, 15, 18, 19, 74, 75, 76] [(17, .pointer (some ⟨b1, 0, none⟩)), (0, .bool false), (1, .pointer (some ⟨t, 0, none⟩)), (6, .iface 52 (.int .i64 20)), (8, .bool false), (9, .nilIface), (10, .nilIface), (11, .int .i64 1), (12, .bool true), (13, .int .i64 2), (15, .int .i64 2), (18, .bool true), (19, .iface 52 (.int .i64 13)), (74, .bool true), (75, .iface 52 (.int .i64 13)), (76, .iface 52 (.int .i64 13))] (fun _ => by kernel_rfl) ?_ : RT _ _ _ _ _ _ 77 _)
  refine (stepR (z := 63) (callS 24 [.iface 52 (.int .i64 13), .iface 52 (.int .i64 13)] (some 77) (fun _ => .bool (13 == 13)) (fun (_ : Unit) => (blk t 60 [.map (some mb)] :: mapS mb (Tl.1.map kp) :: (nodesL Tl.1 ++ (blk b1 48 [.int .i64 2, .int .i64 0, .int .i64 2, .int .i64 720720, .bool true, .bool true] :: H)))) (fun _ => by kernel_rfl) (isErr_walk _ 13 13)) (fun _ => ?_) : RT _ _ _ _ _ _ 64 _)
  refine (run0 (z := 59) 4 [17, 0, 1, 8, 9, 10, 11, 12, 13, 15, 18, 19, 79, 80, 81] [(17, .pointer (some ⟨b1, 0, none⟩)), (0, .bool false), (1, .pointer (some ⟨t, 0, none⟩)), (8, .bool false), (9, .nilIface), (10, .nilIface), (11, .int .i64 1), (12, .bool true), (13, .int .i64 2), (15, .int .i64 2), (18, .bool true), (19, .iface 52 (.int .i64 13)), (79, .bool true), (80, .iface 52 (.int .i64 20)), (81, .iface 52 (.int .i64 20))] (fun _ => by kernel_rfl) ?_ : RT _ _ _ _ _ _ 63 _)
  refine (stepR (z := 58) (callS 24 [.iface 52 (.int .i64 20), .iface 52 (.int .i64 20)] (some 82) (fun _ => .bool (20 == 20)) (fun (_ : Unit) => (blk t 60 [.map (some mb)] :: mapS mb (Tl.1.map kp) :: (nodesL Tl.1 ++ (blk b1 48 [.int .i64 2, .int .i64 0, .int .i64 2, .int .i64 720720, .bool true, .bool true] :: H)))) (fun _ => by kernel_rfl) (isErr_walk _ 20 20)) (fun _ => ?_) : RT _ _ _ _ _ _ 59 _)
  refine (runR (H := (blk t 60 [.map (some mb)] :: mapS mb (Tl.1.map kp) :: (nodesL Tl.1 ++ (blk b1 48 [.int .i64 2, .int .i64 0, .int .i64 2, .int .i64 720720, .bool true, .bool true] :: H)))) (z := 24) 34 [0, 1, 19, 114, 115, 116] [(0, .bool false), (1, .pointer (some ⟨t, 0, none⟩)), (19, .iface 52 (.int .i64 13)), (114, .bool true), (115, .agg #[.int .i64 2, .int .i64 0, .int .i64 2, .int .i64 720720, .bool true, .bool true]), (116, .agg #[.int .i64 2, .int .i64 0, .int .i64 2, .int .i64 720720, .bool true, .bool true])] [(⟨b1, 0, none⟩, .int .i64 2), (⟨b1, 1, none⟩, .int .i64 0), (⟨b1, 2, none⟩, .int .i64 2), (⟨b1, 3, none⟩, .int .i64 720720), (⟨b1, 4, none⟩, .bool true), (⟨b1, 5, none⟩, .bool true)] (hasC (up (up (behindAt (Tn := Tl.1) (H := H) (T := 48) (cs := [.int .i64 2, .int .i64 0, .int .i64 2, .int .i64 720720, .bool true, .bool true]) (j := 0) rfl))) (hasC (up (up (behindAt (Tn := Tl.1) (H := H) (T := 48) (cs := [.int .i64 2, .int .i64 0, .int .i64 2, .int .i64 720720, .bool true, .bool true]) (j := 1) rfl))) (hasC (up (up (behindAt (Tn := Tl.1) (H := H) (T := 48) (cs := [.int .i64 2, .int .i64 0, .int .i64 2, .int .i64 720720, .bool true, .bool true]) (j := 2) rfl))) (hasC (up (up (behindAt (Tn := Tl.1) (H := H) (T := 48) (cs := [.int .i64 2, .int .i64 0, .int .i64 2, .int .i64 720720, .bool true, .bool true]) (j := 3) rfl))) (hasC (up (up (behindAt (Tn := Tl.1) (H := H) (T := 48) (cs := [.int .i64 2, .int .i64 0, .int .i64 2, .int .i64 720720, .bool true, .bool true]) (j := 4) rfl))) (hasC (up (up (behindAt (Tn := Tl.1) (H := H) (T := 48) (cs := [.int .i64 2, .int .i64 0, .int .i64 2, .int .i64 720720, .bool true, .bool true]) (j := 5) rfl))) has0)))))) (fun _ => by kernel_rfl) ?_ : RT _ _ _ _ _ _ 58 _)
  refine (stepR (z := 23) (yldS (binY .eql 48 48 (.tmp 115) (.tmp 116) (.agg #[.int .i64 2, .int .i64 0, .int .i64 2, .int .i64 720720, .bool true, .bool true]) (.agg #[.int .i64 2, .int .i64 0, .int .i64 2, .int .i64 720720, .bool true, .bool true]) (.bool true) (some 117) (fun _ => by kernel_rfl) (by kernel_rfl) (by kernel_rfl) (fun _ => by kernel_rfl) (fun _ => by kernel_rfl) ((fun _ => by kernel_rfl)))) (fun _ => ?_) : RT _ _ _ _ _ _ 24 _)
  refine (run0 (z := 19) 4 [0, 1, 119, 120, 121] [(0, .bool false), (1, .pointer (some ⟨t, 0, none⟩)), (119, .bool true), (120, .iface 52 (.int .i64 13)), (121, .iface 52 (.int .i64 13))] (fun _ => by kernel_rfl) ?_ : RT _ _ _ _ _ _ 23 _)
  refine (stepR (z := 18) (callS 24 [.iface 52 (.int .i64 13), .iface 52 (.int .i64 13)] (some 122) (fun _ => .bool (13 == 13)) (fun (_ : Unit) => (blk t 60 [.map (some mb)] :: mapS mb (Tl.1.map kp) :: (nodesL Tl.1 ++ (blk b1 48 [.int .i64 2, .int .i64 0, .int .i64 2, .int .i64 720720, .bool true, .bool true] :: H)))) (fun _ => by kernel_rfl) (isErr_walk _ 13 13)) (fun _ => ?_) : RT _ _ _ _ _ _ 19 _)
  refine (run0 (z := 15) 3 [0, 1, 124, 125] [(0, .bool false), (1, .pointer (some ⟨t, 0, none⟩)), (124, .bool true), (125, .pointer (some ⟨t, 0, none⟩))] (fun _ => by kernel_rfl) ?_ : RT _ _ _ _ _ _ 18 _)
  refine (stepR (z := 14) (callS 19 [.pointer (some ⟨t, 0, none⟩)] (some 126) (fun (ns : Option Addr × Nat) => .slice ns.1 (nodesN kn8).length ns.2) (fun (ns : Option Addr × Nat) => (row nE 48 (.slice ns.1 (nodesN kn8).length ns.2) (nodesN kn8) :: blk t 60 [.map (some mb)] :: mapS mb (Tl.1.map kp) :: (nodesL Tl.1 ++ (blk b1 48 [.int .i64 2, .int .i64 0, .int .i64 2, .int .i64 720720, .bool true, .bool true] :: H)))) (fun _ => by kernel_rfl) (nodes_walk Tl.2 Tk.2.2.sk (by intro x hx; simp only [kn8, List.mem_cons, List.not_mem_nil, or_false] at hx; rcases hx with rfl | rfl | rfl | rfl <;> decide) (blk b1 48 [.int .i64 2, .int .i64 0, .int .i64 2, .int .i64 720720, .bool true, .bool true] :: H) t mb)) (fun (ns : Option Addr × Nat) => ?_) : RT _ _ _ _ _ _ 15 _)
  rw [show (nodesN kn8).length = 4 by rw [nodesN_len]; rfl]
  refine (run0 (z := 9) 5 [0, 1, 130, 131] [(0, .bool false), (1, .pointer (some ⟨t, 0, none⟩)), (130, .bool true), (131, .pointer (some ⟨t, 0, none⟩))] (fun _ => by kernel_rfl) ?_ : RT _ _ _ _ _ _ 14 _)
  refine PT.drop ?_
  refine (stepR (z := 8) (callS 21 [.pointer (some ⟨t, 0, none⟩), .int .i64 3] (some 132) (fun _ => .int .i64 2) (fun _ => (blk t 60 [.map (some mb)] :: mapS mb (Tl.1.map kp) :: (nodesL Tl.1 ++ (blk b1 48 [.int .i64 2, .int .i64 0, .int .i64 2, .int .i64 720720, .bool true, .bool true] :: H)))) (fun _ => by kernel_rfl) (deep_walk Tl.2 Tk.2.2.sk (blk b1 48 [.int .i64 2, .int .i64 0, .int .i64 2, .int .i64 720720, .bool true, .bool true] :: H) t mb 3)) (fun _ => ?_) : RT _ _ _ _ _ _ 9 _)
  refine (run0 (z := 4) 4 [0, 135, 136] [(0, .bool false), (135, .bool true), (136, .pointer (some ⟨t, 0, none⟩))] (fun _ => by kernel_rfl) ?_ : RT _ _ _ _ _ _ 8 _)
  refine (stepR (z := 3) (callS 21 [.pointer (some ⟨t, 0, none⟩), .int .i64 9] (some 137) (fun _ => .int .i64 0) (fun _ => (blk t 60 [.map (some mb)] :: mapS mb (Tl.1.map kp) :: (nodesL Tl.1 ++ (blk b1 48 [.int .i64 2, .int .i64 0, .int .i64 2, .int .i64 720720, .bool true, .bool true] :: H)))) (fun _ => by kernel_rfl) (deep_walk Tl.2 Tk.2.2.sk (blk b1 48 [.int .i64 2, .int .i64 0, .int .i64 2, .int .i64 720720, .bool true, .bool true] :: H) t mb 9)) (fun _ => ?_) : RT _ _ _ _ _ _ 4 _)
  refine (run0 (z := 0) 3 [0] [(0, .bool true)] (fun _ => by kernel_rfl) (endR ?_) : RT _ _ _ _ _ _ 3 _)
  refine retR (by kernel_rfl) ?_
  refine done0 (.bool true) (fun _ => by kernel_rfl) (fun w hs => ?_) .ret (.inr rfl)
  exact ⟨(), rfl, (Sat.behind (hs.tail.tail)).tail⟩
end Go.Proofs.YtjbjngikaiggdaaGreatDoor
set_option linter.unusedVariables false
set_option linter.unusedSimpArgs false
namespace Go.Proofs.YtjbjngikaiggdaaGreatDoor
open Go.RowKit G
namespace G
/-- Several parts as one. -/
def manyS : List SP → SP
  | [] => pureS True
  | P :: l => two P (manyS l)
theorem Sat.openMany : ∀ {l H : List SP} {w : World}, Sat w (manyS l :: H) → Sat w (l ++ H)
  | [], _, _, h => (Sat.openPure h).2
  | P :: l, H, w, h => Sat.perm (List.perm_middle (a := P) (l₁ := l) (l₂ := H)) (Sat.openMany (l := l) (H := P :: H) (Sat.perm (List.Perm.swap _ _ _) (Sat.openTwo h)))
theorem Sat.closeMany : ∀ {l H : List SP} {w : World}, Sat w (l ++ H) → Sat w (manyS l :: H)
  | [], _, _, h => Sat.closePure trivial h
  | P :: l, H, w, h => Sat.closeTwo (Sat.perm (List.Perm.swap _ _ _) (Sat.closeMany (l := l) (H := P :: H) (Sat.perm (List.perm_middle (a := P) (l₁ := l) (l₂ := H)).symm h)))
end G
/-- A tree at t, whose nodes are N. -/
def treeS (t : Nat) (N : List Nr) : SP := exS fun p : Nat × List Nd => two (pureS (OkT N p.2 ∧ WFN N)) (manyS (blk t 60 [.map (some p.1)] :: mapS p.1 (p.2.map kp) :: nodesL p.2))
theorem Sat.openTree {t : Nat} {N : List Nr} {H : List SP} {w : World} (h : Sat w (treeS t N :: H)) : ∃ mb T, OkT N T ∧ WFN N ∧ Sat w (blk t 60 [.map (some mb)] :: mapS mb (T.map kp) :: (nodesL T ++ H)) := by
  obtain ⟨⟨mb, T⟩, h⟩ := Sat.openEx h
  obtain ⟨⟨hT, hw⟩, h⟩ := Sat.openPure (Sat.openTwo h)
  exact ⟨mb, T, hT, hw, Sat.openMany h⟩
theorem Sat.closeTree {t mb : Nat} {N : List Nr} {T : List Nd} {H : List SP} {w : World} (hT : OkT N T) (hw : WFN N) (h : Sat w (blk t 60 [.map (some mb)] :: mapS mb (T.map kp) :: (nodesL T ++ H))) : Sat w (treeS t N :: H) :=
  Sat.closeEx (mb, T) (Sat.closeTwo (Sat.closePure ⟨hT, hw⟩ (Sat.closeMany (l := blk t 60 [.map (some mb)] :: mapS mb (T.map kp) :: nodesL T) h)))
theorem treeAt {t : Nat} {N : List Nr} {H : List SP} (i : Nat) (hi : H[i]? = some (treeS t N)) : ∀ w, Sat w H → WFN N := fun w hs => by
  obtain ⟨_, _, _, h, _⟩ := Sat.openTree (Sat.pick i hi hs)
  exact h
theorem rowCell {α : Type} {E : Enc α} {T : TypeId} {H : List SP} (i : Nat) {b o m k : Nat} {xs : List α} (hi : H[i]? = some (row E T (.slice (some ⟨b, o, none⟩) m k) xs)) {J j : Nat} {x : α} {u : Value} (hx : xs[J]? = some x) (hu : (E.enc x)[j]? = some u) : ∀ w, Sat w H → w.cell? ⟨b, o + J * E.k + j, none⟩ = some u := by
  intro w hs
  obtain ⟨G, hG⟩ := (Sat.pick i hi hs).head
  have hme : m = xs.length := hG.lenEq
  subst hme
  exact (rowKRat (A := some ⟨b, o, none⟩) (k := k) (E := E) (T := T) (xs := xs) i hi).cell rfl hx hu w hs
section
variable (H : List SP) (t : Nat) (N : List Nr)
theorem trNew : ∀ w, Sat w H → Calls Tryz.prog 5 #[] w (Ret (ι := Nat) (fun t => .pointer (some ⟨t, 0, none⟩)) fun t => treeS t [rootN] :: H) := fun w hs =>
  (tnew_walk H w hs).mono fun e w' ⟨x, he, hx⟩ => ⟨x.1, he, Sat.closeTree (root_ok x.2.2.1 x.2.2.2) root_wf hx⟩
theorem trAdd (par id wt : Int) (thr : Bool) : ∀ w, Sat w (treeS t N :: H) → Calls Tryz.prog 8 #[.pointer (some ⟨t, 0, none⟩), .int .i64 par, .int .i64 id, .int .i64 wt, .bool thr] w (Ret (ι := Unit) (fun _ => pqErr (addN N par id wt thr).1) fun _ => treeS t (addN N par id wt thr).2 :: H) := fun w hs => by
  obtain ⟨mb, T, hT, hw, hs⟩ := Sat.openTree hs
  exact (add_walk hT hw.sk H t mb par id wt thr w hs).mono fun e w' ⟨⟨T', hT'⟩, he, hx⟩ => ⟨(), he, Sat.closeTree hT' (add_wf hw par id wt thr) hx⟩
theorem trReady (id : Int) (r : Bool) : ∀ w, Sat w (treeS t N :: H) → Calls Tryz.prog 12 #[.pointer (some ⟨t, 0, none⟩), .int .i64 id, .bool r] w (Ret (ι := Unit) (fun _ => pqErr (readyN N id r).1) fun _ => treeS t (readyN N id r).2 :: H) := fun w hs => by
  obtain ⟨mb, T, hT, hw, hs⟩ := Sat.openTree hs
  exact (ready_walk hT hw.sk hw.lb H t mb id r w hs).mono fun e w' ⟨⟨T', hT', _⟩, he, hx⟩ => ⟨(), he, Sat.closeTree hT' (ready_wf hw id r) hx⟩
theorem trWeight (id W : Int) : ∀ w, Sat w (treeS t N :: H) → Calls Tryz.prog 14 #[.pointer (some ⟨t, 0, none⟩), .int .i64 id, .int .i64 W] w (Ret (ι := Unit) (fun _ => pqErr (weightN N id W).1) fun _ => treeS t (weightN N id W).2 :: H) := fun w hs => by
  obtain ⟨mb, T, hT, hw, hs⟩ := Sat.openTree hs
  exact (weight_walk hT hw H t mb id W w hs).mono fun e w' ⟨⟨T', hT', _⟩, he, hx⟩ => ⟨(), he, Sat.closeTree hT' (weight_wf hw id W) hx⟩
theorem trRemove (id : Int) : ∀ w, Sat w (treeS t N :: H) → Calls Tryz.prog 10 #[.pointer (some ⟨t, 0, none⟩), .int .i64 id] w (Ret (ι := Unit) (fun _ => pqErr (removeN N id).1) fun _ => treeS t (removeN N id).2 :: H) := fun w hs => by
  obtain ⟨mb, T, hT, hw, hs⟩ := Sat.openTree hs
  exact (remove_walk hT hw.sk hw.lb H t mb id w hs).mono fun e w' ⟨⟨T', hT'⟩, he, hx⟩ => ⟨(), he, Sat.closeTree hT' (remove_wf hw id) hx⟩
theorem trRun : ∀ w, Sat w (treeS t N :: H) → Calls Tryz.prog 16 #[.pointer (some ⟨t, 0, none⟩)] w (Ret (ι := Unit) (fun _ => .tuple #[.int .i64 (runN N).1.1, .bool (runN N).1.2]) fun _ => treeS t (runN N).2 :: H) := fun w hs => by
  obtain ⟨mb, T, hT, hw, hs⟩ := Sat.openTree hs
  exact (run_walk hT hw H t mb w hs).mono fun e w' ⟨⟨T', hT', _⟩, he, hx⟩ => ⟨(), he, Sat.closeTree hT' (run_wf hw) hx⟩
theorem trNodes (hid : ∀ x ∈ N, x.id ≤ 9223372036854775807) : ∀ w, Sat w (treeS t N :: H) → Calls Tryz.prog 19 #[.pointer (some ⟨t, 0, none⟩)] w (Ret (ι := Option Addr × Nat) (fun x => .slice x.1 (nodesN N).length x.2) fun x => row nE 48 (.slice x.1 (nodesN N).length x.2) (nodesN N) :: treeS t N :: H) := fun w hs => by
  obtain ⟨mb, T, hT, hw, hs⟩ := Sat.openTree hs
  refine (nodes_walk hT hw.sk hid H t mb w hs).mono fun e w' ⟨x, he, hx⟩ => ⟨x, he, ?_⟩
  have h1 := Sat.perm (List.perm_middle (a := row nE 48 (.slice x.1 (nodesN N).length x.2) (nodesN N)) (l₁ := blk t 60 [.map (some mb)] :: mapS mb (T.map kp) :: nodesL T) (l₂ := H)).symm hx
  exact Sat.perm (List.Perm.swap _ _ _) (Sat.closeTree hT hw h1)
theorem trDeep (id : Int) : ∀ w, Sat w (treeS t N :: H) → Calls Tryz.prog 21 #[.pointer (some ⟨t, 0, none⟩), .int .i64 id] w (Ret (ι := Unit) (fun _ => .int .i64 (deepN 6 N id : Int)) fun _ => treeS t N :: H) := fun w hs => by
  obtain ⟨mb, T, hT, hw, hs⟩ := Sat.openTree hs
  exact (deep_walk hT hw.sk H t mb id w hs).mono fun e w' ⟨_, he, hx⟩ => ⟨(), he, Sat.closeTree hT hw hx⟩
theorem trNode (id : Int) : ∀ w, Sat w (treeS t N :: H) → Calls Tryz.prog 23 #[.pointer (some ⟨t, 0, none⟩), .int .i64 id] w (Ret (ι := Unit) (fun _ => .tuple #[ndV ((gt N id).getD zeroN), .bool (gt N id).isSome]) fun _ => treeS t N :: H) := fun w hs => by
  obtain ⟨mb, T, hT, hw, hs⟩ := Sat.openTree hs
  exact (node_walk hT hw.sk.nd H t mb id w hs).mono fun e w' ⟨_, he, hx⟩ => ⟨(), he, Sat.closeTree hT hw hx⟩
end
section
variable {N N' : List Nr} (H : List SP) (t : Nat)
theorem trAdd_ok {par id wt : Int} {thr : Bool} (h : addN N par id wt thr = (0, N')) : ∀ w, Sat w (treeS t N :: H) → Calls Tryz.prog 8 #[.pointer (some ⟨t, 0, none⟩), .int .i64 par, .int .i64 id, .int .i64 wt, .bool thr] w (Ret (ι := Unit) (fun _ => .nilIface) fun _ => treeS t N' :: H) := by
  have := trAdd H t N par id wt thr; rw [h] at this; exact this
theorem trAdd_no {par id wt : Int} {thr : Bool} {e : Int} (h : addN N par id wt thr = (e, N')) (he : e ≠ 0) : ∀ w, Sat w (treeS t N :: H) → Calls Tryz.prog 8 #[.pointer (some ⟨t, 0, none⟩), .int .i64 par, .int .i64 id, .int .i64 wt, .bool thr] w (Ret (ι := Unit) (fun _ => .iface 52 (.int .i64 e)) fun _ => treeS t N' :: H) := by
  have := trAdd H t N par id wt thr; rw [h] at this; simp only [pqErr, if_neg he] at this; exact this
theorem trReady_ok {id : Int} {r : Bool} (h : readyN N id r = (0, N')) : ∀ w, Sat w (treeS t N :: H) → Calls Tryz.prog 12 #[.pointer (some ⟨t, 0, none⟩), .int .i64 id, .bool r] w (Ret (ι := Unit) (fun _ => .nilIface) fun _ => treeS t N' :: H) := by
  have := trReady H t N id r; rw [h] at this; exact this
theorem trReady_no {id : Int} {r : Bool} {e : Int} (h : readyN N id r = (e, N')) (he : e ≠ 0) : ∀ w, Sat w (treeS t N :: H) → Calls Tryz.prog 12 #[.pointer (some ⟨t, 0, none⟩), .int .i64 id, .bool r] w (Ret (ι := Unit) (fun _ => .iface 52 (.int .i64 e)) fun _ => treeS t N' :: H) := by
  have := trReady H t N id r; rw [h] at this; simp only [pqErr, if_neg he] at this; exact this
theorem trWeight_ok {id W : Int} (h : weightN N id W = (0, N')) : ∀ w, Sat w (treeS t N :: H) → Calls Tryz.prog 14 #[.pointer (some ⟨t, 0, none⟩), .int .i64 id, .int .i64 W] w (Ret (ι := Unit) (fun _ => .nilIface) fun _ => treeS t N' :: H) := by
  have := trWeight H t N id W; rw [h] at this; exact this
theorem trRun_is {z : Int × Bool} (h : runN N = (z, N')) : ∀ w, Sat w (treeS t N :: H) → Calls Tryz.prog 16 #[.pointer (some ⟨t, 0, none⟩)] w (Ret (ι := Unit) (fun _ => .tuple #[.int .i64 z.1, .bool z.2]) fun _ => treeS t N' :: H) := by
  have := trRun H t N; rw [h] at this; exact this
end
end Go.Proofs.YtjbjngikaiggdaaGreatDoor
set_option linter.unusedVariables false
set_option linter.unusedSimpArgs false
namespace Go.Proofs.YtjbjngikaiggdaaGreatDoor
open Go.RowKit G
def IdB (N : List Nr) : Prop := ∀ x ∈ N, x.id ≤ 9223372036854775807
theorem IdB.map {N : List Nr} (h : IdB N) {g : Nr → Nr} (hg : Skel g) : IdB (N.map g) := fun x hx => by
  obtain ⟨y, hy, rfl⟩ := List.mem_map.1 hx
  rw [hg.id]; exact h y hy
theorem readyN_map (N : List Nr) (k : Int) (r : Bool) : ∃ g, Skel g ∧ (readyN N k r).2 = N.map g := by
  have same : ∃ g, Skel g ∧ N = N.map g := ⟨fun x => x, Skel.same, by simp⟩
  rw [readyN]
  cases gt N k with
  | none => exact same
  | some x =>
    simp only
    split
    · split
      · obtain ⟨g, h1, _, h3⟩ := wakeN_map 6 N k; exact ⟨g, h1, h3⟩
      · obtain ⟨g, h1, _, h3⟩ := restN_map 6 N k; exact ⟨g, h1, h3⟩
    · exact same
theorem IdB.ready {N : List Nr} (h : IdB N) (k : Int) (r : Bool) : IdB (readyN N k r).2 := by
  obtain ⟨g, h1, h2⟩ := readyN_map N k r
  rw [h2]; exact h.map h1
theorem IdB.add {N : List Nr} (h : IdB N) (par id wt : Int) (thr : Bool) (hi : id ≤ 9223372036854775807) : IdB (addN N par id wt thr).2 := by
  rw [addN]
  split
  · exact h
  · split
    · exact h
    · split
      · exact h
      · split
        · exact h
        · split
          · exact h
          · split
            · exact h
            · intro x hx
              rcases List.mem_append.1 hx with hx | hx
              · exact h x hx
              · simp at hx; subst hx; exact hi
theorem IdB.remove {N : List Nr} (h : IdB N) (k : Int) : IdB (removeN N k).2 := by
  rw [removeN]
  split
  · exact h
  · split
    · exact h
    · obtain ⟨g, h1, _, h3⟩ := restN_map 6 N k
      intro x hx
      have hx := (List.mem_filter.1 hx).1
      rw [h3] at hx
      exact h.map h1 x hx
theorem IdB.weight {N : List Nr} (h : IdB N) (k W : Int) : IdB (weightN N k W).2 := by
  rw [weightN]
  split
  · exact h
  · split
    · exact h
    · split
      · exact h
      · split
        · exact h
        · exact h.map (skel_ite ⟨fun _ => rfl, fun _ => rfl, fun _ => rfl⟩)
theorem IdB.run {N : List Nr} (h : IdB N) (hw : WFN N) : IdB (runN N).2 := by
  cases hg : gt N 0 with
  | none => rw [runN, hg]; exact h
  | some r =>
    cases hr : r.rdy with
    | true => obtain ⟨y, id, g, h1, h2, _⟩ := run_root hw hg hr; rw [h1]; exact h.map h2.sk
    | false => rw [runN, hg]; simp only [hr, Bool.false_eq_true, if_false]; exact h
theorem nodesN_mem {N : List Nr} (hn : (N.map (·.id)).Nodup) {u : Nat} {y : Nr} (h : (nodesN N)[u]? = some y) : y ∈ N := by
  have hm := List.mem_of_getElem? h
  rw [nodesN] at hm
  obtain ⟨k, hk, rfl⟩ := List.mem_map.1 hm
  obtain ⟨z, hz, rfl⟩ := List.mem_map.1 (sortI_mem.1 hk)
  rw [gt_of hn hz]; exact hz
theorem two_pass {N : List Nr} (hw : WFN N) {x y : Nr} (hx : x ∈ N) (hy : y ∈ N) (h0 : x.id ≠ 0) (hp : x.par = y.par) (hrx : x.rdy = true) (hry : y.rdy = true) : x.pass - y.pass ≤ strd x.wt ∧ y.pass - x.pass ≤ strd y.wt ∧ (0 ≤ x.pass ∧ x.pass ≤ 33554432) ∧ 0 ≤ y.pass ∧ y.pass ≤ 33554432 := by
  obtain ⟨_, p, hpm, hpi, _⟩ := hw.sk.pa x hx h0
  have h1 := hw.pn x hx p hpm hpi
  have h2 := hw.pn y hy p hpm (by rw [hpi, hp])
  have h3 := h1.2 hrx
  have h4 := h2.2 hry
  have h5 := hw.pass x hx
  have h6 := hw.pass y hy
  omega
end Go.Proofs.YtjbjngikaiggdaaGreatDoor
set_option linter.unusedVariables false
set_option linter.unusedSimpArgs false
namespace Go.Proofs.YtjbjngikaiggdaaGreatDoor
open Go.RowKit G
namespace G
section
variable {α : Type} {E : Enc α} {T : TypeId} {H : List SP} {P : Program} {n : Nat} {L : List (Nat × Value)} {c : Code}
/-- x[l:h]. -/
theorem slcY {S : World → Prop} {i : Nat} (t : TypeId) (x : Operand) (lo hi : Option Operand) (A : Option Addr) (len cap l h sz : Nat) (e : TypeId) (d : Option Tmp) (hg : ∀ rest, goes n c i L rest = true) (hd : (opAt c i).dst = d) (hop : (opAt c i).op = .slice t x lo hi none)
    (hx : ∀ rest, evalL L rest x = .slice A len cap) (hl : (lo = none ∧ l = 0) ∨ ∃ o k j, lo = some o ∧ (∀ rest, evalL L rest o = .int k j) ∧ j = (l : Int)) (hh : (hi = none ∧ h = len) ∨ ∃ o k j, hi = some o ∧ (∀ rest, evalL L rest o = .int k j) ∧ j = (h : Int))
    (hu : P.underlying t = some (.slice e)) (hsz : (P.info? e).map (·.size) = some sz) (h1 : l ≤ h) (h2 : h ≤ cap) : Yld P n L S c i d (.slice (cutA A cap l sz) (h - l) (cap - l)) := by
  refine ⟨hg, hd, fun rest w _ _ => ?_⟩
  have hi' : ∃ q, P.info? e = some q ∧ q.size = sz := by
    cases hq : P.info? e with
    | none => rw [hq] at hsz; cases hsz
    | some q => rw [hq] at hsz; exact ⟨q, rfl, by simpa using hsz⟩
  obtain ⟨q, hq, hqs⟩ := hi'
  unfold execOp
  rcases hl with ⟨rfl, rfl⟩ | ⟨o, k, j, rfl, ho, rfl⟩ <;> rcases hh with ⟨rfl, rfl⟩ | ⟨o', k', j', rfl, ho', rfl⟩
  · simp only [hop, Option.map_none, hx rest]
    simp [cutA, Instr.sliceAt, Instr.slice, Instr.sliceBounds, Instr.sliceBound, asIntOf, run_underlying hu, sizeOf, typeInfo, hq, hqs, h1, h2]
  · simp only [hop, Option.map_none, Option.map_some, hx rest, ho' rest]
    simp [cutA, Instr.sliceAt, Instr.slice, Instr.sliceBounds, Instr.sliceBound, asIntOf, run_underlying hu, sizeOf, typeInfo, hq, hqs, h1, h2]
  · simp only [hop, Option.map_none, Option.map_some, hx rest, ho rest]
    simp [cutA, Instr.sliceAt, Instr.slice, Instr.sliceBounds, Instr.sliceBound, asIntOf, run_underlying hu, sizeOf, typeInfo, hq, hqs, h1, h2]
  · simp only [hop, Option.map_none, Option.map_some, hx rest, ho rest, ho' rest]
    simp [cutA, Instr.sliceAt, Instr.slice, Instr.sliceBounds, Instr.sliceBound, asIntOf, run_underlying hu, sizeOf, typeInfo, hq, hqs, h1, h2]
theorem subRd {A : Option Addr} {cap : Nat} {xs : List α} (h : KR H E ⟨A, cap, xs⟩) {l hh : Nat} (h1 : l ≤ hh) (h2 : hh ≤ xs.length) : ∀ w, Sat w H → Rd E w (.slice (cutA A cap l E.k) (hh - l) (cap - l)) ((xs.take hh).drop l) := by
  intro w hs
  obtain ⟨ao, c', hv, a1, a2, a3, a4⟩ := h w hs
  unfold SV.v at hv
  simp only at hv
  injection hv with e1 _ e3
  subst e1 e3
  have hlen : ((xs.take hh).drop l).length = hh - l := by simp; omega
  refine ⟨cutA A cap l E.k, cap - l, by rw [hlen], by rw [hlen]; simp only at a1; omega, by omega, fun hn => ?_, fun a ha j u hu => ?_⟩
  · cases A with
    | none => obtain ⟨b1, b2⟩ := a3 rfl; simp only at b1; subst b1; exact ⟨by simp, by omega⟩
    | some a => unfold cutA at hn; split at hn <;> cases hn
  · cases A with
    | none => unfold cutA at ha; split at ha <;> cases ha
    | some a0 =>
      have hlt : j < (E.flat ((xs.take hh).drop l)).length := (List.getElem?_eq_some_iff.1 hu).1
      rw [E.flat_length, hlen] at hlt
      have hne : cap ≠ l := fun e => by
        simp only at a1
        have : hh - l = 0 := by omega
        rw [this] at hlt; omega
      unfold cutA at ha
      rw [if_neg hne] at ha
      simp only [Option.map_some, Option.some.injEq] at ha
      subst ha
      rw [add_add]
      refine a4 a0 rfl _ u ?_
      simp only
      rw [← Enc.flat_drop, List.getElem?_drop, ← Enc.flat_take, List.getElem?_take] at hu
      split at hu
      · exact hu
      · cases hu
theorem dropRd {A : Option Addr} {cap : Nat} {xs : List α} (h : KR H E ⟨A, cap, xs⟩) {l : Nat} (h1 : l ≤ xs.length) : ∀ w, Sat w H → Rd E w (.slice (cutA A cap l E.k) (xs.length - l) (cap - l)) (xs.drop l) := by
  have := subRd h h1 (Nat.le_refl _)
  rwa [List.take_length] at this
/-- Cell by cell. -/
def Chain (E : Enc α) : α → List (Nat × Value) → α → Prop
  | x, [], x' => x = x'
  | x, q :: ws, x' => ∃ y, (E.enc y = (E.enc x).set q.1 q.2 ∧ Nat.ble (q.1 + 1) E.k = true) ∧ Chain E y ws x'
/-- Cells of an element of a row are stored. -/
theorem setsS {i b o m k J : Nat} {xs : List α} (x x' : α) (ws : List (Nat × Value)) (h : ∀ rest, storesOk P n c i L rest = some (ws.map fun q => (⟨b, o + J * E.k + q.1, none⟩, q.2))) (hx : xs[J]? = some x) (he : Chain E x ws x') :
    Step (ι := Unit) P n L (row E T (.slice (some ⟨b, o, none⟩) m k) xs :: H) c i none (fun _ => undef) (fun _ => row E T (.slice (some ⟨b, o, none⟩) m k) (xs.set J x') :: H) := by
  refine skipS _ (fun rest => (storesOk_spec (h rest)).1) (storesOk_spec (h fun _ => undef)).2.1 ?_
  intro rest w _ hs
  obtain ⟨G, hG⟩ := hs.head
  have hme : m = xs.length := hG.lenEq
  subst hme
  have hlx : J < xs.length := (List.getElem?_eq_some_iff.1 hx).1
  have hks : ∀ (ws : List (Nat × Value)) (x : α), Chain E x ws x' → ∀ q ∈ ws, q.1 < E.k := by
    intro ws
    induction ws with
    | nil => intro x _ q hq; cases hq
    | cons z ws ih =>
      rintro x ⟨y, ⟨_, h2⟩, h3⟩ q hq
      rcases List.mem_cons.1 hq with rfl | hq
      · exact Nat.le_of_ble_eq_true h2
      · exact ih y h3 q hq
  refine ⟨_, writesL_run _ (storesOk_spec (h rest)).2.2 ?_, ?_⟩
  · intro q hq
    obtain ⟨z, hz, rfl⟩ := List.mem_map.1 hq
    refine ⟨?_, hG.frozen rfl _⟩
    have hr : Rd E w _ xs := hG.rd
    obtain ⟨b', o', k', hv, _, _, hc⟩ := hr.at (i := J) hlx
    cases hv
    have hjl : z.1 < (E.enc x).length := by rw [E.len]; exact hks ws x he z hz
    simp only
    rw [hc J z.1 x _ hx (List.getElem?_eq_getElem hjl)]
    rfl
  · have key : ∀ (ws : List (Nat × Value)) (w : World) (x : α) (ys : List α), Sat w (row E T (.slice (some ⟨b, o, none⟩) ys.length k) ys :: H) → ys[J]? = some x → Chain E x ws x' → Sat (setAll w (ws.map fun q => (⟨b, o + J * E.k + q.1, none⟩, q.2))) (row E T (.slice (some ⟨b, o, none⟩) ys.length k) (ys.set J x') :: H) := by
      intro ws
      induction ws with
      | nil =>
        intro w x ys hs hy he
        have e : x = x' := he
        subst e
        have : ys.set J x = ys := by
          apply List.ext_getElem?
          intro i
          rw [List.getElem?_set]
          split
          · rename_i e; subst e; rw [if_pos (List.getElem?_eq_some_iff.1 hy).1, hy]
          · rfl
        rw [this]; exact hs
      | cons q ws ih =>
        rintro w x ys hs hy ⟨y, ⟨h1, h2⟩, h3⟩
        have hjl : J < ys.length := (List.getElem?_eq_some_iff.1 hy).1
        have hs2 : Sat (w.setCell ⟨b, o + J * E.k + q.1, none⟩ q.2) (row E T (.slice (some ⟨b, o, none⟩) ys.length k) (ys.set J y) :: H) := by
          refine Sat.change hs fun G' hG' => ?_
          refine ⟨?_, G', Row.set hG' hy h1 (Nat.le_of_ble_eq_true h2), fun x hx => .inl hx⟩
          rcases hG' with ⟨hv, _, _⟩ | ⟨b', o', c', cur, hv, hF, _⟩
          · cases hv
          · cases hv
            exact Upd.setCell w _ _ (by rw [hF]; rfl)
        have hl : ys.length = (ys.set J y).length := by rw [List.length_set]
        have := ih (w.setCell ⟨b, o + J * E.k + q.1, none⟩ q.2) y (ys.set J y) (by rw [← hl]; exact hs2) (by rw [List.getElem?_set_self hjl]) h3
        rw [List.set_set, ← hl] at this
        exact this
    exact key ws w x xs hs hx he
end
end G
end Go.Proofs.YtjbjngikaiggdaaGreatDoor
set_option linter.unusedVariables false
set_option linter.unusedSimpArgs false
namespace Go.Proofs.YtjbjngikaiggdaaGreatDoor
open Go.RowKit G
set_option maxRecDepth 100000 in
theorem rIsW_walk (H : List SP) (w_ : Int) : ∀ w, Sat w H → Calls Tryz.prog 29 #[.int .i64 w_] w (Ret (ι := Unit) (fun _ => .bool (isW w_)) fun _ => H) := by
  refine enterG (fn := Tryz.f29) 9 [.int .i64 w_] Tryz.func29 (by kernel_rfl) (by kernel_rfl) (by kernel_rfl) ?_
  refine seqR (by kernel_rfl) ?_
  refine regionR 1 (by kernel_rfl) (by kernel_rfl) ?_
  refine (run0 (z := 0) 1 [0, 2] [(0, .int .i64 w_), (2, .bool false)] (fun _ => by kernel_rfl) (endR ?_) : RT _ _ _ _ _ _ 1 _)
  refine seqR (by kernel_rfl) ?_
  refine regionR 7 (by kernel_rfl) (by kernel_rfl) ?_
  refine (run0 (z := 4) 3 [0, 2, 5] [(0, .int .i64 w_), (2, .bool false), (5, .bool (decide (w_ ≥ 1)))] (fun _ => by kernel_rfl) ?_ : RT _ _ _ _ _ _ 7 _)
  refine (segR (ι := Unit) (z := 1) 3 (fun _ => [(2, .bool false), (8, .bool ((decide (w_ ≥ 1)) && (decide (w_ ≤ 16))))]) (fun _ => (H)) ?_ (fun _ => ?_) : RT _ _ _ _ _ _ 4 _)
  · cases hg3 : (decide (w_ ≥ 1)) with
    | true =>
      refine (run0 (z := 0) 3 [2, 8] [(2, .bool false), (8, .bool (decide (w_ ≤ 16)))] (fun _ => by kernel_rfl) (endR ?_) : RT _ _ _ _ _ _ 3 _)
      refine PT.keep (L' := [(2, .bool false), (8, .bool (true && (decide (w_ ≤ 16))))]) [2, 8] rfl ?_
      exact midR () rfl rfl
    | false =>
      refine (run0 (z := 0) 3 [2, 8] [(2, .bool false), (8, .bool false)] (fun _ => by kernel_rfl) (endR ?_) : RT _ _ _ _ _ _ 3 _)
      refine PT.keep (L' := [(2, .bool false), (8, .bool (false && (decide (w_ ≤ 16))))]) [2, 8] rfl ?_
      exact midR () rfl rfl
  refine (run0 (z := 0) 1 [2] [(2, .bool ((decide (w_ ≥ 1)) && (decide (w_ ≤ 16))))] (fun _ => by kernel_rfl) (endR ?_) : RT _ _ _ _ _ _ 1 _)
  refine retR (by kernel_rfl) ?_
  refine done0 (.bool ((decide (w_ ≥ 1)) && (decide (w_ ≤ 16)))) (fun _ => by kernel_rfl) (fun w hs => ?_) .ret (.inr rfl)
  exact ⟨(), rfl, hs⟩
set_option maxRecDepth 100000 in
theorem rOf_walk (H : List SP) (w_ : Int) : ∀ w, Sat w H → Calls Tryz.prog 56 #[.int .i64 w_] w (Ret (ι := Unit) (fun _ => .int .i64 (strd w_)) fun _ => H) := by
  refine enterG (fn := Tryz.f56) 8 [.int .i64 w_] Tryz.func56 (by kernel_rfl) (by kernel_rfl) (by kernel_rfl) ?_
  refine seqR (by kernel_rfl) ?_
  refine regionR 1 (by kernel_rfl) (by kernel_rfl) ?_
  refine (run0 (z := 0) 1 [0, 2] [(0, .int .i64 w_), (2, .int .i64 0)] (fun _ => by kernel_rfl) (endR ?_) : RT _ _ _ _ _ _ 1 _)
  refine seqR (by kernel_rfl) ?_
  refine seqR (by kernel_rfl) ?_
  refine regionR 3 (by kernel_rfl) (by kernel_rfl) ?_
  refine (run0 (z := 2) 1 [0, 2, 3] [(0, .int .i64 w_), (2, .int .i64 0), (3, .int .i64 w_)] (fun _ => by kernel_rfl) ?_ : RT _ _ _ _ _ _ 3 _)
  refine (stepR (z := 1) (callS 29 [.int .i64 w_] (some 4) (fun _ => .bool (isW w_)) (fun (_ : Unit) => (H)) (fun _ => by kernel_rfl) (rIsW_walk _ w_)) (fun _ => ?_) : RT _ _ _ _ _ _ 2 _)
  refine (run0 (z := 0) 1 [0, 2, 5] [(0, .int .i64 w_), (2, .int .i64 0), (5, .bool (!(isW w_)))] (fun _ => by kernel_rfl) (endR ?_) : RT _ _ _ _ _ _ 1 _)
  refine condR (b := !(isW w_)) (by kernel_rfl) (fun _ => by kernel_rfl) (fun h1 => ?_) (fun h1 => ?_)
  · skip
    refine seqR (by kernel_rfl) ?_
    refine regionR 1 (by kernel_rfl) (by kernel_rfl) ?_
    refine (run0 (z := 0) 1 [0, 2] [(0, .int .i64 w_), (2, .int .i64 0)] (fun _ => by kernel_rfl) (endR ?_) : RT _ _ _ _ _ _ 1 _)
    refine retR (by kernel_rfl) ?_
    refine thenV ?_
    refine done0 (.int .i64 0) (fun _ => by kernel_rfl) (fun w hs => ?_) .ret (.inr rfl)
    exact ⟨(), by rw [strd, if_neg (by simpa using h1)], hs⟩
  · skip
    refine skipR (by kernel_rfl) ?_
    refine seqR (by kernel_rfl) ?_
    refine regionR 3 (by kernel_rfl) (by kernel_rfl) ?_
    refine (run0 (z := 2) 1 [2, 6] [(2, .int .i64 0), (6, .int .i64 w_)] (fun _ => by kernel_rfl) ?_ : RT _ _ _ _ _ _ 3 _)
    have hw : isW w_ = true := by simpa using h1
    refine (stepR (z := 1) (yldS (binY .quo 3 3 (.const (.int .i64 720720)) (.tmp 6) (.int .i64 720720) (.int .i64 w_) (.int .i64 (IntKind.i64.wrap ((720720 : Int).tdiv w_))) (some 7) (fun _ => by kernel_rfl) (by kernel_rfl) (by kernel_rfl) (fun _ => by kernel_rfl) (fun _ => by kernel_rfl) (quoR (t' := 0) (by have := isW_cases hw; omega)))) (fun _ => ?_) : RT _ _ _ _ _ _ 2 _)
    refine (run0 (z := 0) 1 [2] [(2, .int .i64 (IntKind.i64.wrap ((720720 : Int).tdiv w_)))] (fun _ => by kernel_rfl) (endR ?_) : RT _ _ _ _ _ _ 1 _)
    refine retR (by kernel_rfl) ?_
    refine done0 (.int .i64 (IntKind.i64.wrap ((720720 : Int).tdiv w_))) (fun _ => by kernel_rfl) (fun w hs => ?_) .ret (.inr rfl)
    exact ⟨(), by rw [show IntKind.i64.wrap ((720720 : Int).tdiv w_) = strd w_ from ?_]; rw [strd, if_pos hw]; have h2 := strd_pos hw; rw [strd, if_pos hw] at h2; exact w64 (by omega) (by omega), hs⟩
def fairB (n a m b : Int) : Bool := decide (n * strd a - m * strd b ≤ strd a + strd b) && decide (0 - (n * strd a - m * strd b) ≤ strd a + strd b)
end Go.Proofs.YtjbjngikaiggdaaGreatDoor
set_option linter.unusedVariables false
set_option linter.unusedSimpArgs false
namespace Go.Proofs.YtjbjngikaiggdaaGreatDoor
open Go.RowKit G
/-- A node of the document's tree. -/
def rnE : Enc Nr := ⟨7, by decide, fun x => [.int .i64 x.id, .int .i64 x.par, .int .i64 x.wt, .int .i64 x.pass, .bool x.thr, .bool x.rdy, .int .i64 x.now], fun _ => rfl, by intro a u hu; simp at hu; rcases hu with rfl | rfl | rfl | rfl | rfl | rfl | rfl <;> rfl⟩
theorem rnE_ety : Ety Tryz.prog rnE 62 (.agg #[.int .i64 0, .int .i64 0, .int .i64 0, .int .i64 0, .bool false, .bool false, .int .i64 0]) := by
  obtain ⟨i, hi, hz, hs, hb⟩ := info_parts (P := Tryz.prog) (e := 62) (z := .agg #[.int .i64 0, .int .i64 0, .int .i64 0, .int .i64 0, .bool false, .bool false, .int .i64 0]) (size := 7) (bytes := 48) (by kernel_rfl)
  exact ⟨⟨i, hi, hz, hs, by omega⟩, rfl⟩
/-- The document's tree at t. -/
def rtS (t : Nat) (L : List Nr) : SP := exS fun p : Nat × Nat × Nat => two (blk t 65 [.slice (some ⟨p.1, p.2.1, none⟩) L.length p.2.2]) (row rnE 62 (.slice (some ⟨p.1, p.2.1, none⟩) L.length p.2.2) L)
theorem Sat.openRt {t : Nat} {L : List Nr} {H : List SP} {w : World} (h : Sat w (rtS t L :: H)) : ∃ b o c, Sat w (blk t 65 [.slice (some ⟨b, o, none⟩) L.length c] :: row rnE 62 (.slice (some ⟨b, o, none⟩) L.length c) L :: H) := by
  obtain ⟨⟨b, o, c⟩, h⟩ := Sat.openEx h
  exact ⟨b, o, c, Sat.openTwo h⟩
theorem PT.openRt {n : Nat} {X : List (Nat × Value)} {t : Nat} {L : List Nr} {H : List SP} {Φ : Act → World → Prop} (h : ∀ b o c, PT n X (blk t 65 [.slice (some ⟨b, o, none⟩) L.length c] :: row rnE 62 (.slice (some ⟨b, o, none⟩) L.length c) L :: H) Φ) : PT n X (rtS t L :: H) Φ := fun rest w ho hs => by
  obtain ⟨b, o, c, hs⟩ := Sat.openRt hs
  exact h b o c rest w ho hs
theorem Sat.closeRt {t : Nat} {L : List Nr} {A : Option Addr} {c : Nat} {H : List SP} {w : World} (hn : L ≠ []) (h : Sat w (blk t 65 [.slice A L.length c] :: row rnE 62 (.slice A L.length c) L :: H)) : Sat w (rtS t L :: H) := by
  rcases rowA (A := A) (k := c) 1 rfl w h with ⟨_, h2, _⟩ | ⟨b, o, rfl⟩
  · exact absurd h2 hn
  · exact Sat.closeEx (b, o, c) (Sat.closeTwo h)
/-! ## places -/
def ixL (L : List Nr) (id : Int) : Int := match L.findIdx? (fun x => x.id == id) with | some i => (i : Int) | none => -1
theorem ixL_at {L : List Nr} {i : Nat} {x : Nr} (h : L[i]? = some x) (hno : ∀ (j : Nat) y, j < i → L[j]? = some y → y.id ≠ x.id) : ixL L x.id = i := by
  have : L.findIdx? (fun y => y.id == x.id) = some i := by
    have hi := (List.getElem?_eq_some_iff.1 h).1
    rw [List.findIdx?_eq_some_iff_getElem]
    refine ⟨hi, by rw [(List.getElem?_eq_some_iff.1 h).2]; simp, fun j hj => ?_⟩
    have := hno j (L[j]'(by omega)) hj (List.getElem?_eq_getElem (by omega))
    simpa using this
  rw [ixL, this]
theorem ixL_no {L : List Nr} {id : Int} (h : ∀ y ∈ L, y.id ≠ id) : ixL L id = -1 := by
  have : L.findIdx? (fun y => y.id == id) = none := List.findIdx?_eq_none_iff.2 fun y hy => by simpa using h y hy
  rw [ixL, this]
theorem nd_at {L : List Nr} (hn : (L.map (·.id)).Nodup) {i j : Nat} {x y : Nr} (hi : L[i]? = some x) (hj : L[j]? = some y) (e : x.id = y.id) : i = j := by
  have h1 : (L.map (·.id))[i]? = some x.id := by rw [List.getElem?_map, hi]; rfl
  have h2 : (L.map (·.id))[j]? = some x.id := by rw [List.getElem?_map, hj, e]; rfl
  exact (List.getElem?_inj (List.getElem?_eq_some_iff.1 h1).1 hn).1 (h1.trans h2.symm)
theorem ixL_nd {L : List Nr} (hn : (L.map (·.id)).Nodup) {i : Nat} {x : Nr} (h : L[i]? = some x) : ixL L x.id = i :=
  ixL_at h fun j y hj hy e => by have := nd_at hn hy h e; omega
theorem ixL_gt {L : List Nr} (hn : (L.map (·.id)).Nodup) {id : Int} {x : Nr} (h : gt L id = some x) : ∃ i : Nat, L[i]? = some x ∧ ixL L id = i := by
  obtain ⟨h1, rfl⟩ := gt_mem h
  obtain ⟨i, hi⟩ := List.mem_iff_getElem?.1 h1
  exact ⟨i, hi, ixL_nd hn hi⟩
theorem gt_at {L : List Nr} (hn : (L.map (·.id)).Nodup) {i : Nat} {x : Nr} (h : L[i]? = some x) : gt L x.id = some x := gt_of hn (List.mem_of_getElem? h)
set_option maxRecDepth 100000 in
theorem rat_walk (H : List SP) (t b o c : Nat) (L : List Nr) (id : Int) (hl : L.length ≤ 1000) : ∀ w, Sat w (blk t 65 [.slice (some ⟨b, o, none⟩) L.length c] :: row rnE 62 (.slice (some ⟨b, o, none⟩) L.length c) L :: H) → Calls Tryz.prog 28 #[.pointer (some ⟨t, 0, none⟩), .int .i64 id] w (Ret (ι := Unit) (fun _ => .int .i64 (ixL L id)) fun _ => blk t 65 [.slice (some ⟨b, o, none⟩) L.length c] :: row rnE 62 (.slice (some ⟨b, o, none⟩) L.length c) L :: H) := by
  refine enterG (fn := Tryz.f28) 27 [.pointer (some ⟨t, 0, none⟩), .int .i64 id] Tryz.func28 (by kernel_rfl) (by kernel_rfl) (by kernel_rfl) ?_
  refine seqR (by kernel_rfl) ?_
  refine regionR 1 (by kernel_rfl) (by kernel_rfl) ?_
  refine (run0 (z := 0) 1 [0, 1, 4] [(0, .pointer (some ⟨t, 0, none⟩)), (1, .int .i64 id), (4, .int .i64 0)] (fun _ => by kernel_rfl) (endR ?_) : RT _ _ _ _ _ _ 1 _)
  refine seqR (by kernel_rfl) ?_
  refine seqR (by kernel_rfl) ?_
  refine regionR 1 (by kernel_rfl) (by kernel_rfl) ?_
  refine (run0 (z := 0) 1 [0, 1, 4, 5] [(0, .pointer (some ⟨t, 0, none⟩)), (1, .int .i64 id), (4, .int .i64 0), (5, .int .i64 0)] (fun _ => by kernel_rfl) (endR ?_) : RT _ _ _ _ _ _ 1 _)
  refine blockR 0 (by kernel_rfl) (by kernel_rfl) ?_
  refine PT.keep (L' := [(0, .pointer (some ⟨t, 0, none⟩)), (1, .int .i64 id), (5, .int .i64 0)]) [0, 1, 5] rfl ?_
  refine loopG (fun (i : Nat) => [(0, .pointer (some ⟨t, 0, none⟩)), (1, .int .i64 id), (5, .int .i64 (i : Int))]) (fun (i : Nat) => (blk t 65 [.slice (some ⟨b, o, none⟩) L.length c] :: row rnE 62 (.slice (some ⟨b, o, none⟩) L.length c) L :: H)) (fun k (i : Nat) => k + i = L.length ∧ ∀ (j : Nat) y, j < i → L[j]? = some y → y.id ≠ id) L.length 0 (by kernel_rfl) ⟨by simp, fun j y hj => by omega⟩ ?_
  rintro k i ⟨hki, hno⟩
  refine seqR (by kernel_rfl) ?_
  refine seqR (by kernel_rfl) ?_
  refine regionR 7 (by kernel_rfl) (by kernel_rfl) ?_
  refine (runR (H := (blk t 65 [.slice (some ⟨b, o, none⟩) L.length c] :: row rnE 62 (.slice (some ⟨b, o, none⟩) L.length c) L :: H)) (z := 0) 7 [0, 1, 5, 12] [(0, .pointer (some ⟨t, 0, none⟩)), (1, .int .i64 id), (5, .int .i64 (i : Int)), (12, .bool (decide ((i : Int) < (L.length : Int))))] [(⟨t, 0, none⟩, .slice (some ⟨b, o, none⟩) L.length c)] (hasC (blkAt (T := 65) (cs := [.slice (some ⟨b, o, none⟩) L.length c]) 0 rfl rfl) has0) (fun _ => by kernel_rfl) (endR ?_) : RT _ _ _ _ _ _ 7 _)
  refine condR (b := decide ((i : Int) < (L.length : Int))) (by kernel_rfl) (fun _ => by kernel_rfl) (fun h1 => ?_) (fun h1 => ?_)
  · skip
    have hi : i < L.length := by have := of_decide_eq_true h1; omega
    obtain ⟨x, hx⟩ : ∃ x, L[i]? = some x := ⟨_, List.getElem?_eq_getElem hi⟩
    refine skipR (by kernel_rfl) ?_
    refine seqR (by kernel_rfl) ?_
    refine blockR 1 (by kernel_rfl) (by kernel_rfl) ?_
    refine seqR (by kernel_rfl) ?_
    refine regionR 11 (by kernel_rfl) (by kernel_rfl) ?_
    refine (runR (H := (blk t 65 [.slice (some ⟨b, o, none⟩) L.length c] :: row rnE 62 (.slice (some ⟨b, o, none⟩) L.length c) L :: H)) (z := 6) 5 [0, 1, 5, 18, 19] [(0, .pointer (some ⟨t, 0, none⟩)), (1, .int .i64 id), (5, .int .i64 (i : Int)), (18, .slice (some ⟨b, o, none⟩) L.length c), (19, .int .i64 (i : Int))] [(⟨t, 0, none⟩, .slice (some ⟨b, o, none⟩) L.length c)] (hasC (blkAt (T := 65) (cs := [.slice (some ⟨b, o, none⟩) L.length c]) 0 rfl rfl) has0) (fun _ => by kernel_rfl) ?_ : RT _ _ _ _ _ _ 11 _)
    refine (stepR (z := 5) (yldS (idxY 63 (.tmp 18) (.tmp 19) b o L.length c i 7 62 (i : Int) .i64 (some 20) (fun _ => by kernel_rfl) (by kernel_rfl) (by kernel_rfl) (fun _ => by kernel_rfl) (fun _ => by kernel_rfl) Tryz.underlying63 (by kernel_rfl) (by first | rfl | assumption | simp) (by first | omega | (simp; done) | (simp; omega) | (simp at *; omega)))) (fun _ => ?_) : RT _ _ _ _ _ _ 6 _)
    refine (runR (H := (blk t 65 [.slice (some ⟨b, o, none⟩) L.length c] :: row rnE 62 (.slice (some ⟨b, o, none⟩) L.length c) L :: H)) (z := 0) 5 [0, 1, 5, 25] [(0, .pointer (some ⟨t, 0, none⟩)), (1, .int .i64 id), (5, .int .i64 (i : Int)), (25, .bool (x.id == id))] [(⟨b, o + i * 7, none⟩, .int .i64 x.id)] (hasC (rowCell (E := rnE) (xs := L) 1 rfl (x := x) hx (j := 0) rfl) has0) (fun _ => by kernel_rfl) (endR ?_) : RT _ _ _ _ _ _ 5 _)
    refine condR (b := x.id == id) (by kernel_rfl) (fun _ => by kernel_rfl) (fun h2 => ?_) (fun h2 => ?_)
    · skip
      have hid : x.id = id := by simpa using h2
      refine seqR (by kernel_rfl) ?_
      refine regionR 2 (by kernel_rfl) (by kernel_rfl) ?_
      refine (run0 (z := 0) 2 [0, 1, 5, 4] [(0, .pointer (some ⟨t, 0, none⟩)), (1, .int .i64 id), (5, .int .i64 (i : Int)), (4, .int .i64 (i : Int))] (fun _ => by kernel_rfl) (endR ?_) : RT _ _ _ _ _ _ 2 _)
      refine retR (by kernel_rfl) ?_
      refine blockV ?_
      refine thenV ?_
      refine thenV ?_
      refine blockV ?_
      refine thenV ?_
      refine done0 (.int .i64 (i : Int)) (fun _ => by kernel_rfl) (fun w hs => ?_) .ret (.inr rfl)
      exact ⟨(), by rw [← hid, ixL_at hx (fun j y hj hy => by rw [hid]; exact hno j y hj hy)], hs⟩
    · skip
      have hid : x.id ≠ id := by simpa using h2
      refine skipR (by kernel_rfl) ?_
      refine regionR 3 (by kernel_rfl) (by kernel_rfl) ?_
      refine (run0 (z := 0) 3 [0, 1, 5] [(0, .pointer (some ⟨t, 0, none⟩)), (1, .int .i64 id), (5, .int .i64 (IntKind.i64.wrap ((i : Int) + 1)))] (fun _ => by kernel_rfl) (endR ?_) : RT _ _ _ _ _ _ 3 _)
      rw [show IntKind.i64.wrap ((i : Int) + 1) = ((i : Int) + 1) by rw [w64 (by omega) (by omega)]]
      refine PT.keep (L' := [(0, .pointer (some ⟨t, 0, none⟩)), (1, .int .i64 id), (5, .int .i64 ((i : Int) + 1))]) [0, 1, 5] rfl ?_
      exact againG (k - 1) (i + 1) rfl rfl (by omega) ⟨by omega, fun j y hj hy => by by_cases cj : j = i; (subst cj; rw [hx] at hy; cases hy; exact hid); exact hno j y (by omega) hy⟩
  · skip
    have hi : i = L.length := by have := of_decide_eq_false h1; omega
    refine exitR 0 (by kernel_rfl) (by kernel_rfl) ?_
    refine thenX ?_
    refine thenX ?_
    refine leaveR ?_
    refine seqR (by kernel_rfl) ?_
    refine regionR 1 (by kernel_rfl) (by kernel_rfl) ?_
    refine (run0 (z := 0) 1 [4] [(4, .int .i64 (-1))] (fun _ => by kernel_rfl) (endR ?_) : RT _ _ _ _ _ _ 1 _)
    refine retR (by kernel_rfl) ?_
    refine done0 (.int .i64 (-1)) (fun _ => by kernel_rfl) (fun w hs => ?_) .ret (.inr rfl)
    exact ⟨(), by rw [ixL_no (fun y hy => by obtain ⟨j, hj⟩ := List.mem_iff_getElem?.1 hy; exact hno j y (by rw [hi]; exact (List.getElem?_eq_some_iff.1 hj).1) hj)], hs⟩
set_option maxRecDepth 100000 in
theorem rsome_walk (H : List SP) (t b o c : Nat) (L : List Nr) (id : Int) (hl : L.length ≤ 1000) : ∀ w, Sat w (blk t 65 [.slice (some ⟨b, o, none⟩) L.length c] :: row rnE 62 (.slice (some ⟨b, o, none⟩) L.length c) L :: H) → Calls Tryz.prog 33 #[.pointer (some ⟨t, 0, none⟩), .int .i64 id] w (Ret (ι := Unit) (fun _ => .bool (L.any fun x => x.par == id && x.rdy)) fun _ => blk t 65 [.slice (some ⟨b, o, none⟩) L.length c] :: row rnE 62 (.slice (some ⟨b, o, none⟩) L.length c) L :: H) := by
  refine enterG (fn := Tryz.f33) 37 [.pointer (some ⟨t, 0, none⟩), .int .i64 id] Tryz.func33 (by kernel_rfl) (by kernel_rfl) (by kernel_rfl) ?_
  refine seqR (by kernel_rfl) ?_
  refine regionR 1 (by kernel_rfl) (by kernel_rfl) ?_
  refine (run0 (z := 0) 1 [0, 1, 4] [(0, .pointer (some ⟨t, 0, none⟩)), (1, .int .i64 id), (4, .bool false)] (fun _ => by kernel_rfl) (endR ?_) : RT _ _ _ _ _ _ 1 _)
  refine seqR (by kernel_rfl) ?_
  refine seqR (by kernel_rfl) ?_
  refine regionR 1 (by kernel_rfl) (by kernel_rfl) ?_
  refine (run0 (z := 0) 1 [0, 1, 4, 5] [(0, .pointer (some ⟨t, 0, none⟩)), (1, .int .i64 id), (4, .bool false), (5, .int .i64 0)] (fun _ => by kernel_rfl) (endR ?_) : RT _ _ _ _ _ _ 1 _)
  refine blockR 0 (by kernel_rfl) (by kernel_rfl) ?_
  refine PT.keep (L' := [(0, .pointer (some ⟨t, 0, none⟩)), (1, .int .i64 id), (5, .int .i64 0)]) [0, 1, 5] rfl ?_
  refine loopG (fun (i : Nat) => [(0, .pointer (some ⟨t, 0, none⟩)), (1, .int .i64 id), (5, .int .i64 (i : Int))]) (fun (i : Nat) => (blk t 65 [.slice (some ⟨b, o, none⟩) L.length c] :: row rnE 62 (.slice (some ⟨b, o, none⟩) L.length c) L :: H)) (fun k (i : Nat) => k + i = L.length ∧ ∀ (j : Nat) y, j < i → L[j]? = some y → (y.par == id && y.rdy) = false) L.length 0 (by kernel_rfl) ⟨by simp, fun j y hj => by omega⟩ ?_
  rintro k i ⟨hki, hno⟩
  refine seqR (by kernel_rfl) ?_
  refine seqR (by kernel_rfl) ?_
  refine regionR 7 (by kernel_rfl) (by kernel_rfl) ?_
  refine (runR (H := (blk t 65 [.slice (some ⟨b, o, none⟩) L.length c] :: row rnE 62 (.slice (some ⟨b, o, none⟩) L.length c) L :: H)) (z := 0) 7 [0, 1, 5, 12] [(0, .pointer (some ⟨t, 0, none⟩)), (1, .int .i64 id), (5, .int .i64 (i : Int)), (12, .bool (decide ((i : Int) < (L.length : Int))))] [(⟨t, 0, none⟩, .slice (some ⟨b, o, none⟩) L.length c)] (hasC (blkAt (T := 65) (cs := [.slice (some ⟨b, o, none⟩) L.length c]) 0 rfl rfl) has0) (fun _ => by kernel_rfl) (endR ?_) : RT _ _ _ _ _ _ 7 _)
  refine condR (b := decide ((i : Int) < (L.length : Int))) (by kernel_rfl) (fun _ => by kernel_rfl) (fun h1 => ?_) (fun h1 => ?_)
  · skip
    have hi : i < L.length := by have := of_decide_eq_true h1; omega
    obtain ⟨x, hx⟩ : ∃ x, L[i]? = some x := ⟨_, List.getElem?_eq_getElem hi⟩
    refine skipR (by kernel_rfl) ?_
    refine seqR (by kernel_rfl) ?_
    refine blockR 1 (by kernel_rfl) (by kernel_rfl) ?_
    refine seqR (by kernel_rfl) ?_
    refine regionR 22 (by kernel_rfl) (by kernel_rfl) ?_
    refine (runR (H := (blk t 65 [.slice (some ⟨b, o, none⟩) L.length c] :: row rnE 62 (.slice (some ⟨b, o, none⟩) L.length c) L :: H)) (z := 17) 5 [0, 1, 5, 18, 19] [(0, .pointer (some ⟨t, 0, none⟩)), (1, .int .i64 id), (5, .int .i64 (i : Int)), (18, .slice (some ⟨b, o, none⟩) L.length c), (19, .int .i64 (i : Int))] [(⟨t, 0, none⟩, .slice (some ⟨b, o, none⟩) L.length c)] (hasC (blkAt (T := 65) (cs := [.slice (some ⟨b, o, none⟩) L.length c]) 0 rfl rfl) has0) (fun _ => by kernel_rfl) ?_ : RT _ _ _ _ _ _ 22 _)
    refine (stepR (z := 16) (yldS (idxY 63 (.tmp 18) (.tmp 19) b o L.length c i 7 62 (i : Int) .i64 (some 20) (fun _ => by kernel_rfl) (by kernel_rfl) (by kernel_rfl) (fun _ => by kernel_rfl) (fun _ => by kernel_rfl) Tryz.underlying63 (by kernel_rfl) (by first | rfl | assumption | simp) (by first | omega | (simp; done) | (simp; omega) | (simp at *; omega)))) (fun _ => ?_) : RT _ _ _ _ _ _ 17 _)
    refine (runR (H := (blk t 65 [.slice (some ⟨b, o, none⟩) L.length c] :: row rnE 62 (.slice (some ⟨b, o, none⟩) L.length c) L :: H)) (z := 10) 6 [0, 1, 5, 26] [(0, .pointer (some ⟨t, 0, none⟩)), (1, .int .i64 id), (5, .int .i64 (i : Int)), (26, .bool (x.par == id))] [(⟨b, o + i * 7 + 1, none⟩, .int .i64 x.par)] (hasC (rowCell (E := rnE) (xs := L) 1 rfl (x := x) hx (j := 1) rfl) has0) (fun _ => by kernel_rfl) ?_ : RT _ _ _ _ _ _ 16 _)
    refine (segR (ι := Unit) (z := 0) 10 (fun _ => [(0, .pointer (some ⟨t, 0, none⟩)), (1, .int .i64 id), (5, .int .i64 (i : Int)), (36, .bool ((x.par == id) && x.rdy))]) (fun _ => (blk t 65 [.slice (some ⟨b, o, none⟩) L.length c] :: row rnE 62 (.slice (some ⟨b, o, none⟩) L.length c) L :: H)) ?_ (fun _ => ?_) : RT _ _ _ _ _ _ 10 _)
    · cases hg12 : (x.par == id) with
      | true =>
        refine (runR (H := (blk t 65 [.slice (some ⟨b, o, none⟩) L.length c] :: row rnE 62 (.slice (some ⟨b, o, none⟩) L.length c) L :: H)) (z := 5) 5 [0, 1, 5, 26, 30, 31] [(0, .pointer (some ⟨t, 0, none⟩)), (1, .int .i64 id), (5, .int .i64 (i : Int)), (26, .bool true), (30, .slice (some ⟨b, o, none⟩) L.length c), (31, .int .i64 (i : Int))] [(⟨t, 0, none⟩, .slice (some ⟨b, o, none⟩) L.length c)] (hasC (blkAt (T := 65) (cs := [.slice (some ⟨b, o, none⟩) L.length c]) 0 rfl rfl) has0) (fun _ => by kernel_rfl) ?_ : RT _ _ _ _ _ _ 10 _)
        refine (stepR (z := 4) (yldS (idxY 63 (.tmp 30) (.tmp 31) b o L.length c i 7 62 (i : Int) .i64 (some 32) (fun _ => by kernel_rfl) (by kernel_rfl) (by kernel_rfl) (fun _ => by kernel_rfl) (fun _ => by kernel_rfl) Tryz.underlying63 (by kernel_rfl) (by first | rfl | assumption | simp) (by first | omega | (simp; done) | (simp; omega) | (simp at *; omega)))) (fun _ => ?_) : RT _ _ _ _ _ _ 5 _)
        refine (runR (H := (blk t 65 [.slice (some ⟨b, o, none⟩) L.length c] :: row rnE 62 (.slice (some ⟨b, o, none⟩) L.length c) L :: H)) (z := 0) 4 [0, 1, 5, 36] [(0, .pointer (some ⟨t, 0, none⟩)), (1, .int .i64 id), (5, .int .i64 (i : Int)), (36, .bool x.rdy)] [(⟨b, o + i * 7 + 5, none⟩, .bool x.rdy)] (hasC (rowCell (E := rnE) (xs := L) 1 rfl (x := x) hx (j := 5) rfl) has0) (fun _ => by kernel_rfl) (endR ?_) : RT _ _ _ _ _ _ 4 _)
        refine PT.keep (L' := [(0, .pointer (some ⟨t, 0, none⟩)), (1, .int .i64 id), (5, .int .i64 (i : Int)), (36, .bool (true && x.rdy))]) [0, 1, 5, 36] rfl ?_
        exact midR () rfl rfl
      | false =>
        refine (run0 (z := 0) 10 [0, 1, 5, 36] [(0, .pointer (some ⟨t, 0, none⟩)), (1, .int .i64 id), (5, .int .i64 (i : Int)), (36, .bool false)] (fun _ => by kernel_rfl) (endR ?_) : RT _ _ _ _ _ _ 10 _)
        refine PT.keep (L' := [(0, .pointer (some ⟨t, 0, none⟩)), (1, .int .i64 id), (5, .int .i64 (i : Int)), (36, .bool (false && x.rdy))]) [0, 1, 5, 36] rfl ?_
        exact midR () rfl rfl
    refine endR ?_
    refine condR (b := (x.par == id) && x.rdy) (by kernel_rfl) (fun _ => by kernel_rfl) (fun h2 => ?_) (fun h2 => ?_)
    · skip
      refine seqR (by kernel_rfl) ?_
      refine regionR 1 (by kernel_rfl) (by kernel_rfl) ?_
      refine (run0 (z := 0) 1 [0, 1, 5, 4] [(0, .pointer (some ⟨t, 0, none⟩)), (1, .int .i64 id), (5, .int .i64 (i : Int)), (4, .bool true)] (fun _ => by kernel_rfl) (endR ?_) : RT _ _ _ _ _ _ 1 _)
      refine retR (by kernel_rfl) ?_
      refine blockV ?_
      refine thenV ?_
      refine thenV ?_
      refine blockV ?_
      refine thenV ?_
      refine done0 (.bool true) (fun _ => by kernel_rfl) (fun w hs => ?_) .ret (.inr rfl)
      exact ⟨(), by rw [List.any_eq_true.2 ⟨x, List.mem_of_getElem? hx, h2⟩], hs⟩
    · skip
      refine skipR (by kernel_rfl) ?_
      refine regionR 3 (by kernel_rfl) (by kernel_rfl) ?_
      refine (run0 (z := 0) 3 [0, 1, 5] [(0, .pointer (some ⟨t, 0, none⟩)), (1, .int .i64 id), (5, .int .i64 (IntKind.i64.wrap ((i : Int) + 1)))] (fun _ => by kernel_rfl) (endR ?_) : RT _ _ _ _ _ _ 3 _)
      rw [show IntKind.i64.wrap ((i : Int) + 1) = ((i : Int) + 1) by rw [w64 (by omega) (by omega)]]
      refine PT.keep (L' := [(0, .pointer (some ⟨t, 0, none⟩)), (1, .int .i64 id), (5, .int .i64 ((i : Int) + 1))]) [0, 1, 5] rfl ?_
      exact againG (k - 1) (i + 1) rfl rfl (by omega) ⟨by omega, fun j y hj hy => by by_cases cj : j = i; (subst cj; rw [hx] at hy; cases hy; exact h2); exact hno j y (by omega) hy⟩
  · skip
    have hi : i = L.length := by have := of_decide_eq_false h1; omega
    refine exitR 0 (by kernel_rfl) (by kernel_rfl) ?_
    refine thenX ?_
    refine thenX ?_
    refine leaveR ?_
    refine seqR (by kernel_rfl) ?_
    refine regionR 1 (by kernel_rfl) (by kernel_rfl) ?_
    refine (run0 (z := 0) 1 [4] [(4, .bool false)] (fun _ => by kernel_rfl) (endR ?_) : RT _ _ _ _ _ _ 1 _)
    refine retR (by kernel_rfl) ?_
    refine done0 (.bool false) (fun _ => by kernel_rfl) (fun w hs => ?_) .ret (.inr rfl)
    exact ⟨(), by rw [List.any_eq_false.2 (fun y hy => by obtain ⟨j, hj⟩ := List.mem_iff_getElem?.1 hy; rw [hno j y (by rw [hi]; exact (List.getElem?_eq_some_iff.1 hj).1) hj]; simp)], hs⟩
set_option maxRecDepth 100000 in
theorem rdeep_walk (H : List SP) (t b o c : Nat) (L : List Nr) (hsk : SK L) (k0 : Int) : ∀ w, Sat w (blk t 65 [.slice (some ⟨b, o, none⟩) L.length c] :: row rnE 62 (.slice (some ⟨b, o, none⟩) L.length c) L :: H) → Calls Tryz.prog 22 #[.pointer (some ⟨t, 0, none⟩), .int .i64 k0] w (Ret (ι := Unit) (fun _ => .int .i64 (deepN 6 L k0 : Int)) fun _ => blk t 65 [.slice (some ⟨b, o, none⟩) L.length c] :: row rnE 62 (.slice (some ⟨b, o, none⟩) L.length c) L :: H) := by
  obtain ⟨rk, hrk⟩ := hsk.rk
  have hnd := hsk.nd
  have hl := hsk.len
  refine enterG (fn := Tryz.f22) 26 [.pointer (some ⟨t, 0, none⟩), .int .i64 k0] Tryz.func22 (by kernel_rfl) (by kernel_rfl) (by kernel_rfl) ?_
  refine seqR (by kernel_rfl) ?_
  refine regionR 1 (by kernel_rfl) (by kernel_rfl) ?_
  refine (run0 (z := 0) 1 [0, 1, 4] [(0, .pointer (some ⟨t, 0, none⟩)), (1, .int .i64 k0), (4, .int .i64 0)] (fun _ => by kernel_rfl) (endR ?_) : RT _ _ _ _ _ _ 1 _)
  refine seqR (by kernel_rfl) ?_
  refine regionR 1 (by kernel_rfl) (by kernel_rfl) ?_
  refine (run0 (z := 0) 1 [0, 1, 4, 5] [(0, .pointer (some ⟨t, 0, none⟩)), (1, .int .i64 k0), (4, .int .i64 0), (5, .int .i64 0)] (fun _ => by kernel_rfl) (endR ?_) : RT _ _ _ _ _ _ 1 _)
  refine seqR (by kernel_rfl) ?_
  refine seqR (by kernel_rfl) ?_
  refine regionR 4 (by kernel_rfl) (by kernel_rfl) ?_
  refine (run0 (z := 2) 2 [0, 4, 5, 7, 8] [(0, .pointer (some ⟨t, 0, none⟩)), (4, .int .i64 0), (5, .int .i64 0), (7, .pointer (some ⟨t, 0, none⟩)), (8, .int .i64 k0)] (fun _ => by kernel_rfl) ?_ : RT _ _ _ _ _ _ 4 _)
  refine (stepR (z := 1) (callS 28 [.pointer (some ⟨t, 0, none⟩), .int .i64 k0] (some 9) (fun _ => .int .i64 (ixL L k0)) (fun _ => (blk t 65 [.slice (some ⟨b, o, none⟩) L.length c] :: row rnE 62 (.slice (some ⟨b, o, none⟩) L.length c) L :: H)) (fun _ => by kernel_rfl) (rat_walk H t b o c L k0 (by omega))) (fun _ => ?_) : RT _ _ _ _ _ _ 2 _)
  refine (run0 (z := 0) 1 [0, 4, 5, 6] [(0, .pointer (some ⟨t, 0, none⟩)), (4, .int .i64 0), (5, .int .i64 0), (6, .int .i64 (ixL L k0))] (fun _ => by kernel_rfl) (endR ?_) : RT _ _ _ _ _ _ 1 _)
  refine blockR 0 (by kernel_rfl) (by kernel_rfl) ?_
  refine PT.keep (L' := [(0, .pointer (some ⟨t, 0, none⟩)), (4, .int .i64 0), (5, .int .i64 0), (6, .int .i64 (ixL L k0))]) [0, 4, 5, 6] rfl ?_
  refine loopG (fun (x : Int × Nat) => [(0, .pointer (some ⟨t, 0, none⟩)), (4, .int .i64 0), (5, .int .i64 (x.2 : Int)), (6, .int .i64 (ixL L x.1))]) (fun (x : Int × Nat) => (blk t 65 [.slice (some ⟨b, o, none⟩) L.length c] :: row rnE 62 (.slice (some ⟨b, o, none⟩) L.length c) L :: H)) (fun k (x : Int × Nat) => k + x.2 = 6 ∧ deepN 6 L k0 = x.2 + deepN k L x.1 ∧ ∀ y ∈ L, y.id = x.1 → rk y.id + x.2 ≤ 5) 6 (k0, 0) (by kernel_rfl) ⟨rfl, by simp, fun y hy _ => by have := (hrk y hy).2.2.1; simpa using this⟩ ?_
  rintro k ⟨id, n⟩ ⟨hkn, hd, hb⟩
  simp only at hkn hd hb
  cases hg : gt L id with
  | none =>
    have hix : ixL L id = -1 := ixL_no (gt_none.1 hg)
    rw [show ixL L id = -1 by exact hix]
    refine seqR (by kernel_rfl) ?_
    refine seqR (by kernel_rfl) ?_
    refine regionR 2 (by kernel_rfl) (by kernel_rfl) ?_
    refine (run0 (z := 0) 2 [0, 4, 5, 6, 11] [(0, .pointer (some ⟨t, 0, none⟩)), (4, .int .i64 0), (5, .int .i64 (n : Int)), (6, .int .i64 (-1)), (11, .bool false)] (fun _ => by kernel_rfl) (endR ?_) : RT _ _ _ _ _ _ 2 _)
    refine condR (b := false) (by kernel_rfl) (fun _ => by kernel_rfl) (fun h => by cases h) (fun _ => ?_)
    refine exitR 0 (by kernel_rfl) (by kernel_rfl) ?_
    refine thenX ?_
    refine thenX ?_
    refine leaveR ?_
    refine seqR (by kernel_rfl) ?_
    refine regionR 2 (by kernel_rfl) (by kernel_rfl) ?_
    refine (run0 (z := 0) 2 [4] [(4, .int .i64 (n : Int))] (fun _ => by kernel_rfl) (endR ?_) : RT _ _ _ _ _ _ 2 _)
    refine retR (by kernel_rfl) ?_
    have hz : deepN k L id = 0 := by cases k <;> simp [deepN, hg]
    refine done0 (.int .i64 (n : Int)) (fun _ => by kernel_rfl) (fun w hs => ?_) .ret (.inr rfl)
    exact ⟨(), by rw [hd, hz]; rfl, hs⟩
  | some y =>
    obtain ⟨i, hi, hix⟩ := ixL_gt hnd hg
    have hil := (List.getElem?_eq_some_iff.1 hi).1
    have hy := gt_mem hg
    have hr1 := hrk y hy.1
    have hb1 := hb y hy.1 hy.2
    rw [show ixL L id = (i : Int) by exact hix]
    refine seqR (by kernel_rfl) ?_
    refine seqR (by kernel_rfl) ?_
    refine regionR 2 (by kernel_rfl) (by kernel_rfl) ?_
    refine (run0 (z := 0) 2 [0, 4, 5, 6, 11] [(0, .pointer (some ⟨t, 0, none⟩)), (4, .int .i64 0), (5, .int .i64 (n : Int)), (6, .int .i64 (i : Int)), (11, .bool (decide ((i : Int) ≥ 0)))] (fun _ => by kernel_rfl) (endR ?_) : RT _ _ _ _ _ _ 2 _)
    refine condR (b := decide ((i : Int) ≥ 0)) (by kernel_rfl) (fun _ => by kernel_rfl) (fun h1 => ?_) (fun h1 => ?_)
    · skip
      refine skipR (by kernel_rfl) ?_
      refine seqR (by kernel_rfl) ?_
      refine blockR 1 (by kernel_rfl) (by kernel_rfl) ?_
      refine regionR 3 (by kernel_rfl) (by kernel_rfl) ?_
      refine (run0 (z := 0) 3 [0, 4, 5, 6] [(0, .pointer (some ⟨t, 0, none⟩)), (4, .int .i64 0), (5, .int .i64 (IntKind.i64.wrap ((n : Int) + 1))), (6, .int .i64 (i : Int))] (fun _ => by kernel_rfl) (endR ?_) : RT _ _ _ _ _ _ 3 _)
      refine regionR 12 (by kernel_rfl) (by kernel_rfl) ?_
      refine (runR (H := (blk t 65 [.slice (some ⟨b, o, none⟩) L.length c] :: row rnE 62 (.slice (some ⟨b, o, none⟩) L.length c) L :: H)) (z := 6) 6 [0, 4, 5, 6, 12, 16, 17] [(0, .pointer (some ⟨t, 0, none⟩)), (4, .int .i64 0), (5, .int .i64 (IntKind.i64.wrap ((n : Int) + 1))), (6, .int .i64 (i : Int)), (12, .pointer (some ⟨t, 0, none⟩)), (16, .slice (some ⟨b, o, none⟩) L.length c), (17, .int .i64 (i : Int))] [(⟨t, 0, none⟩, .slice (some ⟨b, o, none⟩) L.length c)] (hasC (blkAt (T := 65) (cs := [.slice (some ⟨b, o, none⟩) L.length c]) 0 rfl rfl) has0) (fun _ => by kernel_rfl) ?_ : RT _ _ _ _ _ _ 12 _)
      refine (stepR (z := 5) (yldS (idxY 63 (.tmp 16) (.tmp 17) b o L.length c i 7 62 (i : Int) .i64 (some 18) (fun _ => by kernel_rfl) (by kernel_rfl) (by kernel_rfl) (fun _ => by kernel_rfl) (fun _ => by kernel_rfl) Tryz.underlying63 (by kernel_rfl) (by first | rfl | assumption | simp) (by first | omega | (simp; done) | (simp; omega) | (simp at *; omega)))) (fun _ => ?_) : RT _ _ _ _ _ _ 6 _)
      refine (runR (H := (blk t 65 [.slice (some ⟨b, o, none⟩) L.length c] :: row rnE 62 (.slice (some ⟨b, o, none⟩) L.length c) L :: H)) (z := 2) 3 [0, 4, 5, 6, 12, 21] [(0, .pointer (some ⟨t, 0, none⟩)), (4, .int .i64 0), (5, .int .i64 (IntKind.i64.wrap ((n : Int) + 1))), (6, .int .i64 (i : Int)), (12, .pointer (some ⟨t, 0, none⟩)), (21, .int .i64 y.par)] [(⟨b, o + i * 7 + 1, none⟩, .int .i64 y.par)] (hasC (rowCell (E := rnE) (xs := L) 1 rfl (x := y) hi (j := 1) rfl) has0) (fun _ => by kernel_rfl) ?_ : RT _ _ _ _ _ _ 5 _)
      obtain ⟨k, rfl⟩ : ∃ k', k = k' + 1 := ⟨k - 1, by omega⟩
      have hd2 : deepN (k + 1) L id = deepN k L y.par + 1 := by rw [deepN, hg]
      rw [show IntKind.i64.wrap ((n : Int) + 1) = ((n : Int) + 1) by rw [w64 (by omega) (by omega)]]
      refine (stepR (z := 1) (callS 28 [.pointer (some ⟨t, 0, none⟩), .int .i64 y.par] (some 22) (fun _ => .int .i64 (ixL L y.par)) (fun _ => (blk t 65 [.slice (some ⟨b, o, none⟩) L.length c] :: row rnE 62 (.slice (some ⟨b, o, none⟩) L.length c) L :: H)) (fun _ => by kernel_rfl) (rat_walk H t b o c L y.par (by omega))) (fun _ => ?_) : RT _ _ _ _ _ _ 2 _)
      refine (run0 (z := 0) 1 [0, 4, 5, 6] [(0, .pointer (some ⟨t, 0, none⟩)), (4, .int .i64 0), (5, .int .i64 ((n : Int) + 1)), (6, .int .i64 (ixL L y.par))] (fun _ => by kernel_rfl) (endR ?_) : RT _ _ _ _ _ _ 1 _)
      refine PT.keep (L' := [(0, .pointer (some ⟨t, 0, none⟩)), (4, .int .i64 0), (5, .int .i64 ((n : Int) + 1)), (6, .int .i64 (ixL L y.par))]) [0, 4, 5, 6] rfl ?_
      exact againG k (y.par, n + 1) rfl rfl (by omega) ⟨by simp only; omega, by simp only; rw [hd, hd2]; omega, fun p hp hpi => by simp only at hpi ⊢; by_cases c : y.id = 0; (have := (hsk.rt y hy.1 c).1; have h3 : gt L p.id = none := hsk.neg (by omega); rw [gt_of hnd hp] at h3; cases h3); (have := hr1.2.1 c; rw [hpi]; omega)⟩
    · skip
      exact absurd h1 (by simp)
end Go.Proofs.YtjbjngikaiggdaaGreatDoor
set_option linter.unusedVariables false
set_option linter.unusedSimpArgs false
namespace Go.Proofs.YtjbjngikaiggdaaGreatDoor
open Go.RowKit G
/-- What Run leaves of a node: who it is, what it weighs, whether it is ready. -/
def skr (x : Nr) : Int × Int × Int × Bool × Bool := (x.id, x.par, x.wt, x.thr, x.rdy)
theorem Still.skr {g : Nr → Nr} (h : Still g) (N : List Nr) : (N.map g).map skr = N.map skr := by
  rw [List.map_map]
  refine List.map_congr_left fun x _ => ?_
  simp only [Function.comp, Go.Proofs.YtjbjngikaiggdaaGreatDoor.skr, h.sk.id, h.sk.par, h.sk.thr, h.rdy, h.wt]
theorem skr_mem {N : List Nr} {S : List (Int × Int × Int × Bool × Bool)} (h : N.map skr = S) {z : Nr} (hz : z ∈ N) : (z.id, z.par, z.wt, z.thr, z.rdy) ∈ S := h ▸ List.mem_map.2 ⟨z, hz, rfl⟩
theorem skr_get {N : List Nr} {S : List (Int × Int × Int × Bool × Bool)} (h : N.map skr = S) {i p w : Int} {t r : Bool} (hs : (i, p, w, t, r) ∈ S) : ∃ z ∈ N, z.id = i ∧ z.par = p ∧ z.wt = w ∧ z.thr = t ∧ z.rdy = r := by
  rw [← h] at hs
  obtain ⟨z, hz, e⟩ := List.mem_map.1 hs
  simp only [skr, Prod.mk.injEq] at e
  exact ⟨z, hz, e⟩
def ps (N : List Nr) (k : Int) : Int := ((gt N k).map (·.pass)).getD 0
theorem ps_of {N : List Nr} (hn : (N.map (·.id)).Nodup) {z : Nr} (hz : z ∈ N) : ps N z.id = z.pass := by rw [ps, gt_of hn hz]; rfl
theorem bel_leaf {N : List Nr} {k t : Int} (h : Bel N k t) (hn : ∀ z ∈ N, z.par ≠ k) : t = k := by
  cases h with
  | refl => rfl
  | step hy hp _ => exact absurd hp (hn _ hy)
/-- Two that are ready in one group: how far their passes lie apart. -/
theorem two_in {N : List Nr} (hw : WFN N) {a b p : Nr} (ha : a ∈ N) (hb : b ∈ N) (hp : p ∈ N) (hpa : p.id = a.par) (hpb : p.id = b.par) (hra : a.rdy = true) (hrb : b.rdy = true) : ps N a.id - ps N b.id ≤ strd a.wt ∧ ps N b.id - ps N a.id ≤ strd b.wt := by
  rw [ps_of hw.sk.nd ha, ps_of hw.sk.nd hb]
  have h1 := hw.pn a ha p hp hpa
  have h2 := hw.pn b hb p hp hpb
  have h3 := h1.2 hra
  have h4 := h2.2 hrb
  omega
/-- A run, of those in the root that are ready: the one that is chosen goes on by its stride. -/
theorem run_ps {N : List Nr} (hw : WFN N) {r : Nr} (hr : r ∈ N) (hri : r.id = 0) (hrd : r.rdy = true) : ∃ (y : Nr) (id : Int) (N' : List Nr), runN N = ((id, true), N') ∧ WFN N' ∧ N'.map skr = N.map skr ∧ y ∈ N ∧ y.par = 0 ∧ y.rdy = true ∧ (∃ t ∈ N, t.id = id ∧ t.thr = true ∧ t.rdy = true) ∧ Bel N y.id id ∧
    ∃ δ : Int, ∀ z ∈ N, z.par = 0 → z.rdy = true → ps N' z.id = ps N z.id + (if z.id = y.id then strd y.wt else 0) - δ := by
  obtain ⟨y, id, g, h1, h2, h3, h4, ⟨t, ht, hti, htt, htr, hb⟩, δ, hd⟩ := run_root hw (hri ▸ gt_of hw.sk.nd hr) hrd
  obtain ⟨hy, _⟩ := least_some h4
  obtain ⟨hyN, hyp, hyr⟩ := mem_kidR.1 hy
  refine ⟨y, id, N.map g, h1, h3, h2.skr N, hyN, hyp, hyr, ⟨t, ht, hti, htt, htr⟩, hb, δ, fun z hz hzp hzr => ?_⟩
  have e1 : ps (N.map g) z.id = (g z).pass := by
    have := ps_of h3.sk.nd (z := g z) (List.mem_map.2 ⟨z, hz, rfl⟩)
    rw [h2.sk.id] at this; exact this
  rw [e1, ps_of hw.sk.nd hz]
  exact hd z hz hzp hzr
def wOf (a : Int) : Int := a.tmod 16 + 1
theorem tmod_range {a m : Int} (h0 : 0 ≤ a) (hm : 0 < m) : 0 ≤ a.tmod m ∧ a.tmod m < m := by
  rw [Int.tmod_eq_emod_of_nonneg h0]
  exact ⟨Int.emod_nonneg _ (by omega), Int.emod_lt_of_pos _ hm⟩
theorem wOf_isW {a : Int} (h : 0 ≤ a) : isW (wOf a) = true := by
  have := tmod_range h (m := 16) (by omega)
  show (decide (a.tmod 16 + 1 ≥ 1) && decide (a.tmod 16 + 1 ≤ 16)) = true
  rw [decide_eq_true (by omega), decide_eq_true (by omega)]; rfl
theorem wOf_wrap {a : Int} (h : 0 ≤ a) : IntKind.i64.wrap ((IntKind.i64.wrap (Int.tmod a 16)) + 1) = wOf a := by
  have := tmod_range h (m := 16) (by omega)
  rw [w64 (n := Int.tmod a 16) (by omega) (by omega), w64 (n := Int.tmod a 16 + 1) (by omega) (by omega)]; rfl
/-- By counting: what is within the strides stays fair. -/
theorem fair_by {n m a b D E : Int} (h1 : D = E + (n * strd a - m * strd b)) (h2 : D ≤ strd a ∧ 0 - D ≤ strd b) (h3 : E ≤ strd a ∧ 0 - E ≤ strd b) : fairB n a m b = true := by
  simp only [fairB, Bool.and_eq_true, decide_eq_true_eq]
  omega
/-- No thread is ready: none runs. -/
theorem no_run {N : List Nr} (hw : WFN N) (h : ∀ t ∈ N, t.thr = true → t.rdy = false) : runN N = ((0, false), N) := by
  obtain ⟨r, hr, hr0⟩ := hw.sk.root
  have hg : gt N 0 = some r := hr0 ▸ gt_of hw.sk.nd hr
  cases hrd : r.rdy with
  | true =>
    obtain ⟨_, _, _, _, _, _, _, ⟨t, ht, _, htt, htr, _⟩, _⟩ := run_root hw hg hrd
    rw [h t ht htt] at htr; cases htr
  | false => rw [runN, hg]; simp only [hrd, Bool.false_eq_true, if_false]
theorem addN_is {N : List Nr} {par id wt : Int} {thr : Bool} {p : Nr} (hw : isW wt = true) (hid : 1 ≤ id) (hp : gt N par = some p) (hpt : p.thr = false) (hno : gt N id = none) (hd : thr = true ∨ deepN 6 N par < 4) (hl : N.length < 60) : addN N par id wt thr = (0, N ++ [⟨id, par, wt, p.now, thr, false, 0⟩]) := by
  rw [addN, if_neg (by rw [hw]; simp; omega), hp]
  simp only
  rw [if_neg (by rw [hpt]; simp), if_neg (by rw [hno]; simp), if_neg (by rintro ⟨h1, h2⟩; rcases hd with h | h; (rw [h1] at h; cases h); omega), if_neg (by omega)]
theorem wake_up {N : List Nr} {k : Int} {x p : Nr} (hg : gt N k = some x) (hr : x.rdy = false) (hp : gt N x.par = some p) (hpr : p.rdy = true) (hne : x.par ≠ k) : wakeN 6 N k = upN N k (wkF p.now) := by
  rw [wakeN, hg]
  simp only [hr, Bool.false_eq_true, if_false, hp]
  show wakeN 5 (upN N k (wkF p.now)) x.par = _
  rw [wakeN, gt_upN (f := wkF p.now) (fun _ => rfl), if_neg hne, hp]
  simp only [hpr, if_true]
theorem up_skr {N : List Nr} {k P : Int} : (upN N k (wkF P)).map skr = (N.map skr).map (fun s => if s.1 == k then (s.1, s.2.1, s.2.2.1, s.2.2.2.1, true) else s) := by
  rw [upN, List.map_map, List.map_map]
  refine List.map_congr_left fun x _ => ?_
  simp only [Function.comp, skr]
  split <;> simp_all [wkF, skr]
end Go.Proofs.YtjbjngikaiggdaaGreatDoor
set_option linter.unusedVariables false
set_option linter.unusedSimpArgs false
namespace Go.Proofs.YtjbjngikaiggdaaGreatDoor
open Go.RowKit G
/-- What waking leaves: who is ready stays so; passes that are none stay so. -/
structure Wk (N : List Nr) (g : Nr → Nr) : Prop where
  sk : Skel g
  wt : ∀ x, (g x).wt = x.wt ∧ (g x).now = x.now
  rdy : ∀ x, x.rdy = true → (g x).rdy = true
  zero : (∀ z ∈ N, z.pass = 0 ∧ z.now = 0) → ∀ z ∈ N, (g z).pass = 0
theorem Wk.same (N : List Nr) : Wk N (fun x => x) := ⟨Skel.same, fun _ => ⟨rfl, rfl⟩, fun _ h => h, fun h z hz => (h z hz).1⟩
theorem wake_wk : ∀ (f : Nat) (N : List Nr) (k : Int), ∃ g, Wk N g ∧ wakeN f N k = N.map g ∧ (0 < f → ∀ z ∈ N, (N.map (·.id)).Nodup → z.id = k → (g z).rdy = true)
  | 0, N, k => ⟨fun x => x, Wk.same N, by simp [wakeN], fun h => by omega⟩
  | f + 1, N, k => by
    rw [wakeN]
    cases hg : gt N k with
    | none => exact ⟨fun x => x, Wk.same N, by simp, fun _ z hz _ e => absurd e (gt_none.1 hg z hz)⟩
    | some x0 =>
      obtain ⟨hx0, hk0⟩ := gt_mem hg
      simp only
      by_cases hr : x0.rdy = true
      · rw [if_pos hr]
        exact ⟨fun x => x, Wk.same N, by simp, fun _ z hz hn e => by have := nd_eq hn hz hx0 (by rw [e, hk0]); subst this; exact hr⟩
      · rw [if_neg hr]
        cases hp : gt N x0.par with
        | none =>
          refine ⟨fun x => if x.id == k then { x with rdy := true } else x, ⟨skel_ite (f := fun x => { x with rdy := true }) skF, fun x => by by_cases c : (x.id == k) = true <;> simp [c], fun x h => by by_cases c : (x.id == k) = true <;> simp [c, h], fun h z hz => by have := (h z hz).1; by_cases c : (z.id == k) = true <;> simp [c, this]⟩, rfl, fun _ z hz _ e => by simp [e]⟩
        | some p =>
          obtain ⟨hpN, _⟩ := gt_mem hp
          simp only
          have w0 : Wk N (fun x => if x.id == k then wkF p.now x else x) := ⟨skel_ite (wkF_skel p.now), fun x => by by_cases c : (x.id == k) = true <;> simp [c, wkF], fun x h => by by_cases c : (x.id == k) = true <;> simp [c, wkF, h], fun h z hz => by
            have h1 := (h z hz).1
            have h2 := (h p hpN).2
            by_cases c : (z.id == k) = true
            · simp only [c, if_true, wkF, h1, h2]; rfl
            · simp [c, h1]⟩
          obtain ⟨g, hw, he, _⟩ := wake_wk f (upN N k (wkF p.now)) x0.par
          refine ⟨fun x => g (if x.id == k then wkF p.now x else x), ⟨w0.sk.comp hw.sk, fun x => by rw [(hw.wt _).1, (hw.wt _).2]; exact w0.wt x, fun x h => hw.rdy _ (w0.rdy x h), fun h z hz => ?_⟩, ?_, fun _ z hz _ e => ?_⟩
          · refine hw.zero (fun v hv => ?_) _ (List.mem_map.2 ⟨z, hz, rfl⟩)
            obtain ⟨u, hu, rfl⟩ := List.mem_map.1 hv
            exact ⟨w0.zero h u hu, by rw [(w0.wt u).2]; exact (h u hu).2⟩
          · have e : wakeN f (upN N k fun x => { x with rdy := true, pass := mxI x.pass p.now }) x0.par = _ := he
            rw [e, upN, List.map_map]; rfl
          · exact hw.rdy _ (by simp [e, wkF])
end Go.Proofs.YtjbjngikaiggdaaGreatDoor
set_option linter.unusedVariables false
set_option linter.unusedSimpArgs false
namespace Go.Proofs.YtjbjngikaiggdaaGreatDoor
open Go.RowKit G
/-- While threads come into the root: so many, of weights W; nothing has run. -/
structure ThI (W : Nat → Int) (u : Nat) (N : List Nr) : Prop where
  wf : WFN N
  all : ∀ z ∈ N, z.id = 0 ∨ ∃ j : Nat, j < u ∧ z.id = (j : Int) + 1 ∧ z.par = 0 ∧ z.wt = W j ∧ z.thr = true ∧ z.rdy = true
  has : ∀ j : Nat, j < u → ∃ z ∈ N, z.id = (j : Int) + 1
  zero : ∀ z ∈ N, z.pass = 0 ∧ z.now = 0
  len : N.length = 1 + u
theorem ThI.start (W : Nat → Int) : ThI W 0 [rootN] :=
  ⟨root_wf, fun z hz => by simp at hz; subst hz; exact .inl rfl, fun j hj => by omega, fun z hz => by simp at hz; subst hz; exact ⟨rfl, rfl⟩, rfl⟩
theorem ThI.add {W : Nat → Int} {u : Nat} {N : List Nr} (h : ThI W u N) (hu : u < 8) {w : Int} (hw : isW w = true) (hWu : W u = w) : ∃ N1 N2, addN N 0 ((u : Int) + 1) w true = (0, N1) ∧ readyN N1 ((u : Int) + 1) true = (0, N2) ∧ ThI W (u + 1) N2 := by
  obtain ⟨p, hp, hpi⟩ := h.wf.sk.root
  have hpt := (h.wf.sk.rt p hp hpi).2
  have hno : ∀ z ∈ N, z.id ≠ (u : Int) + 1 := fun z hz e => by
    rcases h.all z hz with h1 | ⟨j, hj, h1, _⟩ <;> omega
  have hA := addN_is (N := N) (par := 0) (id := (u : Int) + 1) (wt := w) (thr := true) (p := p) hw (by omega) (hpi ▸ gt_of h.wf.sk.nd hp) hpt (gt_none.2 hno) (.inl rfl) (by rw [h.len]; omega)
  rw [(h.zero p hp).2] at hA
  have hw1 : WFN (N ++ [⟨(u : Int) + 1, 0, w, 0, true, false, 0⟩]) := by
    have := add_wf h.wf 0 ((u : Int) + 1) w true
    rw [hA] at this; exact this
  have hm : ∀ z, z ∈ N ++ [⟨(u : Int) + 1, 0, w, 0, true, false, 0⟩] ↔ z ∈ N ∨ z = ⟨(u : Int) + 1, 0, w, 0, true, false, 0⟩ := fun z => by simp
  have hgn : gt (N ++ [⟨(u : Int) + 1, 0, w, 0, true, false, 0⟩]) ((u : Int) + 1) = some ⟨(u : Int) + 1, 0, w, 0, true, false, 0⟩ := gt_of hw1.sk.nd ((hm _).2 (.inr rfl))
  obtain ⟨g, hk, he, hr⟩ := wake_wk 6 (N ++ [⟨(u : Int) + 1, 0, w, 0, true, false, 0⟩]) ((u : Int) + 1)
  have hR : readyN (N ++ [⟨(u : Int) + 1, 0, w, 0, true, false, 0⟩]) ((u : Int) + 1) true = (0, List.map g (N ++ [⟨(u : Int) + 1, 0, w, 0, true, false, 0⟩] : List Nr)) := by
    rw [readyN, hgn]; simp only [if_true]; rw [he]
  have hw2 : WFN (List.map g (N ++ [⟨(u : Int) + 1, 0, w, 0, true, false, 0⟩] : List Nr)) := by
    have := ready_wf hw1 ((u : Int) + 1) true
    rw [hR] at this; exact this
  refine ⟨_, _, hA, hR, ?_⟩
  have hz0 : ∀ z ∈ N ++ [⟨(u : Int) + 1, 0, w, 0, true, false, 0⟩], z.pass = 0 ∧ z.now = 0 := fun z hz => by
    rcases (hm z).1 hz with hz | rfl
    · exact h.zero z hz
    · exact ⟨rfl, rfl⟩
  refine ⟨hw2, fun z hz => ?_, fun j hj => ?_, fun z hz => ?_, by rw [List.length_map, List.length_append, h.len]; simp; omega⟩
  · obtain ⟨v, hv, rfl⟩ := List.mem_map.1 hz
    rw [hk.sk.id, hk.sk.par, hk.sk.thr, (hk.wt v).1]
    rcases (hm v).1 hv with hv' | rfl
    · rcases h.all v hv' with h1 | ⟨j, hj, h1, h2, h3, h4, h5⟩
      · exact .inl h1
      · exact .inr ⟨j, by omega, h1, h2, h3, h4, hk.rdy v h5⟩
    · exact .inr ⟨u, by omega, rfl, rfl, hWu.symm, rfl, hr (by omega) _ hv hw1.sk.nd rfl⟩
  · by_cases c : j = u
    · subst c; exact ⟨_, List.mem_map.2 ⟨_, (hm _).2 (.inr rfl), rfl⟩, hk.sk.id _⟩
    · obtain ⟨z, hz, e⟩ := h.has j (by omega)
      exact ⟨g z, List.mem_map.2 ⟨z, (hm z).2 (.inl hz), rfl⟩, by rw [hk.sk.id, e]⟩
  · obtain ⟨v, hv, rfl⟩ := List.mem_map.1 hz
    exact ⟨hk.zero hz0 v hv, by rw [(hk.wt v).2]; exact (hz0 v hv).2⟩
/-- All are there, and ready. -/
structure ThJ (W : Nat → Int) (m : Nat) (S : List (Int × Int × Int × Bool × Bool)) : Prop where
  all : ∀ s ∈ S, (s.1 = 0 ∧ s.2.1 = -1 ∧ s.2.2.2.1 = false) ∨ ∃ j : Nat, j < m ∧ s = ((j : Int) + 1, 0, W j, true, true)
  has : ∀ j : Nat, j < m → ((j : Int) + 1, 0, W j, true, true) ∈ S
  r0 : ∃ w, (0, -1, w, false, true) ∈ S
theorem ThI.done {W : Nat → Int} {m : Nat} {N : List Nr} (h : ThI W m N) (hm : 1 ≤ m) : ThJ W m (N.map skr) := by
  have get : ∀ j : Nat, j < m → ∃ z ∈ N, z.id = (j : Int) + 1 ∧ z.par = 0 ∧ z.wt = W j ∧ z.thr = true ∧ z.rdy = true := fun j hj => by
    obtain ⟨z, hz, e⟩ := h.has j hj
    rcases h.all z hz with h1 | ⟨i, _, h1, h2⟩
    · omega
    · have : i = j := by omega
      subst this; exact ⟨z, hz, e, h2⟩
  obtain ⟨r, hr, e0⟩ := h.wf.sk.root
  have hrt := h.wf.sk.rt r hr e0
  have g0 : r.rdy = true := by
    obtain ⟨z, hz, h1, h2, _, _, h5⟩ := get 0 (by omega)
    exact (h.wf.rd r hr hrt.2).2 ⟨z, hz, by rw [h2, e0], h5⟩
  refine ⟨fun s hs => ?_, fun j hj => ?_, ⟨r.wt, List.mem_map.2 ⟨r, hr, by simp [skr, e0, hrt.1, hrt.2, g0]⟩⟩⟩
  · obtain ⟨z, hz, rfl⟩ := List.mem_map.1 hs
    rcases h.all z hz with h1 | ⟨j, hj, h1, h2, h3, h4, h5⟩
    · exact .inl ⟨h1, h.wf.sk.rt z hz h1⟩
    · exact .inr ⟨j, hj, by simp [skr, h1, h2, h3, h4, h5]⟩
  · obtain ⟨z, hz, h1, h2, h3, h4, h5⟩ := get j hj
    exact List.mem_map.2 ⟨z, hz, by simp [skr, h1, h2, h3, h4, h5]⟩
/-- A run, as the root sees it; the one that is chosen has the least pass. -/
theorem run_min {N : List Nr} (hw : WFN N) {r : Nr} (hr : r ∈ N) (hri : r.id = 0) (hrd : r.rdy = true) : ∃ (y : Nr) (id : Int) (N' : List Nr), runN N = ((id, true), N') ∧ WFN N' ∧ N'.map skr = N.map skr ∧ y ∈ N ∧ y.par = 0 ∧ y.rdy = true ∧ (∃ t ∈ N, t.id = id ∧ t.thr = true ∧ t.rdy = true) ∧ Bel N y.id id ∧
    (∀ z ∈ N, z.par = 0 → z.rdy = true → ps N y.id ≤ ps N z.id) ∧ ∃ δ : Int, ∀ z ∈ N, z.par = 0 → z.rdy = true → ps N' z.id = ps N z.id + (if z.id = y.id then strd y.wt else 0) - δ := by
  obtain ⟨y, id, g, h1, h2, h3, h4, ⟨t, ht, hti, htt, htr, hb⟩, δ, hd⟩ := run_root hw (hri ▸ gt_of hw.sk.nd hr) hrd
  obtain ⟨hy, hmin⟩ := least_some h4
  obtain ⟨hyN, hyp, hyr⟩ := mem_kidR.1 hy
  refine ⟨y, id, N.map g, h1, h3, h2.skr N, hyN, hyp, hyr, ⟨t, ht, hti, htt, htr⟩, hb, fun z hz hzp hzr => ?_, δ, fun z hz hzp hzr => ?_⟩
  · rw [ps_of hw.sk.nd hyN, ps_of hw.sk.nd hz]
    have h5 := hmin z (mem_kidR.2 ⟨hz, hzp, hzr⟩)
    have : ¬ z.pass < y.pass := fun c => by
      have : lessN z y = true := by simp [lessN, c]
      rw [this] at h5; cases h5
    omega
  · have e1 : ps (N.map g) z.id = (g z).pass := by
      have := ps_of h3.sk.nd (z := g z) (List.mem_map.2 ⟨z, hz, rfl⟩)
      rw [h2.sk.id] at this; exact this
    rw [e1, ps_of hw.sk.nd hz]
    exact hd z hz hzp hzr
theorem th_run {N : List Nr} {W : Nat → Int} {m : Nat} {S : List (Int × Int × Int × Bool × Bool)} (hw : WFN N) (h : N.map skr = S) (hJ : ThJ W m S) : ∃ (j : Nat) (N' : List Nr), j < m ∧ runN N = (((j : Int) + 1, true), N') ∧ WFN N' ∧ N'.map skr = S ∧
    (∀ i : Nat, i < m → ps N ((j : Int) + 1) ≤ ps N ((i : Int) + 1)) ∧ ∃ δ : Int, ∀ i : Nat, i < m → ps N' ((i : Int) + 1) = ps N ((i : Int) + 1) + (if i = j then strd (W j) else 0) - δ := by
  obtain ⟨w, h0⟩ := hJ.r0
  obtain ⟨r0, hr0, hr1, _, _, _, hr5⟩ := skr_get h h0
  obtain ⟨v, id, N', h1, h2, h3, hv, hvp, hvr, ⟨t, ht, hti, htt, _⟩, hb, hmin, δ, hd⟩ := run_min hw hr0 hr1 hr5
  obtain ⟨j, hj, hvj⟩ : ∃ j : Nat, j < m ∧ v.id = (j : Int) + 1 ∧ v.wt = W j := by
    rcases hJ.all _ (skr_mem h hv) with h4 | ⟨j, hj, h4⟩
    · simp only at h4; omega
    · simp only [Prod.mk.injEq] at h4; exact ⟨j, hj, h4.1, h4.2.2.1⟩
  have hid : id = v.id := bel_leaf hb fun z hz e => by
    rcases hJ.all _ (skr_mem h hz) with h4 | ⟨i, hi, h4⟩ <;> simp only [Prod.mk.injEq] at h4 <;> omega
  subst hid
  have get : ∀ i : Nat, i < m → ∃ z ∈ N, z.id = (i : Int) + 1 ∧ z.par = 0 ∧ z.rdy = true := fun i hi => by
    obtain ⟨z, hz, e1, e2, _, _, e5⟩ := skr_get h (hJ.has i hi)
    exact ⟨z, hz, e1, e2, e5⟩
  refine ⟨j, N', hj, by rw [h1, hvj.1], h2, h3.trans h, fun i hi => ?_, δ, fun i hi => ?_⟩
  · obtain ⟨z, hz, e1, e2, e3⟩ := get i hi
    have := hmin z hz e2 e3
    rw [hvj.1, e1] at this; exact this
  · obtain ⟨z, hz, e1, e2, e3⟩ := get i hi
    have := hd z hz e2 e3
    rw [e1, hvj.1, hvj.2] at this
    rw [this]
    by_cases c : i = j
    · subst c; simp
    · rw [if_neg (by omega), if_neg c]
/-! ## a round -/
def cntL (xs : List Int) (j : Nat) : Int := xs.getD (j + 1) 0
def totL (xs : List Int) : Nat → Int
  | 0 => 0
  | m + 1 => totL xs m + cntL xs m
def sumW (W : Nat → Int) : Nat → Int
  | 0 => 0
  | m + 1 => sumW W m + W m
theorem cnt_set {xs : List Int} {j i : Nat} {v : Int} (hj : j + 1 < xs.length) : cntL (xs.set (j + 1) v) i = if i = j then v else cntL xs i := by
  unfold cntL
  rw [List.getD_eq_getElem?_getD, List.getElem?_set, List.getD_eq_getElem?_getD]
  by_cases c : i = j
  · subst c; simp [hj]
  · rw [if_neg (by omega), if_neg c]
theorem cntL_at {xs : List Int} {j : Nat} (h : j + 1 < xs.length) : xs[j + 1]? = some (cntL xs j) := by
  unfold cntL
  rw [List.getD_eq_getElem?_getD, List.getElem?_eq_getElem h]; rfl
theorem tot_set {xs : List Int} {j : Nat} (hj : j + 1 < xs.length) : ∀ m, totL (xs.set (j + 1) (cntL xs j + 1)) m = totL xs m + if j < m then 1 else 0
  | 0 => by simp [totL]
  | m + 1 => by
    rw [totL, totL, tot_set hj m, cnt_set hj]
    by_cases c : m = j
    · subst c; simp; omega
    · rw [if_neg c]
      by_cases d : j < m
      · rw [if_pos d, if_pos (by omega)]; omega
      · rw [if_neg d, if_neg (by omega)]; omega
theorem tot_lt {xs : List Int} {W : Nat → Int} : ∀ {m : Nat}, (∀ j, j < m → cntL xs j ≤ W j) → totL xs m < sumW W m → ∃ j, j < m ∧ cntL xs j < W j
  | 0, _, h => by simp [totL, sumW] at h
  | m + 1, hc, h => by
    by_cases c : cntL xs m < W m
    · exact ⟨m, by omega, c⟩
    · have h1 := hc m (by omega)
      rw [totL, sumW] at h
      obtain ⟨j, hj, h2⟩ := tot_lt (m := m) (fun j hj => hc j (by omega)) (by omega)
      exact ⟨j, by omega, h2⟩
theorem tot_le {xs : List Int} {W : Nat → Int} : ∀ {m : Nat}, (∀ j, j < m → cntL xs j ≤ W j) → totL xs m ≤ sumW W m
  | 0, _ => by simp [totL, sumW]
  | m + 1, hc => by
    have h1 := hc m (by omega)
    have h2 := tot_le (m := m) (fun j hj => hc j (by omega))
    rw [totL, sumW]; omega
theorem tot_eq {xs : List Int} {W : Nat → Int} : ∀ {m : Nat}, (∀ j, j < m → cntL xs j ≤ W j) → totL xs m = sumW W m → ∀ j, j < m → cntL xs j = W j
  | 0, _, _, j, hj => by omega
  | m + 1, hc, h, j, hj => by
    have h1 := hc m (by omega)
    have h2 := tot_le (m := m) (fun j hj => hc j (by omega))
    rw [totL, sumW] at h
    by_cases c : j = m
    · subst c; omega
    · exact tot_eq (m := m) (fun j hj => hc j (by omega)) (by omega) j (by omega)
theorem strd_whole {w : Int} (h : isW w = true) : w * strd w = 720720 := by
  obtain ⟨h1, h2⟩ := isW_cases h
  have : w = 1 ∨ w = 2 ∨ w = 3 ∨ w = 4 ∨ w = 5 ∨ w = 6 ∨ w = 7 ∨ w = 8 ∨ w = 9 ∨ w = 10 ∨ w = 11 ∨ w = 12 ∨ w = 13 ∨ w = 14 ∨ w = 15 ∨ w = 16 := by omega
  rcases this with rfl | rfl | rfl | rfl | rfl | rfl | rfl | rfl | rfl | rfl | rfl | rfl | rfl | rfl | rfl | rfl <;> decide
/-- So far in a round: each has had no more than it weighs. -/
structure Rnd (W : Nat → Int) (m : Nat) (N : List Nr) (xs : List Int) : Prop where
  len : xs.length = 8
  le : ∀ j, j < m → 0 ≤ cntL xs j ∧ cntL xs j ≤ W j
  ps : ∃ Q : Int, ∀ j : Nat, j < m → ps N ((j : Int) + 1) = Q + cntL xs j * strd (W j)
theorem Rnd.step {W : Nat → Int} {m : Nat} {N N' : List Nr} {xs : List Int} (h : Rnd W m N xs) (hm : m ≤ 7) (hW : ∀ j, j < m → isW (W j) = true) (ht : totL xs m < sumW W m) {j : Nat} (hj : j < m)
    (hmin : ∀ i : Nat, i < m → Go.Proofs.YtjbjngikaiggdaaGreatDoor.ps N ((j : Int) + 1) ≤ Go.Proofs.YtjbjngikaiggdaaGreatDoor.ps N ((i : Int) + 1)) {δ : Int} (hd : ∀ i : Nat, i < m → Go.Proofs.YtjbjngikaiggdaaGreatDoor.ps N' ((i : Int) + 1) = Go.Proofs.YtjbjngikaiggdaaGreatDoor.ps N ((i : Int) + 1) + (if i = j then strd (W j) else 0) - δ) :
    Rnd W m N' (xs.set (j + 1) (cntL xs j + 1)) ∧ totL (xs.set (j + 1) (cntL xs j + 1)) m = totL xs m + 1 := by
  have hl := h.len
  obtain ⟨Q, hQ⟩ := h.ps
  obtain ⟨i, hi, hlt⟩ := tot_lt (fun j hj => (h.le j hj).2) ht
  have key : cntL xs j < W j := by
    have h1 := hmin i hi
    rw [hQ j hj, hQ i hi] at h1
    have h2 := strd_whole (hW i hi)
    have h3 := strd_whole (hW j hj)
    have h4 := (strd_pos (hW i hi)).1
    have h5 := (strd_pos (hW j hj)).1
    have h6 : (cntL xs i + 1) * strd (W i) ≤ W i * strd (W i) := Int.mul_le_mul_of_nonneg_right (by omega) (by omega)
    rw [Int.add_mul] at h6
    have h7 : ¬ W j ≤ cntL xs j := fun c => by
      have := Int.mul_le_mul_of_nonneg_right (c := strd (W j)) c (by omega)
      omega
    omega
  refine ⟨⟨by rw [List.length_set]; exact hl, fun k hk => ?_, Q - δ, fun k hk => ?_⟩, by rw [tot_set (by omega), if_pos hj]⟩
  · rw [cnt_set (by omega)]
    by_cases c : k = j
    · subst c; rw [if_pos rfl]; have := h.le k hk; omega
    · rw [if_neg c]; exact h.le k hk
  · rw [hd k hk, hQ k hk, cnt_set (by omega)]
    by_cases c : k = j
    · subst c; rw [if_pos rfl, if_pos rfl, Int.add_mul]; omega
    · rw [if_neg c, if_neg c]; omega
theorem Rnd.done {W : Nat → Int} {m : Nat} {N : List Nr} {xs : List Int} (h : Rnd W m N xs) (hW : ∀ j, j < m → isW (W j) = true) (ht : totL xs m = sumW W m) : (∀ j, j < m → cntL xs j = W j) ∧ ∃ Q, ∀ j : Nat, j < m → Go.Proofs.YtjbjngikaiggdaaGreatDoor.ps N ((j : Int) + 1) = Q := by
  have hc := tot_eq (fun j hj => (h.le j hj).2) ht
  obtain ⟨Q, hQ⟩ := h.ps
  exact ⟨hc, Q + 720720, fun j hj => by rw [hQ j hj, hc j hj, strd_whole (hW j hj)]⟩
theorem Rnd.fresh {W : Nat → Int} {m : Nat} {N : List Nr} (hm : m ≤ 7) (hW : ∀ j, j < m → isW (W j) = true) {Q : Int} (h : ∀ j : Nat, j < m → Go.Proofs.YtjbjngikaiggdaaGreatDoor.ps N ((j : Int) + 1) = Q) : Rnd W m N [0, 0, 0, 0, 0, 0, 0, 0] ∧ totL [0, 0, 0, 0, 0, 0, 0, 0] m = 0 := by
  have z : ∀ j, j < 7 → cntL [0, 0, 0, 0, 0, 0, 0, 0] j = 0 := fun j hj => by
    have : j = 0 ∨ j = 1 ∨ j = 2 ∨ j = 3 ∨ j = 4 ∨ j = 5 ∨ j = 6 := by omega
    rcases this with rfl | rfl | rfl | rfl | rfl | rfl | rfl <;> rfl
  refine ⟨⟨rfl, fun j hj => ?_, Q, fun j hj => by rw [h j hj, z j (by omega)]; simp⟩, ?_⟩
  · rw [z j (by omega)]; have := isW_cases (hW j hj); omega
  · have : ∀ k, k ≤ m → totL [0, 0, 0, 0, 0, 0, 0, 0] k = 0 := fun k => by
      induction k with
      | zero => intro _; rfl
      | succ k ih => intro hk; rw [totL, ih (by omega), z k (by omega)]; rfl
    exact this m (Nat.le_refl _)
theorem sumW_pos {W : Nat → Int} : ∀ {m : Nat}, (∀ j, j < m → isW (W j) = true) → 0 ≤ sumW W m ∧ sumW W m ≤ 16 * m
  | 0, _ => by simp [sumW]
  | m + 1, h => by
    have h1 := sumW_pos (m := m) fun j hj => h j (by omega)
    have h2 := isW_cases (h m (by omega))
    rw [sumW]; omega
end Go.Proofs.YtjbjngikaiggdaaGreatDoor
set_option linter.unusedVariables false
set_option linter.unusedSimpArgs false
namespace Go.Proofs.YtjbjngikaiggdaaGreatDoor
open Go.RowKit G
theorem wake_same : ∀ (f : Nat) (N : List Nr) (k : Int), (N.map (·.id)).Nodup → ∃ g, Skel g ∧ (∀ x ∈ N, x.rdy = true → g x = x) ∧ wakeN f N k = N.map g
  | 0, N, k, _ => ⟨fun x => x, Skel.same, fun _ _ _ => rfl, by simp [wakeN]⟩
  | f + 1, N, k, hn => by
    rw [wakeN]
    cases hg : gt N k with
    | none => exact ⟨fun x => x, Skel.same, fun _ _ _ => rfl, by simp⟩
    | some x0 =>
      obtain ⟨hx0, hk0⟩ := gt_mem hg
      simp only
      by_cases hr : x0.rdy = true
      · rw [if_pos hr]; exact ⟨fun x => x, Skel.same, fun _ _ _ => rfl, by simp⟩
      · rw [if_neg hr]
        have hne : ∀ x ∈ N, x.rdy = true → x.id ≠ k := fun x hx h e => hr (by rw [← nd_eq hn hx hx0 (by rw [e, hk0])]; exact h)
        cases hp : gt N x0.par with
        | none => exact ⟨fun x => if x.id == k then { x with rdy := true } else x, skel_ite (f := fun x => { x with rdy := true }) skF, fun x hx h => by simp [hne x hx h], rfl⟩
        | some p =>
          simp only
          obtain ⟨g, h1, h2, h3⟩ := wake_same f (upN N k (wkF p.now)) x0.par (by rw [upN_id (f := wkF p.now) (fun _ => rfl)]; exact hn)
          refine ⟨fun x => g (if x.id == k then wkF p.now x else x), (skel_ite (wkF_skel p.now)).comp h1, fun x hx h => ?_, ?_⟩
          · have e : (if x.id == k then wkF p.now x else x) = x := by simp [hne x hx h]
            show g (if x.id == k then wkF p.now x else x) = x
            rw [e]
            exact h2 x (List.mem_map.2 ⟨x, hx, e⟩) h
          · have e : wakeN f (upN N k fun x => { x with rdy := true, pass := mxI x.pass p.now }) x0.par = _ := h3
            rw [e, upN, List.map_map]; rfl
theorem par_thr {N : List Nr} (hs : SK N) {x p : Nr} (hx : x ∈ N) (hp : p ∈ N) (e : p.id = x.par) : p.thr = false := by
  by_cases c : x.id = 0
  · have h1 := (hs.rt x hx c).1
    have h2 := hs.neg (k := p.id) (by omega)
    rw [gt_of hs.nd hp] at h2; cases h2
  · obtain ⟨_, p', hp', h1, h2⟩ := hs.pa x hx c
    rw [nd_eq hs.nd hp hp' (by rw [e, h1])]; exact h2
theorem rest_same : ∀ (f : Nat) (N : List Nr) (k : Int), SK N → ∃ g, Skel g ∧ (∀ x ∈ N, x.thr = true → x.id ≠ k → g x = x) ∧ restN f N k = N.map g
  | 0, N, k, _ => ⟨fun x => x, Skel.same, fun _ _ _ _ => rfl, by simp [restN]⟩
  | f + 1, N, k, hs => by
    rw [restN]
    cases hg : gt N k with
    | none => exact ⟨fun x => x, Skel.same, fun _ _ _ _ => rfl, by simp⟩
    | some x0 =>
      obtain ⟨hx0, hk0⟩ := gt_mem hg
      simp only
      by_cases hr : x0.rdy = false ∨ kidR N k ≠ []
      · rw [if_pos hr]; exact ⟨fun x => x, Skel.same, fun _ _ _ _ => rfl, by simp⟩
      · rw [if_neg hr]
        cases hp : gt N x0.par with
        | none => exact ⟨fun x => if x.id == k then { x with rdy := false } else x, skel_ite (f := fun x => { x with rdy := false }) skF, fun x hx _ h => by simp [h], rfl⟩
        | some p =>
          obtain ⟨hpN, hpi⟩ := gt_mem hp
          have hpt := par_thr hs hx0 hpN hpi
          simp only
          obtain ⟨g, h1, h2, h3⟩ := rest_same f (upN N k rsF) x0.par (hs.upN rsF_skel)
          refine ⟨fun x => g (if x.id == k then rsF x else x), (skel_ite rsF_skel).comp h1, fun x hx ht h => ?_, ?_⟩
          · have e : (if x.id == k then rsF x else x) = x := by simp [h]
            show g (if x.id == k then rsF x else x) = x
            rw [e]
            refine h2 x (List.mem_map.2 ⟨x, hx, e⟩) ht fun e2 => ?_
            have := nd_eq hs.nd hx hpN (by rw [e2, hpi])
            subst this; rw [hpt] at ht; cases ht
          · have e : restN f (upN N k fun x => { x with rdy := false }) x0.par = _ := h3
            rw [e, upN, List.map_map]; rfl
/-- Who else is made ready, or not: threads that are ready stay as they are. -/
theorem ready_keep {N : List Nr} (hs : SK N) (k : Int) (r : Bool) : (∀ z ∈ N, z.thr = true → z.rdy = true → z.id ≠ k → z ∈ (readyN N k r).2) ∧ ∀ z ∈ (readyN N k r).2, ∃ v ∈ N, v.id = z.id ∧ v.thr = z.thr := by
  have same : (∀ z ∈ N, z.thr = true → z.rdy = true → z.id ≠ k → z ∈ N) ∧ ∀ z ∈ N, ∃ v ∈ N, v.id = z.id ∧ v.thr = z.thr := ⟨fun z h _ _ _ => h, fun z h => ⟨z, h, rfl, rfl⟩⟩
  have mp : ∀ g, Skel g → (∀ x ∈ N, x.thr = true → x.rdy = true → x.id ≠ k → g x = x) → (∀ z ∈ N, z.thr = true → z.rdy = true → z.id ≠ k → z ∈ N.map g) ∧ ∀ z ∈ N.map g, ∃ v ∈ N, v.id = z.id ∧ v.thr = z.thr := fun g hg h =>
    ⟨fun z hz h1 h2 h3 => List.mem_map.2 ⟨z, hz, h z hz h1 h2 h3⟩, fun z hz => by obtain ⟨v, hv, rfl⟩ := List.mem_map.1 hz; exact ⟨v, hv, (hg.id v).symm, (hg.thr v).symm⟩⟩
  rw [readyN]
  cases gt N k with
  | none => exact same
  | some x =>
    simp only
    split
    · split
      · obtain ⟨g, h1, h2, h3⟩ := wake_same 6 N k hs.nd
        simp only [h3]; exact mp g h1 fun x hx _ hr _ => h2 x hx hr
      · obtain ⟨g, h1, h2, h3⟩ := rest_same 6 N k hs
        simp only [h3]; exact mp g h1 fun x hx ht _ hk => h2 x hx ht hk
    · exact same
theorem weight_keep {N : List Nr} (k W : Int) : (∀ z ∈ N, z.id ≠ k → z ∈ (weightN N k W).2) ∧ ∀ z ∈ (weightN N k W).2, ∃ v ∈ N, v.id = z.id ∧ v.thr = z.thr := by
  have same : (∀ z ∈ N, z.id ≠ k → z ∈ N) ∧ ∀ z ∈ N, ∃ v ∈ N, v.id = z.id ∧ v.thr = z.thr := ⟨fun z h _ => h, fun z h => ⟨z, h, rfl, rfl⟩⟩
  rw [weightN]
  split
  · exact same
  · split
    · exact same
    · split
      · exact same
      · split
        · exact same
        · refine ⟨fun z hz h => mem_upN.2 ⟨z, hz, .inr ⟨h, rfl⟩⟩, fun z hz => ?_⟩
          obtain ⟨v, hv, ⟨_, rfl⟩ | ⟨_, rfl⟩⟩ := mem_upN.1 hz
          · exact ⟨v, hv, rfl, rfl⟩
          · exact ⟨z, hv, rfl, rfl⟩
theorem thr_leaf {N : List Nr} (hs : SK N) {y : Nr} (hy : y ∈ N) (ht : y.thr = true) : ∀ z ∈ N, z.par ≠ y.id := fun z hz e => by
  have := par_thr hs hz hy e.symm
  rw [ht] at this; cases this
theorem bel_par0 {N : List Nr} (hs : SK N) {z : Nr} (hz : z ∈ N) (hzp : z.par = 0) {k t : Int} (h : Bel N k t) : 1 ≤ k → z.id = t → k = t := by
  induction h with
  | refl k => intro _ _; rfl
  | step hy hp hb ih =>
    rename_i k t y
    intro h1 h2
    have hy0 : y.id ≠ 0 := fun e => by have := (hs.rt y hy e).1; omega
    have h3 := ih (hs.pa y hy hy0).1 h2
    have h4 := nd_eq hs.nd hy hz (by rw [h3, h2])
    subst h4
    omega
/-- Threads 1 to m of the root, ready all along; of other threads there are 20, 22 alone. -/
structure FaI (W : Nat → Int) (m : Nat) (N : List Nr) : Prop where
  wf : WFN N
  has : ∀ j : Nat, j < m → ∃ z ∈ N, z.id = (j : Int) + 1 ∧ z.par = 0 ∧ z.wt = W j ∧ z.thr = true ∧ z.rdy = true
  thr : ∀ z ∈ N, z.thr = true → (∃ j : Nat, j < m ∧ z.id = (j : Int) + 1) ∨ z.id = 20 ∨ z.id = 22
/-- What each has had, as passes tell. -/
structure FaR (W : Nat → Int) (m : Nat) (N : List Nr) (xs : List Int) (n : Int) : Prop where
  len : xs.length = 8
  le : ∀ j, j < m → 0 ≤ cntL xs j ∧ cntL xs j ≤ n
  ps : ∃ Q : Int, ∀ j : Nat, j < m → ps N ((j : Int) + 1) = Q + cntL xs j * strd (W j)
theorem FaI.keep {W : Nat → Int} {m : Nat} {N N' : List Nr} (h : FaI W m N) (hw : WFN N') {k : Int} (hk : k = 20 ∨ k = 22) (hm : m ≤ 8) (h1 : ∀ z ∈ N, z.thr = true → z.rdy = true → z.id ≠ k → z ∈ N') (h2 : ∀ z ∈ N', ∃ v ∈ N, v.id = z.id ∧ v.thr = z.thr) :
    FaI W m N' ∧ ∀ j : Nat, j < m → ps N' ((j : Int) + 1) = ps N ((j : Int) + 1) := by
  have g : ∀ j : Nat, j < m → ∃ z ∈ N, z ∈ N' ∧ z.id = (j : Int) + 1 ∧ z.par = 0 ∧ z.wt = W j ∧ z.thr = true ∧ z.rdy = true := fun j hj => by
    obtain ⟨z, hz, e1, e2, e3, e4, e5⟩ := h.has j hj
    exact ⟨z, hz, h1 z hz e4 e5 (by omega), e1, e2, e3, e4, e5⟩
  refine ⟨⟨hw, fun j hj => ?_, fun z hz ht => ?_⟩, fun j hj => ?_⟩
  · obtain ⟨z, _, hz', e⟩ := g j hj; exact ⟨z, hz', e⟩
  · obtain ⟨v, hv, e1, e2⟩ := h2 z hz
    rw [← e1]; exact h.thr v hv (by rw [e2, ht])
  · obtain ⟨z, hz, hz', e, _⟩ := g j hj
    rw [← e, ps_of hw.sk.nd hz', ps_of h.wf.sk.nd hz]
theorem FaI.ready {W : Nat → Int} {m : Nat} {N : List Nr} (h : FaI W m N) (hm : m ≤ 8) {k : Int} (hk : k = 20 ∨ k = 22) (r : Bool) : FaI W m (readyN N k r).2 ∧ ∀ j : Nat, j < m → ps (readyN N k r).2 ((j : Int) + 1) = ps N ((j : Int) + 1) :=
  h.keep (ready_wf h.wf k r) hk hm (ready_keep h.wf.sk k r).1 (ready_keep h.wf.sk k r).2
theorem FaI.weight {W : Nat → Int} {m : Nat} {N : List Nr} (h : FaI W m N) (hm : m ≤ 8) (V : Int) : FaI W m (weightN N 20 V).2 ∧ ∀ j : Nat, j < m → ps (weightN N 20 V).2 ((j : Int) + 1) = ps N ((j : Int) + 1) :=
  h.keep (weight_wf h.wf 20 V) (.inl rfl) hm (fun z hz _ _ hk => (weight_keep 20 V).1 z hz hk) (weight_keep 20 V).2
theorem fa_run {W : Nat → Int} {m : Nat} {N : List Nr} (h : FaI W m N) (hm : 1 ≤ m ∧ m ≤ 8) : ∃ (id : Int) (N' : List Nr), runN N = ((id, true), N') ∧ FaI W m N' ∧
    ((∃ j : Nat, j < m ∧ id = ((j + 1 : Nat) : Int) ∧ ∃ δ : Int, ∀ i : Nat, i < m → ps N' ((i : Int) + 1) = ps N ((i : Int) + 1) + (if i = j then strd (W j) else 0) - δ) ∨ ((m : Int) < id ∧ ∃ δ : Int, ∀ i : Nat, i < m → ps N' ((i : Int) + 1) = ps N ((i : Int) + 1) - δ)) := by
  obtain ⟨r, hr, e0⟩ := h.wf.sk.root
  have hrt := h.wf.sk.rt r hr e0
  have g0 : r.rdy = true := by
    obtain ⟨z, hz, h1, h2, _, _, h5⟩ := h.has 0 (by omega)
    exact (h.wf.rd r hr hrt.2).2 ⟨z, hz, by rw [h2, e0], h5⟩
  obtain ⟨v, id, N', h1, h2, h3, hv, hvp, hvr, ⟨t, ht, hti, htt, _⟩, hb, δ, hd⟩ := run_ps h.wf hr e0 g0
  have hv0 : v.id ≠ 0 := fun e => by have := (h.wf.sk.rt v hv e).1; omega
  have hv1 := (h.wf.sk.pa v hv hv0).1
  refine ⟨id, N', h1, ⟨h2, fun j hj => ?_, fun z hz hzt => ?_⟩, ?_⟩
  · obtain ⟨z, hz, e1, e2, e3, e4, e5⟩ := h.has j hj
    exact skr_get h3 (by rw [← e1, ← e3, ← e2]; have := skr_mem (N := N) rfl hz; rw [e4, e5] at this; exact this)
  · obtain ⟨u, hu, e1, _, _, e4, _⟩ := skr_get (N := N) rfl (by rw [← h3]; exact skr_mem rfl hz)
    rw [← e1]; exact h.thr u hu (by rw [e4, hzt])
  · rcases h.thr t ht htt with ⟨j, hj, hjt⟩ | hjt
    · obtain ⟨z, hz, e1, e2, e3, e4, e5⟩ := h.has j hj
      have hvi := bel_par0 h.wf.sk hz e2 hb hv1 (by omega)
      have hvz := nd_eq h.wf.sk.nd hv hz (by omega)
      subst hvz
      refine .inl ⟨j, hj, by omega, δ, fun i hi => ?_⟩
      obtain ⟨u, hu, f1, f2, _, _, f5⟩ := h.has i hi
      have := hd u hu f2 f5
      rw [f1, e1, e3] at this
      rw [this]
      by_cases c : i = j
      · subst c; simp
      · rw [if_neg (by omega), if_neg c]
    · refine .inr ⟨by omega, δ, fun i hi => ?_⟩
      obtain ⟨u, hu, f1, f2, _, f4, f5⟩ := h.has i hi
      have := hd u hu f2 f5
      rw [f1] at this
      rw [this, if_neg, Int.add_zero]
      intro e
      have hvu := nd_eq h.wf.sk.nd hv hu (by omega)
      subst hvu
      have := bel_leaf hb (thr_leaf h.wf.sk hv f4)
      omega
theorem FaR.step {W : Nat → Int} {m : Nat} {N N' : List Nr} {xs : List Int} {n : Int} (h : FaR W m N xs n) (hm : m ≤ 7) {j : Nat} (hj : j < m) {δ : Int} (hd : ∀ i : Nat, i < m → Go.Proofs.YtjbjngikaiggdaaGreatDoor.ps N' ((i : Int) + 1) = Go.Proofs.YtjbjngikaiggdaaGreatDoor.ps N ((i : Int) + 1) + (if i = j then strd (W j) else 0) - δ) : FaR W m N' (xs.set (j + 1) (cntL xs j + 1)) (n + 1) := by
  have hl := h.len
  obtain ⟨Q, hQ⟩ := h.ps
  refine ⟨by rw [List.length_set]; exact hl, fun k hk => ?_, Q - δ, fun k hk => ?_⟩
  · rw [cnt_set (by omega)]
    have := h.le k hk
    by_cases c : k = j
    · subst c; rw [if_pos rfl]; omega
    · rw [if_neg c]; omega
  · rw [hd k hk, hQ k hk, cnt_set (by omega)]
    by_cases c : k = j
    · subst c; rw [if_pos rfl, if_pos rfl, Int.add_mul]; omega
    · rw [if_neg c, if_neg c]; omega
theorem FaR.more {W : Nat → Int} {m : Nat} {N N' : List Nr} {xs : List Int} {n : Int} (h : FaR W m N xs n) {δ : Int} (hd : ∀ i : Nat, i < m → Go.Proofs.YtjbjngikaiggdaaGreatDoor.ps N' ((i : Int) + 1) = Go.Proofs.YtjbjngikaiggdaaGreatDoor.ps N ((i : Int) + 1) - δ) : FaR W m N' xs (n + 1) := by
  obtain ⟨Q, hQ⟩ := h.ps
  exact ⟨h.len, fun k hk => by have := h.le k hk; omega, Q - δ, fun k hk => by rw [hd k hk, hQ k hk]; omega⟩
theorem FaR.same {W : Nat → Int} {m : Nat} {N N' : List Nr} {xs : List Int} {n : Int} (h : FaR W m N xs n) (hd : ∀ i : Nat, i < m → Go.Proofs.YtjbjngikaiggdaaGreatDoor.ps N' ((i : Int) + 1) = Go.Proofs.YtjbjngikaiggdaaGreatDoor.ps N ((i : Int) + 1)) : FaR W m N' xs n := by
  obtain ⟨Q, hQ⟩ := h.ps
  exact ⟨h.len, h.le, Q, fun k hk => by rw [hd k hk, hQ k hk]⟩
theorem FaR.fair {W : Nat → Int} {m : Nat} {N : List Nr} {xs : List Int} {n : Int} (h : FaR W m N xs n) (hI : FaI W m N) {a b : Nat} (ha : a < m) (hb : b < m) : fairB (cntL xs a) (W a) (cntL xs b) (W b) = true := by
  obtain ⟨x, hx, x1, x2, x3, _, x5⟩ := hI.has a ha
  obtain ⟨y, hy, y1, y2, y3, _, y5⟩ := hI.has b hb
  obtain ⟨r, hr, r0⟩ := hI.wf.sk.root
  have h1 := two_in hI.wf hx hy hr (by omega) (by omega) x5 y5
  obtain ⟨Q, hQ⟩ := h.ps
  rw [x1, y1, x3, y3, hQ a ha, hQ b hb] at h1
  have h3 := strd_pos (hI.wf.wt x hx)
  have h4 := strd_pos (hI.wf.wt y hy)
  rw [x3] at h3
  rw [y3] at h4
  simp only [fairB, Bool.and_eq_true, decide_eq_true_eq]
  omega
theorem fa_start {W : Nat → Int} {m : Nat} {N : List Nr} (h : ThI W m N) (hm : m ≤ 6) : ∃ N1 N2 N3, addN N 0 20 7 true = (0, N1) ∧ addN N1 0 21 3 false = (0, N2) ∧ addN N2 21 22 5 true = (0, N3) ∧ FaI W m N3 ∧ FaR W m N3 [0, 0, 0, 0, 0, 0, 0, 0] 0 := by
  obtain ⟨r, hr, r0⟩ := h.wf.sk.root
  have hrt := (h.wf.sk.rt r hr r0).2
  have no : ∀ k : Int, 20 ≤ k → ∀ z ∈ N, z.id ≠ k := fun k hk z hz e => by
    rcases h.all z hz with h1 | ⟨j, hj, h1, _⟩ <;> omega
  have hA := addN_is (N := N) (par := 0) (id := 20) (wt := 7) (thr := true) (p := r) rfl (by omega) (r0 ▸ gt_of h.wf.sk.nd hr) hrt (gt_none.2 (no 20 (by omega))) (.inl rfl) (by rw [h.len]; omega)
  rw [(h.zero r hr).2] at hA
  have w1 := add_wf h.wf 0 20 7 true
  rw [hA] at w1
  have m1 : ∀ z, z ∈ N ++ [⟨20, 0, 7, 0, true, false, 0⟩] ↔ z ∈ N ∨ z = ⟨20, 0, 7, 0, true, false, 0⟩ := fun z => by simp
  have hr1 := (m1 r).2 (.inl hr)
  have no1 : ∀ k : Int, 21 ≤ k → ∀ z ∈ N ++ [⟨20, 0, 7, 0, true, false, 0⟩], z.id ≠ k := fun k hk z hz e => by
    rcases (m1 z).1 hz with h1 | rfl
    · exact no k (by omega) z h1 e
    · simp only at e; omega
  have hd1 : deepN 6 (N ++ [⟨20, 0, 7, 0, true, false, 0⟩]) 0 < 4 := by
    have hg : gt (N ++ [⟨20, 0, 7, 0, true, false, 0⟩]) 0 = some r := r0 ▸ gt_of w1.sk.nd hr1
    have hg2 : gt (N ++ [⟨20, 0, 7, 0, true, false, 0⟩]) r.par = none := by rw [(h.wf.sk.rt r hr r0).1]; exact w1.sk.neg (by omega)
    rw [deepN, hg]; simp only; rw [deepN, hg2]; simp
  have hB := addN_is (N := N ++ [⟨20, 0, 7, 0, true, false, 0⟩]) (par := 0) (id := 21) (wt := 3) (thr := false) (p := r) rfl (by omega) (r0 ▸ gt_of w1.sk.nd hr1) hrt (gt_none.2 (no1 21 (by omega))) (.inr hd1) (by rw [List.length_append, h.len]; simp; omega)
  rw [(h.zero r hr).2] at hB
  have w2 := add_wf w1 0 21 3 false
  rw [hB] at w2
  have m2 : ∀ z, z ∈ (N ++ [⟨20, 0, 7, 0, true, false, 0⟩]) ++ [⟨21, 0, 3, 0, false, false, 0⟩] ↔ (z ∈ N ∨ z = ⟨20, 0, 7, 0, true, false, 0⟩) ∨ z = ⟨21, 0, 3, 0, false, false, 0⟩ := fun z => by rw [List.mem_append, m1]; simp
  have hC := addN_is (N := (N ++ [⟨20, 0, 7, 0, true, false, 0⟩]) ++ [⟨21, 0, 3, 0, false, false, 0⟩]) (par := 21) (id := 22) (wt := 5) (thr := true) (p := ⟨21, 0, 3, 0, false, false, 0⟩) rfl (by omega) (gt_of w2.sk.nd ((m2 _).2 (.inr rfl))) rfl (gt_none.2 fun z hz e => by
    rcases (m2 z).1 hz with (h1 | rfl) | rfl
    · exact no 22 (by omega) z h1 e
    · simp only at e; omega
    · simp only at e; omega) (.inl rfl) (by rw [List.length_append, List.length_append, h.len]; simp; omega)
  have w3 := add_wf w2 21 22 5 true
  rw [hC] at w3
  have m3 : ∀ z, z ∈ ((N ++ [⟨20, 0, 7, 0, true, false, 0⟩]) ++ [⟨21, 0, 3, 0, false, false, 0⟩]) ++ [⟨22, 21, 5, 0, true, false, 0⟩] ↔ ((z ∈ N ∨ z = ⟨20, 0, 7, 0, true, false, 0⟩) ∨ z = ⟨21, 0, 3, 0, false, false, 0⟩) ∨ z = ⟨22, 21, 5, 0, true, false, 0⟩ := fun z => by rw [List.mem_append, m2]; simp
  have get : ∀ j : Nat, j < m → ∃ z ∈ N, z.id = (j : Int) + 1 ∧ z.par = 0 ∧ z.wt = W j ∧ z.thr = true ∧ z.rdy = true := fun j hj => by
    obtain ⟨z, hz, e⟩ := h.has j hj
    rcases h.all z hz with h1 | ⟨i, _, h1, h2⟩
    · omega
    · have : i = j := by omega
      subst this; exact ⟨z, hz, e, h2⟩
  have zc : ∀ j, j < 7 → cntL [0, 0, 0, 0, 0, 0, 0, 0] j = 0 := fun j hj => by
    have : j = 0 ∨ j = 1 ∨ j = 2 ∨ j = 3 ∨ j = 4 ∨ j = 5 ∨ j = 6 := by omega
    rcases this with rfl | rfl | rfl | rfl | rfl | rfl | rfl <;> rfl
  refine ⟨_, _, _, hA, hB, hC, ⟨w3, fun j hj => ?_, fun z hz ht => ?_⟩, rfl, fun j hj => by rw [zc j (by omega)]; omega, 0, fun j hj => ?_⟩
  · obtain ⟨z, hz, e⟩ := get j hj
    exact ⟨z, (m3 z).2 (.inl (.inl (.inl hz))), e⟩
  · rcases (m3 z).1 hz with ((h1 | rfl) | rfl) | rfl
    · rcases h.all z h1 with h2 | ⟨j, hj, h2, _⟩
      · have := (h.wf.sk.rt z h1 h2).2; rw [ht] at this; cases this
      · exact .inl ⟨j, hj, h2⟩
    · exact .inr (.inl rfl)
    · cases ht
    · exact .inr (.inr rfl)
  · obtain ⟨z, hz, e, _⟩ := get j hj
    rw [zc j (by omega), ← e, ps_of w3.sk.nd ((m3 z).2 (.inl (.inl (.inl hz)))), (h.zero z hz).1]; simp
end Go.Proofs.YtjbjngikaiggdaaGreatDoor
set_option linter.unusedVariables false
set_option linter.unusedSimpArgs false
namespace Go.Proofs.YtjbjngikaiggdaaGreatDoor
open Go.RowKit G
theorem rnew_walk (H : List SP) : ∀ w, Sat w H → Calls Tryz.prog 6 #[] w (Ret (ι := Nat) (fun t => .pointer (some ⟨t, 0, none⟩)) fun t => rtS t [rootN] :: H) := by
  refine enterG (fn := Tryz.f6) 6 [] Tryz.func6 (by kernel_rfl) (by kernel_rfl) (by kernel_rfl) ?_
  refine seqR (by kernel_rfl) ?_
  refine regionR 1 (by kernel_rfl) (by kernel_rfl) ?_
  refine (run0 (z := 0) 1 [0] [(0, .pointer none)] (fun _ => by kernel_rfl) (endR ?_) : RT _ _ _ _ _ _ 1 _)
  refine seqR (by kernel_rfl) ?_
  refine regionR 6 (by kernel_rfl) (by kernel_rfl) ?_
  refine (run0 (z := 4) 2 [0, 2] [(0, .pointer none), (2, .agg #[.int .i64 0, .int .i64 (-1), .int .i64 1, .int .i64 0, .bool false, .bool false, .int .i64 0])] (fun _ => by kernel_rfl) ?_ : RT _ _ _ _ _ _ 6 _)
  refine (stepR (z := 3) (newS 62 [.int .i64 0, .int .i64 (-1), .int .i64 1, .int .i64 0, .bool false, .bool false, .int .i64 0] (some 3) (fun b => .slice (some ⟨b, 0, none⟩) 1 1) (fun _ _ => by kernel_rfl)) (fun b1 => ?_) : RT _ _ _ _ _ _ 4 _)
  refine (run0 (z := 2) 1 [0, 4] [(0, .pointer none), (4, .agg #[.slice (some ⟨b1, 0, none⟩) 1 1])] (fun _ => by kernel_rfl) ?_ : RT _ _ _ _ _ _ 3 _)
  refine (stepR (z := 1) (newS 65 [.slice (some ⟨b1, 0, none⟩) 1 1] (some 5) (fun b => .pointer (some ⟨b, 0, none⟩)) (fun _ _ => by kernel_rfl)) (fun b2 => ?_) : RT _ _ _ _ _ _ 2 _)
  refine (run0 (z := 0) 1 [0] [(0, .pointer (some ⟨b2, 0, none⟩))] (fun _ => by kernel_rfl) (endR ?_) : RT _ _ _ _ _ _ 1 _)
  refine retR (by kernel_rfl) ?_
  refine PT.pick 1 rfl ?_
  refine PT.blkRow (E := rnE) (x := rootN) ?_
  refine PT.pick 0 rfl ?_
  refine PT.pick 1 rfl ?_
  refine done0 (.pointer (some ⟨b2, 0, none⟩)) (fun _ => by kernel_rfl) (fun w hs => ?_) .ret (.inr rfl)
  exact ⟨b2, rfl, Sat.closeRt (L := [rootN]) (by simp) hs⟩
set_option maxHeartbeats 1000000 in
set_option maxRecDepth 100000 in
theorem rnodes_walk (H : List SP) (t b o c : Nat) (L : List Nr) (hl : L.length ≤ 1000) : ∀ w, Sat w (blk t 65 [.slice (some ⟨b, o, none⟩) L.length c] :: row rnE 62 (.slice (some ⟨b, o, none⟩) L.length c) L :: H) → Calls Tryz.prog 20 #[.pointer (some ⟨t, 0, none⟩)] w (Ret (ι := Option Addr × Nat) (fun x => .slice x.1 L.length x.2) fun x => row nE 48 (.slice x.1 L.length x.2) L :: blk t 65 [.slice (some ⟨b, o, none⟩) L.length c] :: row rnE 62 (.slice (some ⟨b, o, none⟩) L.length c) L :: H) := by
  refine enterG (fn := Tryz.f20) 26 [.pointer (some ⟨t, 0, none⟩)] Tryz.func20 (by kernel_rfl) (by kernel_rfl) (by kernel_rfl) ?_
  refine seqR (by kernel_rfl) ?_
  refine regionR 1 (by kernel_rfl) (by kernel_rfl) ?_
  refine (run0 (z := 0) 1 [0, 2] [(0, .pointer (some ⟨t, 0, none⟩)), (2, .slice none 0 0)] (fun _ => by kernel_rfl) (endR ?_) : RT _ _ _ _ _ _ 1 _)
  refine seqR (by kernel_rfl) ?_
  refine regionR 1 (by kernel_rfl) (by kernel_rfl) ?_
  refine (run0 (z := 0) 1 [0, 2, 3] [(0, .pointer (some ⟨t, 0, none⟩)), (2, .slice none 0 0), (3, .slice none 0 0)] (fun _ => by kernel_rfl) (endR ?_) : RT _ _ _ _ _ _ 1 _)
  refine seqR (by kernel_rfl) ?_
  refine seqR (by kernel_rfl) ?_
  refine regionR 1 (by kernel_rfl) (by kernel_rfl) ?_
  refine (run0 (z := 0) 1 [0, 2, 3, 4] [(0, .pointer (some ⟨t, 0, none⟩)), (2, .slice none 0 0), (3, .slice none 0 0), (4, .int .i64 0)] (fun _ => by kernel_rfl) (endR ?_) : RT _ _ _ _ _ _ 1 _)
  refine blockR 0 (by kernel_rfl) (by kernel_rfl) ?_
  refine PT.rowNil nE 48 ?_
  refine PT.keep (L' := [(0, .pointer (some ⟨t, 0, none⟩)), (2, .slice none 0 0), (3, .slice none 0 0), (4, .int .i64 0)]) [0, 2, 3, 4] rfl ?_
  refine loopG (fun (s : (Option Addr × Nat) × Nat) => [(0, .pointer (some ⟨t, 0, none⟩)), (2, .slice none 0 0), (3, .slice s.1.1 ((L.take s.2).length) s.1.2), (4, .int .i64 (s.2 : Int))]) (fun (s : (Option Addr × Nat) × Nat) => (row nE 48 (.slice s.1.1 (L.take s.2).length s.1.2) (L.take s.2) :: blk t 65 [.slice (some ⟨b, o, none⟩) L.length c] :: row rnE 62 (.slice (some ⟨b, o, none⟩) L.length c) L :: H)) (fun k (s : (Option Addr × Nat) × Nat) => k + s.2 = L.length) L.length ((none, 0), 0) (by kernel_rfl) rfl ?_
  rintro k ⟨⟨qa, qc⟩, u⟩ hku
  simp only at hku
  refine seqR (by kernel_rfl) ?_
  refine seqR (by kernel_rfl) ?_
  refine regionR 7 (by kernel_rfl) (by kernel_rfl) ?_
  refine (runR (H := (row nE 48 (.slice qa (L.take u).length qc) (L.take u) :: blk t 65 [.slice (some ⟨b, o, none⟩) L.length c] :: row rnE 62 (.slice (some ⟨b, o, none⟩) L.length c) L :: H)) (z := 0) 7 [0, 2, 3, 4, 11] [(0, .pointer (some ⟨t, 0, none⟩)), (2, .slice none 0 0), (3, .slice qa ((L.take u).length) qc), (4, .int .i64 (u : Int)), (11, .bool (decide ((u : Int) < (L.length : Int))))] [(⟨t, 0, none⟩, .slice (some ⟨b, o, none⟩) L.length c)] (hasC (blkAt (T := 65) (cs := [.slice (some ⟨b, o, none⟩) L.length c]) 1 rfl rfl) has0) (fun _ => by kernel_rfl) (endR ?_) : RT _ _ _ _ _ _ 7 _)
  refine condR (b := decide ((u : Int) < (L.length : Int))) (by kernel_rfl) (fun _ => by kernel_rfl) (fun h1 => ?_) (fun h1 => ?_)
  · skip
    have hu : u < L.length := by have := of_decide_eq_true h1; omega
    obtain ⟨x, hx⟩ : ∃ x, L[u]? = some x := ⟨_, List.getElem?_eq_getElem hu⟩
    have hsn : L.take u ++ [x] = L.take (u + 1) := by rw [List.take_add_one, hx]; rfl
    refine skipR (by kernel_rfl) ?_
    refine seqR (by kernel_rfl) ?_
    refine blockR 1 (by kernel_rfl) (by kernel_rfl) ?_
    refine regionR 12 (by kernel_rfl) (by kernel_rfl) ?_
    refine (runR (H := (row nE 48 (.slice qa (L.take u).length qc) (L.take u) :: blk t 65 [.slice (some ⟨b, o, none⟩) L.length c] :: row rnE 62 (.slice (some ⟨b, o, none⟩) L.length c) L :: H)) (z := 6) 6 [0, 2, 3, 4, 14, 18, 19] [(0, .pointer (some ⟨t, 0, none⟩)), (2, .slice none 0 0), (3, .slice qa ((L.take u).length) qc), (4, .int .i64 (u : Int)), (14, .slice qa ((L.take u).length) qc), (18, .slice (some ⟨b, o, none⟩) L.length c), (19, .int .i64 (u : Int))] [(⟨t, 0, none⟩, .slice (some ⟨b, o, none⟩) L.length c)] (hasC (blkAt (T := 65) (cs := [.slice (some ⟨b, o, none⟩) L.length c]) 1 rfl rfl) has0) (fun _ => by kernel_rfl) ?_ : RT _ _ _ _ _ _ 12 _)
    refine (stepR (z := 5) (yldS (idxY 63 (.tmp 18) (.tmp 19) b o L.length c u 7 62 (u : Int) .i64 (some 20) (fun _ => by kernel_rfl) (by kernel_rfl) (by kernel_rfl) (fun _ => by kernel_rfl) (fun _ => by kernel_rfl) Tryz.underlying63 (by kernel_rfl) (by first | rfl | assumption | simp) (by first | omega | (simp; done) | (simp; omega) | (simp at *; omega)))) (fun _ => ?_) : RT _ _ _ _ _ _ 6 _)
    refine (runR (H := (row nE 48 (.slice qa (L.take u).length qc) (L.take u) :: blk t 65 [.slice (some ⟨b, o, none⟩) L.length c] :: row rnE 62 (.slice (some ⟨b, o, none⟩) L.length c) L :: H)) (z := 3) 2 [0, 2, 3, 4, 14, 22] [(0, .pointer (some ⟨t, 0, none⟩)), (2, .slice none 0 0), (3, .slice qa ((L.take u).length) qc), (4, .int .i64 (u : Int)), (14, .slice qa ((L.take u).length) qc), (22, .agg #[.int .i64 x.id, .int .i64 x.par, .int .i64 x.wt, .int .i64 x.pass, .bool x.thr, .bool x.rdy])] [(⟨b, o + u * 7, none⟩, .int .i64 x.id), (⟨b, o + u * 7 + 1, none⟩, .int .i64 x.par), (⟨b, o + u * 7 + 2, none⟩, .int .i64 x.wt), (⟨b, o + u * 7 + 3, none⟩, .int .i64 x.pass), (⟨b, o + u * 7 + 4, none⟩, .bool x.thr), (⟨b, o + u * 7 + 5, none⟩, .bool x.rdy)] (hasC (rowCell (E := rnE) (xs := L) 2 rfl (x := x) hx (j := 0) rfl) (hasC (rowCell (E := rnE) (xs := L) 2 rfl (x := x) hx (j := 1) rfl) (hasC (rowCell (E := rnE) (xs := L) 2 rfl (x := x) hx (j := 2) rfl) (hasC (rowCell (E := rnE) (xs := L) 2 rfl (x := x) hx (j := 3) rfl) (hasC (rowCell (E := rnE) (xs := L) 2 rfl (x := x) hx (j := 4) rfl) (hasC (rowCell (E := rnE) (xs := L) 2 rfl (x := x) hx (j := 5) rfl) has0)))))) (fun _ => by kernel_rfl) ?_ : RT _ _ _ _ _ _ 5 _)
    refine (stepR (z := 2) (newS 48 [.int .i64 x.id, .int .i64 x.par, .int .i64 x.wt, .int .i64 x.pass, .bool x.thr, .bool x.rdy] (some 23) (fun b => .slice (some ⟨b, 0, none⟩) 1 1) (fun _ _ => by kernel_rfl)) (fun b1 => ?_) : RT _ _ _ _ _ _ 3 _)
    refine (RT.pick 1 rfl ?_ : RT _ _ _ (blk b1 48 [.int .i64 x.id, .int .i64 x.par, .int .i64 x.wt, .int .i64 x.pass, .bool x.thr, .bool x.rdy] :: row nE 48 (.slice qa (L.take u).length qc) (L.take u) :: blk t 65 [.slice (some ⟨b, o, none⟩) L.length c] :: row rnE 62 (.slice (some ⟨b, o, none⟩) L.length c) L :: H) _ _ 2 _)
    refine (stepR (z := 1) (appS (E := nE) 44 (.tmp 14) (.tmp 23) qa qc (L.take u) [x] (.slice (some ⟨b1, 0, none⟩) 1 1) (some 24) (fun _ => by kernel_rfl) (by kernel_rfl) (by kernel_rfl) (fun _ => by kernel_rfl) (fun _ => by kernel_rfl) Tryz.underlying44 (nE_ety) (blkRd 1 rfl) (by simp only [List.length_take, List.length_cons, List.length_nil]; omega)) (fun r2 => ?_) : RT _ _ _ (row nE 48 (.slice qa (L.take u).length qc) (L.take u) :: blk b1 48 [.int .i64 x.id, .int .i64 x.par, .int .i64 x.wt, .int .i64 x.pass, .bool x.thr, .bool x.rdy] :: blk t 65 [.slice (some ⟨b, o, none⟩) L.length c] :: row rnE 62 (.slice (some ⟨b, o, none⟩) L.length c) L :: H) _ _ 2 _)
    refine (run0 (z := 0) 1 [0, 2, 3, 4] [(0, .pointer (some ⟨t, 0, none⟩)), (2, .slice none 0 0), (3, .slice r2.1 (((L.take u) ++ [x]).length) r2.2), (4, .int .i64 (u : Int))] (fun _ => by kernel_rfl) (endR ?_) : RT _ _ _ _ _ _ 1 _)
    refine regionR 3 (by kernel_rfl) (by kernel_rfl) ?_
    refine (run0 (z := 0) 3 [0, 2, 3, 4] [(0, .pointer (some ⟨t, 0, none⟩)), (2, .slice none 0 0), (3, .slice r2.1 (((L.take u) ++ [x]).length) r2.2), (4, .int .i64 (IntKind.i64.wrap ((u : Int) + 1)))] (fun _ => by kernel_rfl) (endR ?_) : RT _ _ _ _ _ _ 3 _)
    rw [show IntKind.i64.wrap ((u : Int) + 1) = ((u : Int) + 1) by rw [w64 (by omega) (by omega)]]
    rw [hsn]
    refine PT.pick 1 rfl ?_
    refine PT.drop ?_
    refine PT.keep (L' := [(0, .pointer (some ⟨t, 0, none⟩)), (2, .slice none 0 0), (3, .slice r2.1 ((L.take (u + 1)).length) r2.2), (4, .int .i64 ((u : Int) + 1))]) [0, 2, 3, 4] rfl ?_
    exact againG (k - 1) (r2, u + 1) rfl rfl (by omega) (by simp only; omega)
  · skip
    have hu : u = L.length := by have := of_decide_eq_false h1; omega
    have htk : L.take u = L := List.take_of_length_le (by omega)
    refine exitR 0 (by kernel_rfl) (by kernel_rfl) ?_
    refine thenX ?_
    refine thenX ?_
    refine leaveR ?_
    refine seqR (by kernel_rfl) ?_
    refine regionR 2 (by kernel_rfl) (by kernel_rfl) ?_
    refine (run0 (z := 0) 2 [2] [(2, .slice qa ((L.take u).length) qc)] (fun _ => by kernel_rfl) (endR ?_) : RT _ _ _ _ _ _ 2 _)
    refine retR (by kernel_rfl) ?_
    rw [htk]
    refine done0 (.slice qa ((L).length) qc) (fun _ => by kernel_rfl) (fun w hs => ?_) .ret (.inr rfl)
    exact ⟨(qa, qc), rfl, hs⟩
/-! ## a node is changed where it stands -/
theorem set_at {L : List Nr} (hn : (L.map (·.id)).Nodup) {i : Nat} {x : Nr} (hx : L[i]? = some x) (f : Nr → Nr) : L.set i (f x) = upN L x.id f := by
  apply List.ext_getElem?
  intro j
  rw [List.getElem?_set, upN, List.getElem?_map]
  by_cases c : i = j
  · subst c
    rw [if_pos rfl, if_pos (List.getElem?_eq_some_iff.1 hx).1, hx]; simp
  · rw [if_neg c]
    cases hj : L[j]? with
    | none => rfl
    | some y =>
      have : y.id ≠ x.id := fun e => c (nd_at hn hx hj e.symm)
      simp [this]
theorem up_at {L : List Nr} (hn : (L.map (·.id)).Nodup) {i j : Nat} {x y : Nr} (hx : L[i]? = some x) (hj : L[j]? = some y) (hne : y.id ≠ x.id) (f : Nr → Nr) : (upN L x.id f)[j]? = some y := by
  rw [upN, List.getElem?_map, hj]; simp [hne]
def rdT (x : Nr) : Nr := { x with rdy := true }
theorem any_kid {L : List Nr} {g : Int} : (L.any fun x => x.par == g && x.rdy) = true ↔ kidR L g ≠ [] := by
  rw [List.any_eq_true]
  constructor
  · rintro ⟨y, hy, h⟩
    exact List.ne_nil_of_mem (a := y) (List.mem_filter.2 ⟨hy, h⟩)
  · intro h
    obtain ⟨y, hy⟩ := List.exists_mem_of_ne_nil _ h
    exact ⟨y, (List.mem_filter.1 hy).1, (List.mem_filter.1 hy).2⟩
set_option maxHeartbeats 1000000 in
set_option maxRecDepth 100000 in
theorem rready_walk (H : List SP) (t : Nat) (L : List Nr) (hw : WFN L) (id : Int) (r : Bool) : ∀ w, Sat w (rtS t L :: H) → Calls Tryz.prog 13 #[.pointer (some ⟨t, 0, none⟩), .int .i64 id, .bool r] w (Ret (ι := Unit) (fun _ => .int .i64 (readyN L id r).1) fun _ => rtS t (readyN L id r).2 :: H) := by
  have hsk := hw.sk
  have hnd := hsk.nd
  have hl := hsk.len
  obtain ⟨rk, hrk⟩ := hsk.rk
  have hne : L ≠ [] := by obtain ⟨r, hr, _⟩ := hsk.root; exact List.ne_nil_of_mem hr
  refine enterG (fn := Tryz.f13) 120 [.pointer (some ⟨t, 0, none⟩), .int .i64 id, .bool r] Tryz.func13 (by kernel_rfl) (by kernel_rfl) (by kernel_rfl) ?_
  refine PT.openRt fun b o c => ?_
  refine seqR (by kernel_rfl) ?_
  refine regionR 1 (by kernel_rfl) (by kernel_rfl) ?_
  refine (run0 (z := 0) 1 [0, 1, 2, 6] [(0, .pointer (some ⟨t, 0, none⟩)), (1, .int .i64 id), (2, .bool r), (6, .int .i64 0)] (fun _ => by kernel_rfl) (endR ?_) : RT _ _ _ _ _ _ 1 _)
  refine seqR (by kernel_rfl) ?_
  refine regionR 4 (by kernel_rfl) (by kernel_rfl) ?_
  refine (run0 (z := 2) 2 [0, 2, 6, 9, 10] [(0, .pointer (some ⟨t, 0, none⟩)), (2, .bool r), (6, .int .i64 0), (9, .pointer (some ⟨t, 0, none⟩)), (10, .int .i64 id)] (fun _ => by kernel_rfl) ?_ : RT _ _ _ _ _ _ 4 _)
  cases hg : gt L id with
  | none =>
    have hix : ixL L id = -1 := ixL_no (gt_none.1 hg)
    refine (stepR (z := 1) (callS 28 [.pointer (some ⟨t, 0, none⟩), .int .i64 id] (some 11) (fun _ => .int .i64 (ixL L id)) (fun _ => (blk t 65 [.slice (some ⟨b, o, none⟩) L.length c] :: row rnE 62 (.slice (some ⟨b, o, none⟩) L.length c) L :: H)) (fun _ => by kernel_rfl) (rat_walk H t b o c L id (by omega))) (fun _ => ?_) : RT _ _ _ _ _ _ 2 _)
    rw [show ixL L id = (-1) by exact hix]
    refine (run0 (z := 0) 1 [0, 2, 6, 7] [(0, .pointer (some ⟨t, 0, none⟩)), (2, .bool r), (6, .int .i64 0), (7, .int .i64 (-1))] (fun _ => by kernel_rfl) (endR ?_) : RT _ _ _ _ _ _ 1 _)
    refine seqR (by kernel_rfl) ?_
    refine seqR (by kernel_rfl) ?_
    refine regionR 14 (by kernel_rfl) (by kernel_rfl) ?_
    refine (run0 (z := 0) 14 [0, 2, 6, 7, 25] [(0, .pointer (some ⟨t, 0, none⟩)), (2, .bool r), (6, .int .i64 0), (7, .int .i64 (-1)), (25, .bool true)] (fun _ => by kernel_rfl) (endR ?_) : RT _ _ _ _ _ _ 14 _)
    refine condR (b := true) (by kernel_rfl) (fun _ => by kernel_rfl) (fun _ => ?_) (fun h => by cases h)
    refine seqR (by kernel_rfl) ?_
    refine regionR 1 (by kernel_rfl) (by kernel_rfl) ?_
    refine (run0 (z := 0) 1 [0, 2, 6, 7] [(0, .pointer (some ⟨t, 0, none⟩)), (2, .bool r), (6, .int .i64 13), (7, .int .i64 (-1))] (fun _ => by kernel_rfl) (endR ?_) : RT _ _ _ _ _ _ 1 _)
    refine retR (by kernel_rfl) ?_
    refine thenV ?_
    refine done0 (.int .i64 13) (fun _ => by kernel_rfl) (fun w hs => ?_) .normal (.inl rfl)
    exact ⟨(), by rw [readyN, hg], by rw [readyN, hg]; exact Sat.closeRt hne hs⟩
  | some x0 =>
    obtain ⟨i0, hi0, hix⟩ := ixL_gt hnd hg
    have hil := (List.getElem?_eq_some_iff.1 hi0).1
    refine (stepR (z := 1) (callS 28 [.pointer (some ⟨t, 0, none⟩), .int .i64 id] (some 11) (fun _ => .int .i64 (ixL L id)) (fun _ => (blk t 65 [.slice (some ⟨b, o, none⟩) L.length c] :: row rnE 62 (.slice (some ⟨b, o, none⟩) L.length c) L :: H)) (fun _ => by kernel_rfl) (rat_walk H t b o c L id (by omega))) (fun _ => ?_) : RT _ _ _ _ _ _ 2 _)
    rw [show ixL L id = (i0 : Int) by exact hix]
    refine (run0 (z := 0) 1 [0, 2, 6, 7] [(0, .pointer (some ⟨t, 0, none⟩)), (2, .bool r), (6, .int .i64 0), (7, .int .i64 (i0 : Int))] (fun _ => by kernel_rfl) (endR ?_) : RT _ _ _ _ _ _ 1 _)
    refine seqR (by kernel_rfl) ?_
    refine seqR (by kernel_rfl) ?_
    refine regionR 14 (by kernel_rfl) (by kernel_rfl) ?_
    refine (run0 (z := 11) 3 [0, 2, 6, 7, 14] [(0, .pointer (some ⟨t, 0, none⟩)), (2, .bool r), (6, .int .i64 0), (7, .int .i64 (i0 : Int)), (14, .bool (decide ((i0 : Int) < 0)))] (fun _ => by kernel_rfl) ?_ : RT _ _ _ _ _ _ 14 _)
    refine (segR (ι := Unit) (z := 0) 11 (fun _ => [(0, .pointer (some ⟨t, 0, none⟩)), (2, .bool r), (6, .int .i64 0), (7, .int .i64 (i0 : Int)), (25, .bool ((decide ((i0 : Int) < 0)) || (!x0.thr)))]) (fun _ => (blk t 65 [.slice (some ⟨b, o, none⟩) L.length c] :: row rnE 62 (.slice (some ⟨b, o, none⟩) L.length c) L :: H)) ?_ (fun _ => ?_) : RT _ _ _ _ _ _ 11 _)
    · cases hg3 : (decide ((i0 : Int) < 0)) with
      | true =>
        refine (run0 (z := 0) 11 [0, 2, 6, 7, 25] [(0, .pointer (some ⟨t, 0, none⟩)), (2, .bool r), (6, .int .i64 0), (7, .int .i64 (i0 : Int)), (25, .bool true)] (fun _ => by kernel_rfl) (endR ?_) : RT _ _ _ _ _ _ 11 _)
        refine PT.keep (L' := [(0, .pointer (some ⟨t, 0, none⟩)), (2, .bool r), (6, .int .i64 0), (7, .int .i64 (i0 : Int)), (25, .bool (true || (!x0.thr)))]) [0, 2, 6, 7, 25] rfl ?_
        exact midR () rfl rfl
      | false =>
        refine (runR (H := (blk t 65 [.slice (some ⟨b, o, none⟩) L.length c] :: row rnE 62 (.slice (some ⟨b, o, none⟩) L.length c) L :: H)) (z := 6) 5 [0, 2, 6, 7, 14, 18, 19] [(0, .pointer (some ⟨t, 0, none⟩)), (2, .bool r), (6, .int .i64 0), (7, .int .i64 (i0 : Int)), (14, .bool false), (18, .slice (some ⟨b, o, none⟩) L.length c), (19, .int .i64 (i0 : Int))] [(⟨t, 0, none⟩, .slice (some ⟨b, o, none⟩) L.length c)] (hasC (blkAt (T := 65) (cs := [.slice (some ⟨b, o, none⟩) L.length c]) 0 rfl rfl) has0) (fun _ => by kernel_rfl) ?_ : RT _ _ _ _ _ _ 11 _)
        refine (stepR (z := 5) (yldS (idxY 63 (.tmp 18) (.tmp 19) b o L.length c i0 7 62 (i0 : Int) .i64 (some 20) (fun _ => by kernel_rfl) (by kernel_rfl) (by kernel_rfl) (fun _ => by kernel_rfl) (fun _ => by kernel_rfl) Tryz.underlying63 (by kernel_rfl) (by first | rfl | assumption | simp) (by first | omega | (simp; done) | (simp; omega) | (simp at *; omega)))) (fun _ => ?_) : RT _ _ _ _ _ _ 6 _)
        refine (runR (H := (blk t 65 [.slice (some ⟨b, o, none⟩) L.length c] :: row rnE 62 (.slice (some ⟨b, o, none⟩) L.length c) L :: H)) (z := 0) 5 [0, 2, 6, 7, 25] [(0, .pointer (some ⟨t, 0, none⟩)), (2, .bool r), (6, .int .i64 0), (7, .int .i64 (i0 : Int)), (25, .bool (!x0.thr))] [(⟨b, o + i0 * 7 + 4, none⟩, .bool x0.thr)] (hasC (rowCell (E := rnE) (xs := L) 1 rfl (x := x0) hi0 (j := 4) rfl) has0) (fun _ => by kernel_rfl) (endR ?_) : RT _ _ _ _ _ _ 5 _)
        refine PT.keep (L' := [(0, .pointer (some ⟨t, 0, none⟩)), (2, .bool r), (6, .int .i64 0), (7, .int .i64 (i0 : Int)), (25, .bool (false || (!x0.thr)))]) [0, 2, 6, 7, 25] rfl ?_
        exact midR () rfl rfl
    refine endR ?_
    cases hthr : x0.thr with
    | false =>
      rw [show ((decide ((i0 : Int) < 0)) || (!false)) = true from by simp]
      refine condR (b := true) (by kernel_rfl) (fun _ => by kernel_rfl) (fun _ => ?_) (fun h => by cases h)
      refine seqR (by kernel_rfl) ?_
      refine regionR 1 (by kernel_rfl) (by kernel_rfl) ?_
      refine (run0 (z := 0) 1 [0, 2, 6, 7] [(0, .pointer (some ⟨t, 0, none⟩)), (2, .bool r), (6, .int .i64 13), (7, .int .i64 (i0 : Int))] (fun _ => by kernel_rfl) (endR ?_) : RT _ _ _ _ _ _ 1 _)
      refine retR (by kernel_rfl) ?_
      refine thenV ?_
      refine done0 (.int .i64 13) (fun _ => by kernel_rfl) (fun w hs => ?_) .ret (.inr rfl)
      exact ⟨(), by rw [readyN, hg]; simp [hthr], by rw [readyN, hg]; simp only [hthr]; exact Sat.closeRt hne hs⟩
    | true =>
      rw [show ((decide ((i0 : Int) < 0)) || (!true)) = false from by simp]
      refine PT.rowNil rnE 62 ?_
      refine condR (b := false) (by kernel_rfl) (fun _ => by kernel_rfl) (fun h => by cases h) (fun _ => ?_)
      refine skipR (by kernel_rfl) ?_
      refine seqR (by kernel_rfl) ?_
      refine regionR 9 (by kernel_rfl) (by kernel_rfl) ?_
      refine (runR (H := (row rnE 62 (.slice none 0 0) [] :: blk t 65 [.slice (some ⟨b, o, none⟩) L.length c] :: row rnE 62 (.slice (some ⟨b, o, none⟩) L.length c) L :: H)) (z := 4) 5 [0, 2, 6, 7, 26, 30] [(0, .pointer (some ⟨t, 0, none⟩)), (2, .bool r), (6, .int .i64 0), (7, .int .i64 (i0 : Int)), (26, .pointer (some ⟨t, 0, none⟩)), (30, .slice (some ⟨b, o, none⟩) L.length c)] [(⟨t, 0, none⟩, .slice (some ⟨b, o, none⟩) L.length c)] (hasC (blkAt (T := 65) (cs := [.slice (some ⟨b, o, none⟩) L.length c]) 1 rfl rfl) has0) (fun _ => by kernel_rfl) ?_ : RT _ _ _ _ _ _ 9 _)
      refine (stepR (z := 3) (appS (E := rnE) 63 (.const (.slice none 0 0)) (.tmp 30) none 0 [] L (.slice (some ⟨b, o, none⟩) L.length c) (some 31) (fun _ => by kernel_rfl) (by kernel_rfl) (by kernel_rfl) (fun _ => by kernel_rfl) (fun _ => by kernel_rfl) Tryz.underlying63 (rnE_ety) (rowKRat 2 rfl) (by simp; omega)) (fun r1 => ?_) : RT _ _ _ (row rnE 62 (.slice none 0 0) [] :: blk t 65 [.slice (some ⟨b, o, none⟩) L.length c] :: row rnE 62 (.slice (some ⟨b, o, none⟩) L.length c) L :: H) _ _ 4 _)
      rw [show ([] ++ L) = L by rfl]
      refine (run0 (z := 1) 2 [31, 0, 2, 6, 7, 33] [(31, .slice r1.1 L.length r1.2), (0, .pointer (some ⟨t, 0, none⟩)), (2, .bool r), (6, .int .i64 0), (7, .int .i64 (i0 : Int)), (33, .pointer (some ⟨t, 0, none⟩))] (fun _ => by kernel_rfl) ?_ : RT _ _ _ _ _ _ 3 _)
      refine (RT.pick 1 rfl ?_ : RT _ _ _ (row rnE 62 (.slice r1.1 L.length r1.2) L :: blk t 65 [.slice (some ⟨b, o, none⟩) L.length c] :: row rnE 62 (.slice (some ⟨b, o, none⟩) L.length c) L :: H) _ _ 1 _)
      refine (stepR (z := 0) (storeS [(0, .slice r1.1 L.length r1.2)] [.slice r1.1 L.length r1.2] (fun _ => by kernel_rfl) (by kernel_rfl) (by kernel_rfl)) (fun _ => ?_) : RT _ _ _ _ _ _ 1 _)
      refine endR ?_
      refine seqR (by kernel_rfl) ?_
      refine blockR 0 (by kernel_rfl) (by kernel_rfl) ?_
      refine PT.pick 2 rfl ?_
      refine PT.drop ?_
      refine PT.know (KR.isSome (s := ⟨r1.1, r1.2, L⟩) (rowKRat 1 rfl) hne) ?_
      rintro ⟨b2, o2, hA2⟩
      dsimp only at hA2
      rw [hA2]
      cases r with
      | true =>
        refine PT.keep (L' := [(0, .pointer (some ⟨t, 0, none⟩)), (2, .bool true), (6, .int .i64 0), (7, .int .i64 (i0 : Int))]) [0, 2, 6, 7] rfl ?_
        refine loopG (fun (q : List Nr × Nat) => [(0, .pointer (some ⟨t, 0, none⟩)), (2, .bool true), (6, .int .i64 0), (7, .int .i64 (q.2 : Int))]) (fun (q : List Nr × Nat) => (blk t 65 [.slice (some ⟨b2, o2, none⟩) q.1.length r1.2] :: row rnE 62 (.slice (some ⟨b2, o2, none⟩) q.1.length r1.2) q.1 :: H)) (fun k (q : List Nr × Nat) => ∃ x, q.1[q.2]? = some x ∧ SK q.1 ∧ RK q.1 rk ∧ rk x.id ≤ k ∧ wakeN k q.1 x.id = wakeN 6 L id) 6 (L, i0) (by kernel_rfl) ⟨x0, hi0, hsk, hrk, Nat.le_trans (hrk x0 (List.mem_of_getElem? hi0)).2.2.1 (by omega), by rw [(gt_mem hg).2]⟩ ?_
        rintro k ⟨M, i⟩ ⟨x, hx, hsM, hrM, hk, hwk⟩
        simp only at hx hsM hrM hwk
        have hxM := List.mem_of_getElem? hx
        have hpos := hrM.pos hxM
        have hlM := hsM.len
        have hil := (List.getElem?_eq_some_iff.1 hx).1
        have hneM : M ≠ [] := List.ne_nil_of_mem hxM
        refine seqR (by kernel_rfl) ?_
        refine seqR (by kernel_rfl) ?_
        refine regionR 15 (by kernel_rfl) (by kernel_rfl) ?_
        refine (run0 (z := 12) 3 [0, 2, 6, 7, 36] [(0, .pointer (some ⟨t, 0, none⟩)), (2, .bool true), (6, .int .i64 0), (7, .int .i64 (i : Int)), (36, .bool (decide ((i : Int) ≥ 0)))] (fun _ => by kernel_rfl) ?_ : RT _ _ _ _ _ _ 15 _)
        refine (segR (ι := Unit) (z := 0) 12 (fun _ => [(0, .pointer (some ⟨t, 0, none⟩)), (2, .bool true), (6, .int .i64 0), (7, .int .i64 (i : Int)), (48, .bool ((decide ((i : Int) ≥ 0)) && (x.rdy != true)))]) (fun _ => (blk t 65 [.slice (some ⟨b2, o2, none⟩) M.length r1.2] :: row rnE 62 (.slice (some ⟨b2, o2, none⟩) M.length r1.2) M :: H)) ?_ (fun _ => ?_) : RT _ _ _ _ _ _ 12 _)
        · cases hg3 : (decide ((i : Int) ≥ 0)) with
          | true =>
            refine (runR (H := (blk t 65 [.slice (some ⟨b2, o2, none⟩) M.length r1.2] :: row rnE 62 (.slice (some ⟨b2, o2, none⟩) M.length r1.2) M :: H)) (z := 7) 5 [0, 2, 6, 7, 36, 40, 41] [(0, .pointer (some ⟨t, 0, none⟩)), (2, .bool true), (6, .int .i64 0), (7, .int .i64 (i : Int)), (36, .bool true), (40, .slice (some ⟨b2, o2, none⟩) M.length r1.2), (41, .int .i64 (i : Int))] [(⟨t, 0, none⟩, .slice (some ⟨b2, o2, none⟩) M.length r1.2)] (hasC (blkAt (T := 65) (cs := [.slice (some ⟨b2, o2, none⟩) M.length r1.2]) 0 rfl rfl) has0) (fun _ => by kernel_rfl) ?_ : RT _ _ _ _ _ _ 12 _)
            refine (stepR (z := 6) (yldS (idxY 63 (.tmp 40) (.tmp 41) b2 o2 M.length r1.2 i 7 62 (i : Int) .i64 (some 42) (fun _ => by kernel_rfl) (by kernel_rfl) (by kernel_rfl) (fun _ => by kernel_rfl) (fun _ => by kernel_rfl) Tryz.underlying63 (by kernel_rfl) (by first | rfl | assumption | simp) (by first | omega | (simp; done) | (simp; omega) | (simp at *; omega)))) (fun _ => ?_) : RT _ _ _ _ _ _ 7 _)
            refine (runR (H := (blk t 65 [.slice (some ⟨b2, o2, none⟩) M.length r1.2] :: row rnE 62 (.slice (some ⟨b2, o2, none⟩) M.length r1.2) M :: H)) (z := 0) 6 [0, 2, 6, 7, 48] [(0, .pointer (some ⟨t, 0, none⟩)), (2, .bool true), (6, .int .i64 0), (7, .int .i64 (i : Int)), (48, .bool (x.rdy != true))] [(⟨b2, o2 + i * 7 + 5, none⟩, .bool x.rdy)] (hasC (rowCell (E := rnE) (xs := M) 1 rfl (x := x) hx (j := 5) rfl) has0) (fun _ => by kernel_rfl) (endR ?_) : RT _ _ _ _ _ _ 6 _)
            refine PT.keep (L' := [(0, .pointer (some ⟨t, 0, none⟩)), (2, .bool true), (6, .int .i64 0), (7, .int .i64 (i : Int)), (48, .bool (true && (x.rdy != true)))]) [0, 2, 6, 7, 48] rfl ?_
            exact midR () rfl rfl
          | false =>
            refine (run0 (z := 0) 12 [0, 2, 6, 7, 48] [(0, .pointer (some ⟨t, 0, none⟩)), (2, .bool true), (6, .int .i64 0), (7, .int .i64 (i : Int)), (48, .bool false)] (fun _ => by kernel_rfl) (endR ?_) : RT _ _ _ _ _ _ 12 _)
            refine PT.keep (L' := [(0, .pointer (some ⟨t, 0, none⟩)), (2, .bool true), (6, .int .i64 0), (7, .int .i64 (i : Int)), (48, .bool (false && (x.rdy != true)))]) [0, 2, 6, 7, 48] rfl ?_
            exact midR () rfl rfl
        refine endR ?_
        cases hxr : x.rdy with
        | true =>
          rw [show ((decide ((i : Int) ≥ 0)) && (true != true)) = false from by simp]
          refine condR (b := false) (by kernel_rfl) (fun _ => by kernel_rfl) (fun h => by cases h) (fun _ => ?_)
          refine exitR 0 (by kernel_rfl) (by kernel_rfl) ?_
          refine thenX ?_
          refine thenX ?_
          refine leaveR ?_
          refine seqR (by kernel_rfl) ?_
          refine regionR 1 (by kernel_rfl) (by kernel_rfl) ?_
          refine (run0 (z := 0) 1 [6] [(6, .int .i64 0)] (fun _ => by kernel_rfl) (endR ?_) : RT _ _ _ _ _ _ 1 _)
          refine retR (by kernel_rfl) ?_
          have hz : wakeN k M x.id = M := by cases k with | zero => rfl | succ k => rw [wakeN, gt_at hsM.nd hx]; simp [hxr]
          refine done0 (.int .i64 0) (fun _ => by kernel_rfl) (fun w hs => ?_) .ret (.inr rfl)
          exact ⟨(), by rw [readyN, hg]; simp [hthr], by rw [readyN, hg]; simp only [hthr, if_true]; rw [← hwk, hz]; exact Sat.closeRt hneM hs⟩
        | false =>
          rw [show ((decide ((i : Int) ≥ 0)) && (false != true)) = true from by simp]
          obtain ⟨k, rfl⟩ : ∃ k', k = k' + 1 := ⟨k - 1, by omega⟩
          cases hp : gt M x.par with
          | none =>
            have hixp : ixL M x.par = -1 := ixL_no (gt_none.1 hp)
            refine condR (b := true) (by kernel_rfl) (fun _ => by kernel_rfl) (fun _ => ?_) (fun h => by cases h)
            refine skipR (by kernel_rfl) ?_
            refine blockR 1 (by kernel_rfl) (by kernel_rfl) ?_
            refine seqR (by kernel_rfl) ?_
            refine regionR 12 (by kernel_rfl) (by kernel_rfl) ?_
            refine (runR (H := (blk t 65 [.slice (some ⟨b2, o2, none⟩) M.length r1.2] :: row rnE 62 (.slice (some ⟨b2, o2, none⟩) M.length r1.2) M :: H)) (z := 6) 6 [0, 2, 6, 7, 49, 53, 54] [(0, .pointer (some ⟨t, 0, none⟩)), (2, .bool true), (6, .int .i64 0), (7, .int .i64 (i : Int)), (49, .pointer (some ⟨t, 0, none⟩)), (53, .slice (some ⟨b2, o2, none⟩) M.length r1.2), (54, .int .i64 (i : Int))] [(⟨t, 0, none⟩, .slice (some ⟨b2, o2, none⟩) M.length r1.2)] (hasC (blkAt (T := 65) (cs := [.slice (some ⟨b2, o2, none⟩) M.length r1.2]) 0 rfl rfl) has0) (fun _ => by kernel_rfl) ?_ : RT _ _ _ _ _ _ 12 _)
            refine (stepR (z := 5) (yldS (idxY 63 (.tmp 53) (.tmp 54) b2 o2 M.length r1.2 i 7 62 (i : Int) .i64 (some 55) (fun _ => by kernel_rfl) (by kernel_rfl) (by kernel_rfl) (fun _ => by kernel_rfl) (fun _ => by kernel_rfl) Tryz.underlying63 (by kernel_rfl) (by first | rfl | assumption | simp) (by first | omega | (simp; done) | (simp; omega) | (simp at *; omega)))) (fun _ => ?_) : RT _ _ _ _ _ _ 6 _)
            refine (runR (H := (blk t 65 [.slice (some ⟨b2, o2, none⟩) M.length r1.2] :: row rnE 62 (.slice (some ⟨b2, o2, none⟩) M.length r1.2) M :: H)) (z := 2) 3 [0, 2, 6, 7, 49, 58] [(0, .pointer (some ⟨t, 0, none⟩)), (2, .bool true), (6, .int .i64 0), (7, .int .i64 (i : Int)), (49, .pointer (some ⟨t, 0, none⟩)), (58, .int .i64 x.par)] [(⟨b2, o2 + i * 7 + 1, none⟩, .int .i64 x.par)] (hasC (rowCell (E := rnE) (xs := M) 1 rfl (x := x) hx (j := 1) rfl) has0) (fun _ => by kernel_rfl) ?_ : RT _ _ _ _ _ _ 5 _)
            refine (stepR (z := 1) (callS 28 [.pointer (some ⟨t, 0, none⟩), .int .i64 x.par] (some 59) (fun _ => .int .i64 (ixL M x.par)) (fun _ => (blk t 65 [.slice (some ⟨b2, o2, none⟩) M.length r1.2] :: row rnE 62 (.slice (some ⟨b2, o2, none⟩) M.length r1.2) M :: H)) (fun _ => by kernel_rfl) (rat_walk H t b2 o2 r1.2 M x.par (by omega))) (fun _ => ?_) : RT _ _ _ _ _ _ 2 _)
            rw [show ixL M x.par = (-1) by exact hixp]
            refine (run0 (z := 0) 1 [0, 2, 6, 7, 8] [(0, .pointer (some ⟨t, 0, none⟩)), (2, .bool true), (6, .int .i64 0), (7, .int .i64 (i : Int)), (8, .int .i64 (-1))] (fun _ => by kernel_rfl) (endR ?_) : RT _ _ _ _ _ _ 1 _)
            refine seqR (by kernel_rfl) ?_
            refine seqR (by kernel_rfl) ?_
            refine regionR 5 (by kernel_rfl) (by kernel_rfl) ?_
            refine (run0 (z := 0) 5 [0, 2, 6, 7, 8, 64] [(0, .pointer (some ⟨t, 0, none⟩)), (2, .bool true), (6, .int .i64 0), (7, .int .i64 (i : Int)), (8, .int .i64 (-1)), (64, .bool false)] (fun _ => by kernel_rfl) (endR ?_) : RT _ _ _ _ _ _ 5 _)
            refine condR (b := false) (by kernel_rfl) (fun _ => by kernel_rfl) (fun h => by cases h) (fun _ => ?_)
            refine skipR (by kernel_rfl) ?_
            refine seqR (by kernel_rfl) ?_
            refine regionR 10 (by kernel_rfl) (by kernel_rfl) ?_
            refine (runR (H := (blk t 65 [.slice (some ⟨b2, o2, none⟩) M.length r1.2] :: row rnE 62 (.slice (some ⟨b2, o2, none⟩) M.length r1.2) M :: H)) (z := 4) 6 [0, 2, 6, 7, 8, 94, 95, 96] [(0, .pointer (some ⟨t, 0, none⟩)), (2, .bool true), (6, .int .i64 0), (7, .int .i64 (i : Int)), (8, .int .i64 (-1)), (94, .slice (some ⟨b2, o2, none⟩) M.length r1.2), (95, .int .i64 (i : Int)), (96, .bool true)] [(⟨t, 0, none⟩, .slice (some ⟨b2, o2, none⟩) M.length r1.2)] (hasC (blkAt (T := 65) (cs := [.slice (some ⟨b2, o2, none⟩) M.length r1.2]) 0 rfl rfl) has0) (fun _ => by kernel_rfl) ?_ : RT _ _ _ _ _ _ 10 _)
            refine (stepR (z := 3) (yldS (idxY 63 (.tmp 94) (.tmp 95) b2 o2 M.length r1.2 i 7 62 (i : Int) .i64 (some 97) (fun _ => by kernel_rfl) (by kernel_rfl) (by kernel_rfl) (fun _ => by kernel_rfl) (fun _ => by kernel_rfl) Tryz.underlying63 (by kernel_rfl) (by first | rfl | assumption | simp) (by first | omega | (simp; done) | (simp; omega) | (simp at *; omega)))) (fun _ => ?_) : RT _ _ _ _ _ _ 4 _)
            refine (run0 (z := 1) 2 [0, 2, 6, 7, 8, 96, 99] [(0, .pointer (some ⟨t, 0, none⟩)), (2, .bool true), (6, .int .i64 0), (7, .int .i64 (i : Int)), (8, .int .i64 (-1)), (96, .bool true), (99, .pointer (some ⟨b2, o2 + i * 7 + 5, none⟩))] (fun _ => by kernel_rfl) ?_ : RT _ _ _ _ _ _ 3 _)
            refine (RT.pick 1 rfl ?_ : RT _ _ _ (blk t 65 [.slice (some ⟨b2, o2, none⟩) M.length r1.2] :: row rnE 62 (.slice (some ⟨b2, o2, none⟩) M.length r1.2) M :: H) _ _ 1 _)
            refine (stepR (z := 0) (setS (E := rnE) (J := i) (j := 5) x (rdT x) (.bool true) ⟨b2, o2 + i * 7 + 5, none⟩ (fun _ => by kernel_rfl) (by first | rfl | simp) (hx) (rfl) (by decide)) (fun _ => ?_) : RT _ _ _ (row rnE 62 (.slice (some ⟨b2, o2, none⟩) M.length r1.2) M :: blk t 65 [.slice (some ⟨b2, o2, none⟩) M.length r1.2] :: H) _ _ 1 _)
            refine endR ?_
            refine seqR (by kernel_rfl) ?_
            refine seqR (by kernel_rfl) ?_
            refine regionR 19 (by kernel_rfl) (by kernel_rfl) ?_
            refine (run0 (z := 0) 19 [0, 2, 6, 7, 8, 118] [(0, .pointer (some ⟨t, 0, none⟩)), (2, .bool true), (6, .int .i64 0), (7, .int .i64 (i : Int)), (8, .int .i64 (-1)), (118, .bool true)] (fun _ => by kernel_rfl) (endR ?_) : RT _ _ _ _ _ _ 19 _)
            refine condR (b := true) (by kernel_rfl) (fun _ => by kernel_rfl) (fun _ => ?_) (fun h => by cases h)
            refine exitR 0 (by kernel_rfl) (by kernel_rfl) ?_
            refine thenX ?_
            refine passR (by decide) ?_
            refine thenX ?_
            refine leaveR ?_
            refine seqR (by kernel_rfl) ?_
            refine regionR 1 (by kernel_rfl) (by kernel_rfl) ?_
            refine (run0 (z := 0) 1 [6] [(6, .int .i64 0)] (fun _ => by kernel_rfl) (endR ?_) : RT _ _ _ _ _ _ 1 _)
            refine retR (by kernel_rfl) ?_
            rw [show M.length = (upN M x.id rdT).length by simp [upN]]
            rw [show (M.set i (rdT x)) = (upN M x.id rdT) by exact set_at hsM.nd hx rdT]
            have hz : wakeN (k + 1) M x.id = upN M x.id rdT := by rw [wakeN, gt_at hsM.nd hx]; simp [hxr, hp]; rfl
            refine PT.pick 0 rfl ?_
            refine PT.pick 1 rfl ?_
            refine done0 (.int .i64 0) (fun _ => by kernel_rfl) (fun w hs => ?_) .ret (.inr rfl)
            exact ⟨(), by rw [readyN, hg]; simp [hthr], by rw [readyN, hg]; simp only [hthr, if_true]; rw [← hwk, hz]; exact Sat.closeRt (by simp [upN]; exact hneM) hs⟩
          | some p =>
            obtain ⟨j, hj, hixp⟩ := ixL_gt hsM.nd hp
            have hjl := (List.getElem?_eq_some_iff.1 hj).1
            have hpi := (gt_mem hp).2
            have hxp := hsM.ne_par hxM
            refine condR (b := true) (by kernel_rfl) (fun _ => by kernel_rfl) (fun _ => ?_) (fun h => by cases h)
            refine skipR (by kernel_rfl) ?_
            refine blockR 1 (by kernel_rfl) (by kernel_rfl) ?_
            refine seqR (by kernel_rfl) ?_
            refine regionR 12 (by kernel_rfl) (by kernel_rfl) ?_
            refine (runR (H := (blk t 65 [.slice (some ⟨b2, o2, none⟩) M.length r1.2] :: row rnE 62 (.slice (some ⟨b2, o2, none⟩) M.length r1.2) M :: H)) (z := 6) 6 [0, 2, 6, 7, 49, 53, 54] [(0, .pointer (some ⟨t, 0, none⟩)), (2, .bool true), (6, .int .i64 0), (7, .int .i64 (i : Int)), (49, .pointer (some ⟨t, 0, none⟩)), (53, .slice (some ⟨b2, o2, none⟩) M.length r1.2), (54, .int .i64 (i : Int))] [(⟨t, 0, none⟩, .slice (some ⟨b2, o2, none⟩) M.length r1.2)] (hasC (blkAt (T := 65) (cs := [.slice (some ⟨b2, o2, none⟩) M.length r1.2]) 0 rfl rfl) has0) (fun _ => by kernel_rfl) ?_ : RT _ _ _ _ _ _ 12 _)
            refine (stepR (z := 5) (yldS (idxY 63 (.tmp 53) (.tmp 54) b2 o2 M.length r1.2 i 7 62 (i : Int) .i64 (some 55) (fun _ => by kernel_rfl) (by kernel_rfl) (by kernel_rfl) (fun _ => by kernel_rfl) (fun _ => by kernel_rfl) Tryz.underlying63 (by kernel_rfl) (by first | rfl | assumption | simp) (by first | omega | (simp; done) | (simp; omega) | (simp at *; omega)))) (fun _ => ?_) : RT _ _ _ _ _ _ 6 _)
            refine (runR (H := (blk t 65 [.slice (some ⟨b2, o2, none⟩) M.length r1.2] :: row rnE 62 (.slice (some ⟨b2, o2, none⟩) M.length r1.2) M :: H)) (z := 2) 3 [0, 2, 6, 7, 49, 58] [(0, .pointer (some ⟨t, 0, none⟩)), (2, .bool true), (6, .int .i64 0), (7, .int .i64 (i : Int)), (49, .pointer (some ⟨t, 0, none⟩)), (58, .int .i64 x.par)] [(⟨b2, o2 + i * 7 + 1, none⟩, .int .i64 x.par)] (hasC (rowCell (E := rnE) (xs := M) 1 rfl (x := x) hx (j := 1) rfl) has0) (fun _ => by kernel_rfl) ?_ : RT _ _ _ _ _ _ 5 _)
            refine (stepR (z := 1) (callS 28 [.pointer (some ⟨t, 0, none⟩), .int .i64 x.par] (some 59) (fun _ => .int .i64 (ixL M x.par)) (fun _ => (blk t 65 [.slice (some ⟨b2, o2, none⟩) M.length r1.2] :: row rnE 62 (.slice (some ⟨b2, o2, none⟩) M.length r1.2) M :: H)) (fun _ => by kernel_rfl) (rat_walk H t b2 o2 r1.2 M x.par (by omega))) (fun _ => ?_) : RT _ _ _ _ _ _ 2 _)
            rw [show ixL M x.par = (j : Int) by exact hixp]
            refine (run0 (z := 0) 1 [0, 2, 6, 7, 8] [(0, .pointer (some ⟨t, 0, none⟩)), (2, .bool true), (6, .int .i64 0), (7, .int .i64 (i : Int)), (8, .int .i64 (j : Int))] (fun _ => by kernel_rfl) (endR ?_) : RT _ _ _ _ _ _ 1 _)
            refine seqR (by kernel_rfl) ?_
            refine seqR (by kernel_rfl) ?_
            refine regionR 5 (by kernel_rfl) (by kernel_rfl) ?_
            refine (run0 (z := 0) 5 [0, 2, 6, 7, 8, 64] [(0, .pointer (some ⟨t, 0, none⟩)), (2, .bool true), (6, .int .i64 0), (7, .int .i64 (i : Int)), (8, .int .i64 (j : Int)), (64, .bool (decide ((j : Int) ≥ 0)))] (fun _ => by kernel_rfl) (endR ?_) : RT _ _ _ _ _ _ 5 _)
            rw [show (decide ((j : Int) ≥ 0)) = true from by first | exact decide_eq_true (by omega) | (simp; done) | (simp; omega)]
            refine condR (b := true) (by kernel_rfl) (fun _ => by kernel_rfl) (fun _ => ?_) (fun h => by cases h)
            refine drawR (fun w => Sat w (blk t 65 [.slice (some ⟨b2, o2, none⟩) M.length r1.2] :: row rnE 62 (.slice (some ⟨b2, o2, none⟩) M.length r1.2) M :: H)) [26] 27 (by kernel_rfl) (by kernel_rfl) (by kernel_rfl) (fun _ h => by first | exact h | exact h.tail | exact h.tail.tail | exact h.tail.tail.tail | exact h.tail.tail.tail.tail) ?_
            refine takesR [0, 1, 2, 3, 4, 5, 6, 7, 8, 9, 14, 15, 16, 17, 18] [0, 2, 6, 7, 8, 68, 69, 73, 74, 82, 83] 12 [true, true, true, true, true, true, true, true, true, true, false, false, false, false, true, true, true, true, true, false, false, false, false, false, false, false, false] [(0, .pointer (some ⟨t, 0, none⟩)), (2, .bool true), (6, .int .i64 0), (7, .int .i64 (i : Int)), (8, .int .i64 (j : Int)), (68, .slice (some ⟨b2, o2, none⟩) M.length r1.2), (69, .int .i64 (i : Int)), (73, .slice (some ⟨b2, o2, none⟩) M.length r1.2), (74, .int .i64 (i : Int)), (82, .slice (some ⟨b2, o2, none⟩) M.length r1.2), (83, .int .i64 (j : Int))] [(⟨t, 0, none⟩, .slice (some ⟨b2, o2, none⟩) M.length r1.2), (⟨t, 0, none⟩, .slice (some ⟨b2, o2, none⟩) M.length r1.2), (⟨t, 0, none⟩, .slice (some ⟨b2, o2, none⟩) M.length r1.2)] rfl (fun _ d _ _ _ h => by cases d <;> exact h) (fun _ h => by first | exact h | exact h.tail | exact h.tail.tail | exact h.tail.tail.tail | exact h.tail.tail.tail.tail) (hasC (blkAt (T := 65) (cs := [.slice (some ⟨b2, o2, none⟩) M.length r1.2]) 0 rfl rfl) (hasC (blkAt (T := 65) (cs := [.slice (some ⟨b2, o2, none⟩) M.length r1.2]) 0 rfl rfl) (hasC (blkAt (T := 65) (cs := [.slice (some ⟨b2, o2, none⟩) M.length r1.2]) 0 rfl rfl) has0))) (fun _ => by kernel_rfl) ?_
            refine takeR1 10 11 [true, true, true, true, true, true, true, true, true, true, true, false, false, false, true, true, true, true, true, false, false, false, false, false, false, false, false] rfl rfl (by kernel_rfl) (fun _ d _ _ _ h => by cases d <;> exact h) (fun _ h => by first | exact h | exact h.tail | exact h.tail.tail | exact h.tail.tail.tail | exact h.tail.tail.tail.tail) (idxY 63 (.tmp 73) (.tmp 74) b2 o2 M.length r1.2 i 7 62 (i : Int) .i64 (some 75) (fun _ => by kernel_rfl) (by kernel_rfl) (by kernel_rfl) (fun _ => by kernel_rfl) (fun _ => by kernel_rfl) Tryz.underlying63 (by kernel_rfl) (by first | rfl | assumption | simp) (by first | omega | (simp; done) | (simp; omega) | (simp at *; omega))) ?_
            refine takesR [11, 12, 13] [0, 2, 6, 7, 8, 68, 69, 82, 83, 78] 8 [true, true, true, true, true, true, true, true, true, true, true, true, true, true, true, true, true, true, true, false, false, false, false, false, false, false, false] [(0, .pointer (some ⟨t, 0, none⟩)), (2, .bool true), (6, .int .i64 0), (7, .int .i64 (i : Int)), (8, .int .i64 (j : Int)), (68, .slice (some ⟨b2, o2, none⟩) M.length r1.2), (69, .int .i64 (i : Int)), (82, .slice (some ⟨b2, o2, none⟩) M.length r1.2), (83, .int .i64 (j : Int)), (78, .int .i64 x.pass)] [(⟨b2, o2 + i * 7 + 3, none⟩, .int .i64 x.pass)] rfl (fun _ d _ _ _ h => by cases d <;> exact h) (fun _ h => by first | exact h | exact h.tail | exact h.tail.tail | exact h.tail.tail.tail | exact h.tail.tail.tail.tail) (hasC (rowCell (E := rnE) (xs := M) 1 rfl (x := x) hx (j := 3) rfl) has0) (fun _ => by kernel_rfl) ?_
            refine takeR1 19 7 [true, true, true, true, true, true, true, true, true, true, true, true, true, true, true, true, true, true, true, true, false, false, false, false, false, false, false] rfl rfl (by kernel_rfl) (fun _ d _ _ _ h => by cases d <;> exact h) (fun _ h => by first | exact h | exact h.tail | exact h.tail.tail | exact h.tail.tail.tail | exact h.tail.tail.tail.tail) (idxY 63 (.tmp 82) (.tmp 83) b2 o2 M.length r1.2 j 7 62 (j : Int) .i64 (some 84) (fun _ => by kernel_rfl) (by kernel_rfl) (by kernel_rfl) (fun _ => by kernel_rfl) (fun _ => by kernel_rfl) Tryz.underlying63 (by kernel_rfl) (by first | rfl | assumption | simp) (by first | omega | (simp; done) | (simp; omega) | (simp at *; omega))) ?_
            refine takesR [20, 21, 22] [0, 2, 6, 7, 8, 68, 69, 87] 4 [true, true, true, true, true, true, true, true, true, true, true, true, true, true, true, true, true, true, true, true, true, true, true, false, false, false, false] [(0, .pointer (some ⟨t, 0, none⟩)), (2, .bool true), (6, .int .i64 0), (7, .int .i64 (i : Int)), (8, .int .i64 (j : Int)), (68, .slice (some ⟨b2, o2, none⟩) M.length r1.2), (69, .int .i64 (i : Int)), (87, .int .i64 (mxI x.pass p.now))] [(⟨b2, o2 + j * 7 + 6, none⟩, .int .i64 p.now)] rfl (fun _ d _ _ _ h => by cases d <;> exact h) (fun _ h => by first | exact h | exact h.tail | exact h.tail.tail | exact h.tail.tail.tail | exact h.tail.tail.tail.tail) (hasC (rowCell (E := rnE) (xs := M) 1 rfl (x := p) hj (j := 6) rfl) has0) (fun _ => by kernel_rfl) ?_
            refine takeR1 23 3 [true, true, true, true, true, true, true, true, true, true, true, true, true, true, true, true, true, true, true, true, true, true, true, true, false, false, false] rfl rfl (by kernel_rfl) (fun _ d _ _ _ h => by cases d <;> exact h) (fun _ h => by first | exact h | exact h.tail | exact h.tail.tail | exact h.tail.tail.tail | exact h.tail.tail.tail.tail) (idxY 63 (.tmp 68) (.tmp 69) b2 o2 M.length r1.2 i 7 62 (i : Int) .i64 (some 88) (fun _ => by kernel_rfl) (by kernel_rfl) (by kernel_rfl) (fun _ => by kernel_rfl) (fun _ => by kernel_rfl) Tryz.underlying63 (by kernel_rfl) (by first | rfl | assumption | simp) (by first | omega | (simp; done) | (simp; omega) | (simp at *; omega))) ?_
            refine takesR [24, 25] [0, 2, 6, 7, 8, 87, 90] 1 [true, true, true, true, true, true, true, true, true, true, true, true, true, true, true, true, true, true, true, true, true, true, true, true, true, true, false] [(0, .pointer (some ⟨t, 0, none⟩)), (2, .bool true), (6, .int .i64 0), (7, .int .i64 (i : Int)), (8, .int .i64 (j : Int)), (87, .int .i64 (mxI x.pass p.now)), (90, .pointer (some ⟨b2, o2 + i * 7 + 3, none⟩))] [] rfl (fun _ d _ _ _ h => by cases d <;> exact h) (fun _ h => by first | exact h | exact h.tail | exact h.tail.tail | exact h.tail.tail.tail | exact h.tail.tail.tail.tail) has0 (fun _ => by kernel_rfl) ?_
            refine DT.pick 1 rfl ?_
            refine oneR 26 0 [true, true, true, true, true, true, true, true, true, true, true, true, true, true, true, true, true, true, true, true, true, true, true, true, true, true, true] rfl rfl (by kernel_rfl) (setS (E := rnE) (J := i) (j := 3) x (psF (mxI x.pass p.now) x) (.int .i64 (mxI x.pass p.now)) ⟨b2, o2 + i * 7 + 3, none⟩ (fun _ => by kernel_rfl) (by first | rfl | simp) (hx) (rfl) (by decide)) (fun _ _ h hn => by first | exact h | exact h.tail | exact h.tail.tail | exact h.tail.tail.tail | exact h.tail.tail.tail.tail | exact absurd hn (by decide)) (fun _ => ?_)
            refine drawnR (by kernel_rfl) ?_
            refine seqR (by kernel_rfl) ?_
            refine regionR 10 (by kernel_rfl) (by kernel_rfl) ?_
            refine (runR (H := (row rnE 62 (.slice (some ⟨b2, o2, none⟩) M.length r1.2) (M.set i (psF (mxI x.pass p.now) x)) :: blk t 65 [.slice (some ⟨b2, o2, none⟩) M.length r1.2] :: H)) (z := 4) 6 [0, 2, 6, 7, 8, 94, 95, 96] [(0, .pointer (some ⟨t, 0, none⟩)), (2, .bool true), (6, .int .i64 0), (7, .int .i64 (i : Int)), (8, .int .i64 (j : Int)), (94, .slice (some ⟨b2, o2, none⟩) M.length r1.2), (95, .int .i64 (i : Int)), (96, .bool true)] [(⟨t, 0, none⟩, .slice (some ⟨b2, o2, none⟩) M.length r1.2)] (hasC (blkAt (T := 65) (cs := [.slice (some ⟨b2, o2, none⟩) M.length r1.2]) 1 rfl rfl) has0) (fun _ => by kernel_rfl) ?_ : RT _ _ _ _ _ _ 10 _)
            refine (stepR (z := 3) (yldS (idxY 63 (.tmp 94) (.tmp 95) b2 o2 M.length r1.2 i 7 62 (i : Int) .i64 (some 97) (fun _ => by kernel_rfl) (by kernel_rfl) (by kernel_rfl) (fun _ => by kernel_rfl) (fun _ => by kernel_rfl) Tryz.underlying63 (by kernel_rfl) (by first | rfl | assumption | simp) (by first | omega | (simp; done) | (simp; omega) | (simp at *; omega)))) (fun _ => ?_) : RT _ _ _ _ _ _ 4 _)
            refine (run0 (z := 1) 2 [0, 2, 6, 7, 8, 96, 99] [(0, .pointer (some ⟨t, 0, none⟩)), (2, .bool true), (6, .int .i64 0), (7, .int .i64 (i : Int)), (8, .int .i64 (j : Int)), (96, .bool true), (99, .pointer (some ⟨b2, o2 + i * 7 + 5, none⟩))] (fun _ => by kernel_rfl) ?_ : RT _ _ _ _ _ _ 3 _)
            refine (stepR (z := 0) (setS (E := rnE) (J := i) (j := 5) (psF (mxI x.pass p.now) x) (wkF p.now x) (.bool true) ⟨b2, o2 + i * 7 + 5, none⟩ (fun _ => by kernel_rfl) (by first | rfl | simp) (List.getElem?_set_self hil) (rfl) (by decide)) (fun _ => ?_) : RT _ _ _ (row rnE 62 (.slice (some ⟨b2, o2, none⟩) M.length r1.2) (M.set i (psF (mxI x.pass p.now) x)) :: blk t 65 [.slice (some ⟨b2, o2, none⟩) M.length r1.2] :: H) _ _ 1 _)
            refine endR ?_
            refine seqR (by kernel_rfl) ?_
            refine seqR (by kernel_rfl) ?_
            refine regionR 19 (by kernel_rfl) (by kernel_rfl) ?_
            refine (run0 (z := 16) 3 [0, 2, 6, 7, 8, 102] [(0, .pointer (some ⟨t, 0, none⟩)), (2, .bool true), (6, .int .i64 0), (7, .int .i64 (i : Int)), (8, .int .i64 (j : Int)), (102, .bool (decide ((j : Int) < 0)))] (fun _ => by kernel_rfl) ?_ : RT _ _ _ _ _ _ 19 _)
            refine (segR (ι := Unit) (z := 0) 16 (fun _ => [(0, .pointer (some ⟨t, 0, none⟩)), (2, .bool true), (6, .int .i64 0), (7, .int .i64 (i : Int)), (8, .int .i64 (j : Int)), (118, .bool ((decide ((j : Int) < 0)) || false))]) (fun _ => (row rnE 62 (.slice (some ⟨b2, o2, none⟩) M.length r1.2) ((M.set i (psF (mxI x.pass p.now) x)).set i (wkF p.now x)) :: blk t 65 [.slice (some ⟨b2, o2, none⟩) M.length r1.2] :: H)) ?_ (fun _ => ?_) : RT _ _ _ _ _ _ 16 _)
            · cases hg3 : (decide ((j : Int) < 0)) with
              | true =>
                refine (run0 (z := 0) 16 [0, 2, 6, 7, 8, 118] [(0, .pointer (some ⟨t, 0, none⟩)), (2, .bool true), (6, .int .i64 0), (7, .int .i64 (i : Int)), (8, .int .i64 (j : Int)), (118, .bool true)] (fun _ => by kernel_rfl) (endR ?_) : RT _ _ _ _ _ _ 16 _)
                refine PT.keep (L' := [(0, .pointer (some ⟨t, 0, none⟩)), (2, .bool true), (6, .int .i64 0), (7, .int .i64 (i : Int)), (8, .int .i64 (j : Int)), (118, .bool (true || false))]) [0, 2, 6, 7, 8, 118] rfl ?_
                exact midR () rfl rfl
              | false =>
                refine (run0 (z := 0) 16 [0, 2, 6, 7, 8, 118] [(0, .pointer (some ⟨t, 0, none⟩)), (2, .bool true), (6, .int .i64 0), (7, .int .i64 (i : Int)), (8, .int .i64 (j : Int)), (118, .bool false)] (fun _ => by kernel_rfl) (endR ?_) : RT _ _ _ _ _ _ 16 _)
                refine PT.keep (L' := [(0, .pointer (some ⟨t, 0, none⟩)), (2, .bool true), (6, .int .i64 0), (7, .int .i64 (i : Int)), (8, .int .i64 (j : Int)), (118, .bool (false || false))]) [0, 2, 6, 7, 8, 118] rfl ?_
                exact midR () rfl rfl
            refine endR ?_
            rw [show ((decide ((j : Int) < 0)) || false) = false from by simp]
            refine condR (b := false) (by kernel_rfl) (fun _ => by kernel_rfl) (fun h => by cases h) (fun _ => ?_)
            refine skipR (by kernel_rfl) ?_
            refine regionR 2 (by kernel_rfl) (by kernel_rfl) ?_
            refine (run0 (z := 0) 2 [0, 2, 6, 7] [(0, .pointer (some ⟨t, 0, none⟩)), (2, .bool true), (6, .int .i64 0), (7, .int .i64 (j : Int))] (fun _ => by kernel_rfl) (endR ?_) : RT _ _ _ _ _ _ 2 _)
            rw [show M.length = (upN M x.id (wkF p.now)).length by simp [upN]]
            rw [show ((M.set i (psF (mxI x.pass p.now) x)).set i (wkF p.now x)) = (upN M x.id (wkF p.now)) by rw [List.set_set]; exact set_at hsM.nd hx (wkF p.now)]
            have hwk2 : wakeN (k + 1) M x.id = wakeN k (upN M x.id (wkF p.now)) p.id := by rw [wakeN, gt_at hsM.nd hx]; simp only [hxr, hp, Bool.false_eq_true, if_false]; rw [hpi]; rfl
            refine PT.pick 0 rfl ?_
            refine PT.pick 1 rfl ?_
            refine PT.keep (L' := [(0, .pointer (some ⟨t, 0, none⟩)), (2, .bool true), (6, .int .i64 0), (7, .int .i64 (j : Int))]) [0, 2, 6, 7] rfl ?_
            exact againG k (upN M x.id (wkF p.now), j) rfl rfl (by omega) ⟨p, up_at hsM.nd hx hj (by rw [hpi]; exact fun e => hxp e.symm) _, hsM.upN (wkF_skel _), hrM.ups (wkF_skel _), by have := RK.up hsM hrM hxM (gt_mem hp).1 hpi; omega, by rw [← hwk2, hwk]⟩
      | false =>
        have hk0 : kidR L x0.id = [] := by
          cases hkk : kidR L x0.id with
          | nil => rfl
          | cons y ys =>
            have hy : y ∈ kidR L x0.id := by rw [hkk]; simp
            obtain ⟨h1, h2, _⟩ := mem_kidR.1 hy
            exact absurd h2 (thr_leaf hsk (List.mem_of_getElem? hi0) hthr y h1)
        refine PT.keep (L' := [(0, .pointer (some ⟨t, 0, none⟩)), (2, .bool false), (6, .int .i64 0), (7, .int .i64 (i0 : Int))]) [0, 2, 6, 7] rfl ?_
        refine loopG (fun (q : List Nr × Nat) => [(0, .pointer (some ⟨t, 0, none⟩)), (2, .bool false), (6, .int .i64 0), (7, .int .i64 (q.2 : Int))]) (fun (q : List Nr × Nat) => (blk t 65 [.slice (some ⟨b2, o2, none⟩) q.1.length r1.2] :: row rnE 62 (.slice (some ⟨b2, o2, none⟩) q.1.length r1.2) q.1 :: H)) (fun k (q : List Nr × Nat) => ∃ x, q.1[q.2]? = some x ∧ SK q.1 ∧ RK q.1 rk ∧ rk x.id ≤ k ∧ kidR q.1 x.id = [] ∧ restN k q.1 x.id = restN 6 L id) 6 (L, i0) (by kernel_rfl) ⟨x0, hi0, hsk, hrk, Nat.le_trans (hrk x0 (List.mem_of_getElem? hi0)).2.2.1 (by omega), hk0, by rw [(gt_mem hg).2]⟩ ?_
        rintro k ⟨M, i⟩ ⟨x, hx, hsM, hrM, hk, hkM, hwk⟩
        simp only at hx hsM hrM hkM hwk
        have hxM := List.mem_of_getElem? hx
        have hpos := hrM.pos hxM
        have hlM := hsM.len
        have hil := (List.getElem?_eq_some_iff.1 hx).1
        have hneM : M ≠ [] := List.ne_nil_of_mem hxM
        refine seqR (by kernel_rfl) ?_
        refine seqR (by kernel_rfl) ?_
        refine regionR 15 (by kernel_rfl) (by kernel_rfl) ?_
        refine (run0 (z := 12) 3 [0, 2, 6, 7, 36] [(0, .pointer (some ⟨t, 0, none⟩)), (2, .bool false), (6, .int .i64 0), (7, .int .i64 (i : Int)), (36, .bool (decide ((i : Int) ≥ 0)))] (fun _ => by kernel_rfl) ?_ : RT _ _ _ _ _ _ 15 _)
        refine (segR (ι := Unit) (z := 0) 12 (fun _ => [(0, .pointer (some ⟨t, 0, none⟩)), (2, .bool false), (6, .int .i64 0), (7, .int .i64 (i : Int)), (48, .bool ((decide ((i : Int) ≥ 0)) && (x.rdy != false)))]) (fun _ => (blk t 65 [.slice (some ⟨b2, o2, none⟩) M.length r1.2] :: row rnE 62 (.slice (some ⟨b2, o2, none⟩) M.length r1.2) M :: H)) ?_ (fun _ => ?_) : RT _ _ _ _ _ _ 12 _)
        · cases hg3 : (decide ((i : Int) ≥ 0)) with
          | true =>
            refine (runR (H := (blk t 65 [.slice (some ⟨b2, o2, none⟩) M.length r1.2] :: row rnE 62 (.slice (some ⟨b2, o2, none⟩) M.length r1.2) M :: H)) (z := 7) 5 [0, 2, 6, 7, 36, 40, 41] [(0, .pointer (some ⟨t, 0, none⟩)), (2, .bool false), (6, .int .i64 0), (7, .int .i64 (i : Int)), (36, .bool true), (40, .slice (some ⟨b2, o2, none⟩) M.length r1.2), (41, .int .i64 (i : Int))] [(⟨t, 0, none⟩, .slice (some ⟨b2, o2, none⟩) M.length r1.2)] (hasC (blkAt (T := 65) (cs := [.slice (some ⟨b2, o2, none⟩) M.length r1.2]) 0 rfl rfl) has0) (fun _ => by kernel_rfl) ?_ : RT _ _ _ _ _ _ 12 _)
            refine (stepR (z := 6) (yldS (idxY 63 (.tmp 40) (.tmp 41) b2 o2 M.length r1.2 i 7 62 (i : Int) .i64 (some 42) (fun _ => by kernel_rfl) (by kernel_rfl) (by kernel_rfl) (fun _ => by kernel_rfl) (fun _ => by kernel_rfl) Tryz.underlying63 (by kernel_rfl) (by first | rfl | assumption | simp) (by first | omega | (simp; done) | (simp; omega) | (simp at *; omega)))) (fun _ => ?_) : RT _ _ _ _ _ _ 7 _)
            refine (runR (H := (blk t 65 [.slice (some ⟨b2, o2, none⟩) M.length r1.2] :: row rnE 62 (.slice (some ⟨b2, o2, none⟩) M.length r1.2) M :: H)) (z := 0) 6 [0, 2, 6, 7, 48] [(0, .pointer (some ⟨t, 0, none⟩)), (2, .bool false), (6, .int .i64 0), (7, .int .i64 (i : Int)), (48, .bool (x.rdy != false))] [(⟨b2, o2 + i * 7 + 5, none⟩, .bool x.rdy)] (hasC (rowCell (E := rnE) (xs := M) 1 rfl (x := x) hx (j := 5) rfl) has0) (fun _ => by kernel_rfl) (endR ?_) : RT _ _ _ _ _ _ 6 _)
            refine PT.keep (L' := [(0, .pointer (some ⟨t, 0, none⟩)), (2, .bool false), (6, .int .i64 0), (7, .int .i64 (i : Int)), (48, .bool (true && (x.rdy != false)))]) [0, 2, 6, 7, 48] rfl ?_
            exact midR () rfl rfl
          | false =>
            refine (run0 (z := 0) 12 [0, 2, 6, 7, 48] [(0, .pointer (some ⟨t, 0, none⟩)), (2, .bool false), (6, .int .i64 0), (7, .int .i64 (i : Int)), (48, .bool false)] (fun _ => by kernel_rfl) (endR ?_) : RT _ _ _ _ _ _ 12 _)
            refine PT.keep (L' := [(0, .pointer (some ⟨t, 0, none⟩)), (2, .bool false), (6, .int .i64 0), (7, .int .i64 (i : Int)), (48, .bool (false && (x.rdy != false)))]) [0, 2, 6, 7, 48] rfl ?_
            exact midR () rfl rfl
        refine endR ?_
        cases hxr : x.rdy with
        | false =>
          rw [show ((decide ((i : Int) ≥ 0)) && (false != false)) = false from by simp]
          refine condR (b := false) (by kernel_rfl) (fun _ => by kernel_rfl) (fun h => by cases h) (fun _ => ?_)
          refine exitR 0 (by kernel_rfl) (by kernel_rfl) ?_
          refine thenX ?_
          refine thenX ?_
          refine leaveR ?_
          refine seqR (by kernel_rfl) ?_
          refine regionR 1 (by kernel_rfl) (by kernel_rfl) ?_
          refine (run0 (z := 0) 1 [6] [(6, .int .i64 0)] (fun _ => by kernel_rfl) (endR ?_) : RT _ _ _ _ _ _ 1 _)
          refine retR (by kernel_rfl) ?_
          have hz : restN k M x.id = M := by cases k with | zero => rfl | succ k => rw [restN, gt_at hsM.nd hx]; simp [hxr]
          refine done0 (.int .i64 0) (fun _ => by kernel_rfl) (fun w hs => ?_) .ret (.inr rfl)
          exact ⟨(), by rw [readyN, hg]; simp [hthr], by rw [readyN, hg]; simp only [hthr, if_true, Bool.false_eq_true, if_false]; rw [← hwk, hz]; exact Sat.closeRt hneM hs⟩
        | true =>
          rw [show ((decide ((i : Int) ≥ 0)) && (true != false)) = true from by simp]
          obtain ⟨k, rfl⟩ : ∃ k', k = k' + 1 := ⟨k - 1, by omega⟩
          cases hp : gt M x.par with
          | none =>
            have hixp : ixL M x.par = -1 := ixL_no (gt_none.1 hp)
            refine condR (b := true) (by kernel_rfl) (fun _ => by kernel_rfl) (fun _ => ?_) (fun h => by cases h)
            refine skipR (by kernel_rfl) ?_
            refine blockR 1 (by kernel_rfl) (by kernel_rfl) ?_
            refine seqR (by kernel_rfl) ?_
            refine regionR 12 (by kernel_rfl) (by kernel_rfl) ?_
            refine (runR (H := (blk t 65 [.slice (some ⟨b2, o2, none⟩) M.length r1.2] :: row rnE 62 (.slice (some ⟨b2, o2, none⟩) M.length r1.2) M :: H)) (z := 6) 6 [0, 2, 6, 7, 49, 53, 54] [(0, .pointer (some ⟨t, 0, none⟩)), (2, .bool false), (6, .int .i64 0), (7, .int .i64 (i : Int)), (49, .pointer (some ⟨t, 0, none⟩)), (53, .slice (some ⟨b2, o2, none⟩) M.length r1.2), (54, .int .i64 (i : Int))] [(⟨t, 0, none⟩, .slice (some ⟨b2, o2, none⟩) M.length r1.2)] (hasC (blkAt (T := 65) (cs := [.slice (some ⟨b2, o2, none⟩) M.length r1.2]) 0 rfl rfl) has0) (fun _ => by kernel_rfl) ?_ : RT _ _ _ _ _ _ 12 _)
            refine (stepR (z := 5) (yldS (idxY 63 (.tmp 53) (.tmp 54) b2 o2 M.length r1.2 i 7 62 (i : Int) .i64 (some 55) (fun _ => by kernel_rfl) (by kernel_rfl) (by kernel_rfl) (fun _ => by kernel_rfl) (fun _ => by kernel_rfl) Tryz.underlying63 (by kernel_rfl) (by first | rfl | assumption | simp) (by first | omega | (simp; done) | (simp; omega) | (simp at *; omega)))) (fun _ => ?_) : RT _ _ _ _ _ _ 6 _)
            refine (runR (H := (blk t 65 [.slice (some ⟨b2, o2, none⟩) M.length r1.2] :: row rnE 62 (.slice (some ⟨b2, o2, none⟩) M.length r1.2) M :: H)) (z := 2) 3 [0, 2, 6, 7, 49, 58] [(0, .pointer (some ⟨t, 0, none⟩)), (2, .bool false), (6, .int .i64 0), (7, .int .i64 (i : Int)), (49, .pointer (some ⟨t, 0, none⟩)), (58, .int .i64 x.par)] [(⟨b2, o2 + i * 7 + 1, none⟩, .int .i64 x.par)] (hasC (rowCell (E := rnE) (xs := M) 1 rfl (x := x) hx (j := 1) rfl) has0) (fun _ => by kernel_rfl) ?_ : RT _ _ _ _ _ _ 5 _)
            refine (stepR (z := 1) (callS 28 [.pointer (some ⟨t, 0, none⟩), .int .i64 x.par] (some 59) (fun _ => .int .i64 (ixL M x.par)) (fun _ => (blk t 65 [.slice (some ⟨b2, o2, none⟩) M.length r1.2] :: row rnE 62 (.slice (some ⟨b2, o2, none⟩) M.length r1.2) M :: H)) (fun _ => by kernel_rfl) (rat_walk H t b2 o2 r1.2 M x.par (by omega))) (fun _ => ?_) : RT _ _ _ _ _ _ 2 _)
            rw [show ixL M x.par = (-1) by exact hixp]
            refine (run0 (z := 0) 1 [0, 2, 6, 7, 8] [(0, .pointer (some ⟨t, 0, none⟩)), (2, .bool false), (6, .int .i64 0), (7, .int .i64 (i : Int)), (8, .int .i64 (-1))] (fun _ => by kernel_rfl) (endR ?_) : RT _ _ _ _ _ _ 1 _)
            refine seqR (by kernel_rfl) ?_
            refine seqR (by kernel_rfl) ?_
            refine regionR 5 (by kernel_rfl) (by kernel_rfl) ?_
            refine (run0 (z := 0) 5 [0, 2, 6, 7, 8, 64] [(0, .pointer (some ⟨t, 0, none⟩)), (2, .bool false), (6, .int .i64 0), (7, .int .i64 (i : Int)), (8, .int .i64 (-1)), (64, .bool false)] (fun _ => by kernel_rfl) (endR ?_) : RT _ _ _ _ _ _ 5 _)
            refine condR (b := false) (by kernel_rfl) (fun _ => by kernel_rfl) (fun h => by cases h) (fun _ => ?_)
            refine skipR (by kernel_rfl) ?_
            refine seqR (by kernel_rfl) ?_
            refine regionR 10 (by kernel_rfl) (by kernel_rfl) ?_
            refine (runR (H := (blk t 65 [.slice (some ⟨b2, o2, none⟩) M.length r1.2] :: row rnE 62 (.slice (some ⟨b2, o2, none⟩) M.length r1.2) M :: H)) (z := 4) 6 [0, 2, 6, 7, 8, 94, 95, 96] [(0, .pointer (some ⟨t, 0, none⟩)), (2, .bool false), (6, .int .i64 0), (7, .int .i64 (i : Int)), (8, .int .i64 (-1)), (94, .slice (some ⟨b2, o2, none⟩) M.length r1.2), (95, .int .i64 (i : Int)), (96, .bool false)] [(⟨t, 0, none⟩, .slice (some ⟨b2, o2, none⟩) M.length r1.2)] (hasC (blkAt (T := 65) (cs := [.slice (some ⟨b2, o2, none⟩) M.length r1.2]) 0 rfl rfl) has0) (fun _ => by kernel_rfl) ?_ : RT _ _ _ _ _ _ 10 _)
            refine (stepR (z := 3) (yldS (idxY 63 (.tmp 94) (.tmp 95) b2 o2 M.length r1.2 i 7 62 (i : Int) .i64 (some 97) (fun _ => by kernel_rfl) (by kernel_rfl) (by kernel_rfl) (fun _ => by kernel_rfl) (fun _ => by kernel_rfl) Tryz.underlying63 (by kernel_rfl) (by first | rfl | assumption | simp) (by first | omega | (simp; done) | (simp; omega) | (simp at *; omega)))) (fun _ => ?_) : RT _ _ _ _ _ _ 4 _)
            refine (run0 (z := 1) 2 [0, 2, 6, 7, 8, 96, 99] [(0, .pointer (some ⟨t, 0, none⟩)), (2, .bool false), (6, .int .i64 0), (7, .int .i64 (i : Int)), (8, .int .i64 (-1)), (96, .bool false), (99, .pointer (some ⟨b2, o2 + i * 7 + 5, none⟩))] (fun _ => by kernel_rfl) ?_ : RT _ _ _ _ _ _ 3 _)
            refine (RT.pick 1 rfl ?_ : RT _ _ _ (blk t 65 [.slice (some ⟨b2, o2, none⟩) M.length r1.2] :: row rnE 62 (.slice (some ⟨b2, o2, none⟩) M.length r1.2) M :: H) _ _ 1 _)
            refine (stepR (z := 0) (setS (E := rnE) (J := i) (j := 5) x (rsF x) (.bool false) ⟨b2, o2 + i * 7 + 5, none⟩ (fun _ => by kernel_rfl) (by first | rfl | simp) (hx) (rfl) (by decide)) (fun _ => ?_) : RT _ _ _ (row rnE 62 (.slice (some ⟨b2, o2, none⟩) M.length r1.2) M :: blk t 65 [.slice (some ⟨b2, o2, none⟩) M.length r1.2] :: H) _ _ 1 _)
            refine endR ?_
            refine seqR (by kernel_rfl) ?_
            refine seqR (by kernel_rfl) ?_
            refine regionR 19 (by kernel_rfl) (by kernel_rfl) ?_
            refine (run0 (z := 0) 19 [0, 2, 6, 7, 8, 118] [(0, .pointer (some ⟨t, 0, none⟩)), (2, .bool false), (6, .int .i64 0), (7, .int .i64 (i : Int)), (8, .int .i64 (-1)), (118, .bool true)] (fun _ => by kernel_rfl) (endR ?_) : RT _ _ _ _ _ _ 19 _)
            refine condR (b := true) (by kernel_rfl) (fun _ => by kernel_rfl) (fun _ => ?_) (fun h => by cases h)
            refine exitR 0 (by kernel_rfl) (by kernel_rfl) ?_
            refine thenX ?_
            refine passR (by decide) ?_
            refine thenX ?_
            refine leaveR ?_
            refine seqR (by kernel_rfl) ?_
            refine regionR 1 (by kernel_rfl) (by kernel_rfl) ?_
            refine (run0 (z := 0) 1 [6] [(6, .int .i64 0)] (fun _ => by kernel_rfl) (endR ?_) : RT _ _ _ _ _ _ 1 _)
            refine retR (by kernel_rfl) ?_
            rw [show M.length = (upN M x.id rsF).length by simp [upN]]
            rw [show (M.set i (rsF x)) = (upN M x.id rsF) by exact set_at hsM.nd hx rsF]
            have hz : restN (k + 1) M x.id = upN M x.id rsF := by rw [restN, gt_at hsM.nd hx]; simp only [hxr, hkM, hp]; simp; rfl
            refine PT.pick 0 rfl ?_
            refine PT.pick 1 rfl ?_
            refine done0 (.int .i64 0) (fun _ => by kernel_rfl) (fun w hs => ?_) .ret (.inr rfl)
            exact ⟨(), by rw [readyN, hg]; simp [hthr], by rw [readyN, hg]; simp only [hthr, if_true, Bool.false_eq_true, if_false]; rw [← hwk, hz]; exact Sat.closeRt (by simp [upN]; exact hneM) hs⟩
          | some p =>
            obtain ⟨j, hj, hixp⟩ := ixL_gt hsM.nd hp
            have hjl := (List.getElem?_eq_some_iff.1 hj).1
            have hpi := (gt_mem hp).2
            have hxp := hsM.ne_par hxM
            have hj2 : (upN M x.id rsF)[j]? = some p := up_at hsM.nd hx hj (by rw [hpi]; exact fun e => hxp e.symm) _
            have hlu : (upN M x.id rsF).length = M.length := by simp [upN]
            have hwk2 : restN (k + 1) M x.id = restN k (upN M x.id rsF) p.id := by rw [restN, gt_at hsM.nd hx]; simp only [hxr, hkM, hp]; simp only [reduceCtorEq, ne_eq, not_true_eq_false, or_self, if_false]; rw [hpi]; rfl
            refine condR (b := true) (by kernel_rfl) (fun _ => by kernel_rfl) (fun _ => ?_) (fun h => by cases h)
            refine skipR (by kernel_rfl) ?_
            refine blockR 1 (by kernel_rfl) (by kernel_rfl) ?_
            refine seqR (by kernel_rfl) ?_
            refine regionR 12 (by kernel_rfl) (by kernel_rfl) ?_
            refine (runR (H := (blk t 65 [.slice (some ⟨b2, o2, none⟩) M.length r1.2] :: row rnE 62 (.slice (some ⟨b2, o2, none⟩) M.length r1.2) M :: H)) (z := 6) 6 [0, 2, 6, 7, 49, 53, 54] [(0, .pointer (some ⟨t, 0, none⟩)), (2, .bool false), (6, .int .i64 0), (7, .int .i64 (i : Int)), (49, .pointer (some ⟨t, 0, none⟩)), (53, .slice (some ⟨b2, o2, none⟩) M.length r1.2), (54, .int .i64 (i : Int))] [(⟨t, 0, none⟩, .slice (some ⟨b2, o2, none⟩) M.length r1.2)] (hasC (blkAt (T := 65) (cs := [.slice (some ⟨b2, o2, none⟩) M.length r1.2]) 0 rfl rfl) has0) (fun _ => by kernel_rfl) ?_ : RT _ _ _ _ _ _ 12 _)
            refine (stepR (z := 5) (yldS (idxY 63 (.tmp 53) (.tmp 54) b2 o2 M.length r1.2 i 7 62 (i : Int) .i64 (some 55) (fun _ => by kernel_rfl) (by kernel_rfl) (by kernel_rfl) (fun _ => by kernel_rfl) (fun _ => by kernel_rfl) Tryz.underlying63 (by kernel_rfl) (by first | rfl | assumption | simp) (by first | omega | (simp; done) | (simp; omega) | (simp at *; omega)))) (fun _ => ?_) : RT _ _ _ _ _ _ 6 _)
            refine (runR (H := (blk t 65 [.slice (some ⟨b2, o2, none⟩) M.length r1.2] :: row rnE 62 (.slice (some ⟨b2, o2, none⟩) M.length r1.2) M :: H)) (z := 2) 3 [0, 2, 6, 7, 49, 58] [(0, .pointer (some ⟨t, 0, none⟩)), (2, .bool false), (6, .int .i64 0), (7, .int .i64 (i : Int)), (49, .pointer (some ⟨t, 0, none⟩)), (58, .int .i64 x.par)] [(⟨b2, o2 + i * 7 + 1, none⟩, .int .i64 x.par)] (hasC (rowCell (E := rnE) (xs := M) 1 rfl (x := x) hx (j := 1) rfl) has0) (fun _ => by kernel_rfl) ?_ : RT _ _ _ _ _ _ 5 _)
            refine (stepR (z := 1) (callS 28 [.pointer (some ⟨t, 0, none⟩), .int .i64 x.par] (some 59) (fun _ => .int .i64 (ixL M x.par)) (fun _ => (blk t 65 [.slice (some ⟨b2, o2, none⟩) M.length r1.2] :: row rnE 62 (.slice (some ⟨b2, o2, none⟩) M.length r1.2) M :: H)) (fun _ => by kernel_rfl) (rat_walk H t b2 o2 r1.2 M x.par (by omega))) (fun _ => ?_) : RT _ _ _ _ _ _ 2 _)
            rw [show ixL M x.par = (j : Int) by exact hixp]
            refine (run0 (z := 0) 1 [0, 2, 6, 7, 8] [(0, .pointer (some ⟨t, 0, none⟩)), (2, .bool false), (6, .int .i64 0), (7, .int .i64 (i : Int)), (8, .int .i64 (j : Int))] (fun _ => by kernel_rfl) (endR ?_) : RT _ _ _ _ _ _ 1 _)
            refine seqR (by kernel_rfl) ?_
            refine seqR (by kernel_rfl) ?_
            refine regionR 5 (by kernel_rfl) (by kernel_rfl) ?_
            refine (run0 (z := 0) 5 [0, 2, 6, 7, 8, 64] [(0, .pointer (some ⟨t, 0, none⟩)), (2, .bool false), (6, .int .i64 0), (7, .int .i64 (i : Int)), (8, .int .i64 (j : Int)), (64, .bool false)] (fun _ => by kernel_rfl) (endR ?_) : RT _ _ _ _ _ _ 5 _)
            refine condR (b := false) (by kernel_rfl) (fun _ => by kernel_rfl) (fun h => by cases h) (fun _ => ?_)
            refine skipR (by kernel_rfl) ?_
            refine seqR (by kernel_rfl) ?_
            refine regionR 10 (by kernel_rfl) (by kernel_rfl) ?_
            refine (runR (H := (blk t 65 [.slice (some ⟨b2, o2, none⟩) M.length r1.2] :: row rnE 62 (.slice (some ⟨b2, o2, none⟩) M.length r1.2) M :: H)) (z := 4) 6 [0, 2, 6, 7, 8, 94, 95, 96] [(0, .pointer (some ⟨t, 0, none⟩)), (2, .bool false), (6, .int .i64 0), (7, .int .i64 (i : Int)), (8, .int .i64 (j : Int)), (94, .slice (some ⟨b2, o2, none⟩) M.length r1.2), (95, .int .i64 (i : Int)), (96, .bool false)] [(⟨t, 0, none⟩, .slice (some ⟨b2, o2, none⟩) M.length r1.2)] (hasC (blkAt (T := 65) (cs := [.slice (some ⟨b2, o2, none⟩) M.length r1.2]) 0 rfl rfl) has0) (fun _ => by kernel_rfl) ?_ : RT _ _ _ _ _ _ 10 _)
            refine (stepR (z := 3) (yldS (idxY 63 (.tmp 94) (.tmp 95) b2 o2 M.length r1.2 i 7 62 (i : Int) .i64 (some 97) (fun _ => by kernel_rfl) (by kernel_rfl) (by kernel_rfl) (fun _ => by kernel_rfl) (fun _ => by kernel_rfl) Tryz.underlying63 (by kernel_rfl) (by first | rfl | assumption | simp) (by first | omega | (simp; done) | (simp; omega) | (simp at *; omega)))) (fun _ => ?_) : RT _ _ _ _ _ _ 4 _)
            refine (run0 (z := 1) 2 [0, 2, 6, 7, 8, 96, 99] [(0, .pointer (some ⟨t, 0, none⟩)), (2, .bool false), (6, .int .i64 0), (7, .int .i64 (i : Int)), (8, .int .i64 (j : Int)), (96, .bool false), (99, .pointer (some ⟨b2, o2 + i * 7 + 5, none⟩))] (fun _ => by kernel_rfl) ?_ : RT _ _ _ _ _ _ 3 _)
            refine (RT.pick 1 rfl ?_ : RT _ _ _ (blk t 65 [.slice (some ⟨b2, o2, none⟩) M.length r1.2] :: row rnE 62 (.slice (some ⟨b2, o2, none⟩) M.length r1.2) M :: H) _ _ 1 _)
            refine (stepR (z := 0) (setS (E := rnE) (J := i) (j := 5) x (rsF x) (.bool false) ⟨b2, o2 + i * 7 + 5, none⟩ (fun _ => by kernel_rfl) (by first | rfl | simp) (hx) (rfl) (by decide)) (fun _ => ?_) : RT _ _ _ (row rnE 62 (.slice (some ⟨b2, o2, none⟩) M.length r1.2) M :: blk t 65 [.slice (some ⟨b2, o2, none⟩) M.length r1.2] :: H) _ _ 1 _)
            rw [show M.length = (upN M x.id rsF).length by simp [upN]]
            rw [show (M.set i (rsF x)) = (upN M x.id rsF) by exact set_at hsM.nd hx rsF]
            refine endR ?_
            refine PT.pick 0 rfl ?_
            refine PT.pick 1 rfl ?_
            refine seqR (by kernel_rfl) ?_
            refine seqR (by kernel_rfl) ?_
            refine regionR 19 (by kernel_rfl) (by kernel_rfl) ?_
            refine (run0 (z := 16) 3 [0, 2, 6, 7, 8, 102] [(0, .pointer (some ⟨t, 0, none⟩)), (2, .bool false), (6, .int .i64 0), (7, .int .i64 (i : Int)), (8, .int .i64 (j : Int)), (102, .bool (decide ((j : Int) < 0)))] (fun _ => by kernel_rfl) ?_ : RT _ _ _ _ _ _ 19 _)
            rw [show (decide ((j : Int) < 0)) = false from by first | exact decide_eq_false (by omega) | (simp; done) | (simp; omega)]
            refine (runR (H := (blk t 65 [.slice (some ⟨b2, o2, none⟩) ((upN M x.id rsF).length) r1.2] :: row rnE 62 (.slice (some ⟨b2, o2, none⟩) ((upN M x.id rsF).length) r1.2) (upN M x.id rsF) :: H)) (z := 7) 9 [0, 2, 6, 7, 8, 102, 105, 106, 110, 111] [(0, .pointer (some ⟨t, 0, none⟩)), (2, .bool false), (6, .int .i64 0), (7, .int .i64 (i : Int)), (8, .int .i64 (j : Int)), (102, .bool false), (105, .bool true), (106, .pointer (some ⟨t, 0, none⟩)), (110, .slice (some ⟨b2, o2, none⟩) ((upN M x.id rsF).length) r1.2), (111, .int .i64 (j : Int))] [(⟨t, 0, none⟩, .slice (some ⟨b2, o2, none⟩) ((upN M x.id rsF).length) r1.2)] (hasC (blkAt (T := 65) (cs := [.slice (some ⟨b2, o2, none⟩) ((upN M x.id rsF).length) r1.2]) 0 rfl rfl) has0) (fun _ => by kernel_rfl) ?_ : RT _ _ _ _ _ _ 16 _)
            refine (stepR (z := 6) (yldS (idxY 63 (.tmp 110) (.tmp 111) b2 o2 ((upN M x.id rsF).length) r1.2 j 7 62 (j : Int) .i64 (some 112) (fun _ => by kernel_rfl) (by kernel_rfl) (by kernel_rfl) (fun _ => by kernel_rfl) (fun _ => by kernel_rfl) Tryz.underlying63 (by kernel_rfl) (by first | rfl | assumption | simp) (by first | omega | (simp; done) | (simp; omega) | (simp at *; omega)))) (fun _ => ?_) : RT _ _ _ _ _ _ 7 _)
            refine (runR (H := (blk t 65 [.slice (some ⟨b2, o2, none⟩) ((upN M x.id rsF).length) r1.2] :: row rnE 62 (.slice (some ⟨b2, o2, none⟩) ((upN M x.id rsF).length) r1.2) (upN M x.id rsF) :: H)) (z := 3) 3 [0, 2, 6, 7, 8, 102, 105, 106, 115] [(0, .pointer (some ⟨t, 0, none⟩)), (2, .bool false), (6, .int .i64 0), (7, .int .i64 (i : Int)), (8, .int .i64 (j : Int)), (102, .bool false), (105, .bool true), (106, .pointer (some ⟨t, 0, none⟩)), (115, .int .i64 p.id)] [(⟨b2, o2 + j * 7, none⟩, .int .i64 p.id)] (hasC (rowCell (E := rnE) (xs := upN M x.id rsF) 1 rfl (x := p) hj2 (j := 0) rfl) has0) (fun _ => by kernel_rfl) ?_ : RT _ _ _ _ _ _ 6 _)
            refine (stepR (z := 2) (callS 33 [.pointer (some ⟨t, 0, none⟩), .int .i64 p.id] (some 116) (fun _ => .bool ((upN M x.id rsF).any fun x => x.par == p.id && x.rdy)) (fun _ => (blk t 65 [.slice (some ⟨b2, o2, none⟩) ((upN M x.id rsF).length) r1.2] :: row rnE 62 (.slice (some ⟨b2, o2, none⟩) ((upN M x.id rsF).length) r1.2) (upN M x.id rsF) :: H)) (fun _ => by kernel_rfl) (rsome_walk H t b2 o2 r1.2 (upN M x.id rsF) p.id (by simp [upN]; omega))) (fun _ => ?_) : RT _ _ _ _ _ _ 3 _)
            refine (run0 (z := 0) 2 [0, 2, 6, 7, 8, 118] [(0, .pointer (some ⟨t, 0, none⟩)), (2, .bool false), (6, .int .i64 0), (7, .int .i64 (i : Int)), (8, .int .i64 (j : Int)), (118, .bool ((upN M x.id rsF).any fun x => x.par == p.id && x.rdy))] (fun _ => by kernel_rfl) (endR ?_) : RT _ _ _ _ _ _ 2 _)
            refine condR (b := (upN M x.id rsF).any fun x => x.par == p.id && x.rdy) (by kernel_rfl) (fun _ => by kernel_rfl) (fun h9 => ?_) (fun h9 => ?_)
            · skip
              have h9 := any_kid.1 h9
              have hz : restN k (upN M x.id rsF) p.id = upN M x.id rsF := by cases k with | zero => rfl | succ k => rw [restN, gt_at (hsM.upN rsF_skel).nd hj2]; simp [h9]
              refine exitR 0 (by kernel_rfl) (by kernel_rfl) ?_
              refine thenX ?_
              refine passR (by decide) ?_
              refine thenX ?_
              refine leaveR ?_
              refine seqR (by kernel_rfl) ?_
              refine regionR 1 (by kernel_rfl) (by kernel_rfl) ?_
              refine (run0 (z := 0) 1 [6] [(6, .int .i64 0)] (fun _ => by kernel_rfl) (endR ?_) : RT _ _ _ _ _ _ 1 _)
              refine retR (by kernel_rfl) ?_
              refine done0 (.int .i64 0) (fun _ => by kernel_rfl) (fun w hs => ?_) .ret (.inr rfl)
              exact ⟨(), by rw [readyN, hg]; simp [hthr], by rw [readyN, hg]; simp only [hthr, if_true, Bool.false_eq_true, if_false]; rw [← hwk, hwk2, hz]; exact Sat.closeRt (by simp [upN]; exact hneM) hs⟩
            · skip
              have h9 : kidR (upN M x.id rsF) p.id = [] := Classical.byContradiction fun c => by rw [any_kid.2 c] at h9; cases h9
              refine skipR (by kernel_rfl) ?_
              refine regionR 2 (by kernel_rfl) (by kernel_rfl) ?_
              refine (run0 (z := 0) 2 [0, 2, 6, 7] [(0, .pointer (some ⟨t, 0, none⟩)), (2, .bool false), (6, .int .i64 0), (7, .int .i64 (j : Int))] (fun _ => by kernel_rfl) (endR ?_) : RT _ _ _ _ _ _ 2 _)
              refine PT.keep (L' := [(0, .pointer (some ⟨t, 0, none⟩)), (2, .bool false), (6, .int .i64 0), (7, .int .i64 (j : Int))]) [0, 2, 6, 7] rfl ?_
              exact againG k (upN M x.id rsF, j) rfl rfl (by omega) ⟨p, hj2, hsM.upN rsF_skel, hrM.ups rsF_skel, by have := RK.up hsM hrM hxM (gt_mem hp).1 hpi; omega, h9, by rw [← hwk2, hwk]⟩
end Go.Proofs.YtjbjngikaiggdaaGreatDoor
