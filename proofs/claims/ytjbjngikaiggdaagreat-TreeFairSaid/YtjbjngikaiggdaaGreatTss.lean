/- A tree as one part of memory: its operations. Conditions: none. -/
import Derived.Test.YtjbjngikaiggdaaGreatTt
set_option linter.unusedVariables false
set_option linter.unusedSimpArgs false
namespace Go.Proofs.YtjbjngikaiggdaaGreat
open Go.RowKit G
namespace G
/-- Several parts as one. -/
def manyS : List SP → SP
  | [] => pureS True
  | P :: l => two P (manyS l)
theorem Sat.openMany : ∀ {l H : List SP} {w : World}, Sat w (manyS l :: H) → Sat w (l ++ H)
  | [], _, _, h => (Sat.openPure h).2
  | P :: l, H, w, h => Sat.perm (List.perm_middle (a := P) (l₁ := l) (l₂ := H)) (Sat.openMany (l := l) (H := P :: H) (Sat.perm (List.Perm.swap _ _ _) (Sat.openTwo h)))
theorem Sat.closeMany : ∀ {l H : List SP} {w : World}, Sat w (l ++ H) → Sat w (manyS l :: H)
  | [], _, _, h => Sat.closePure trivial h
  | P :: l, H, w, h => Sat.closeTwo (Sat.perm (List.Perm.swap _ _ _) (Sat.closeMany (l := l) (H := P :: H) (Sat.perm (List.perm_middle (a := P) (l₁ := l) (l₂ := H)).symm h)))
end G
/-- A tree at t, whose nodes are N. -/
def treeS (t : Nat) (N : List Nr) : SP := exS fun p : Nat × List Nd => two (pureS (OkT N p.2 ∧ WFN N)) (manyS (blk t 57 [.map (some p.1)] :: mapS p.1 (p.2.map kp) :: nodesL p.2))
theorem Sat.openTree {t : Nat} {N : List Nr} {H : List SP} {w : World} (h : Sat w (treeS t N :: H)) : ∃ mb T, OkT N T ∧ WFN N ∧ Sat w (blk t 57 [.map (some mb)] :: mapS mb (T.map kp) :: (nodesL T ++ H)) := by
  obtain ⟨⟨mb, T⟩, h⟩ := Sat.openEx h
  obtain ⟨⟨hT, hw⟩, h⟩ := Sat.openPure (Sat.openTwo h)
  exact ⟨mb, T, hT, hw, Sat.openMany h⟩
theorem Sat.closeTree {t mb : Nat} {N : List Nr} {T : List Nd} {H : List SP} {w : World} (hT : OkT N T) (hw : WFN N) (h : Sat w (blk t 57 [.map (some mb)] :: mapS mb (T.map kp) :: (nodesL T ++ H))) : Sat w (treeS t N :: H) :=
  Sat.closeEx (mb, T) (Sat.closeTwo (Sat.closePure ⟨hT, hw⟩ (Sat.closeMany (l := blk t 57 [.map (some mb)] :: mapS mb (T.map kp) :: nodesL T) h)))
theorem treeAt {t : Nat} {N : List Nr} {H : List SP} (i : Nat) (hi : H[i]? = some (treeS t N)) : ∀ w, Sat w H → WFN N := fun w hs => by
  obtain ⟨_, _, _, h, _⟩ := Sat.openTree (Sat.pick i hi hs)
  exact h
theorem rowCell {α : Type} {E : Enc α} {T : TypeId} {H : List SP} (i : Nat) {b o m k : Nat} {xs : List α} (hi : H[i]? = some (row E T (.slice (some ⟨b, o, none⟩) m k) xs)) {J j : Nat} {x : α} {u : Value} (hx : xs[J]? = some x) (hu : (E.enc x)[j]? = some u) : ∀ w, Sat w H → w.cell? ⟨b, o + J * E.k + j, none⟩ = some u := by
  intro w hs
  obtain ⟨G, hG⟩ := (Sat.pick i hi hs).head
  have hme : m = xs.length := hG.lenEq
  subst hme
  exact (rowKRat (A := some ⟨b, o, none⟩) (k := k) (E := E) (T := T) (xs := xs) i hi).cell rfl hx hu w hs
section
variable (H : List SP) (t : Nat) (N : List Nr)
theorem trNew : ∀ w, Sat w H → Calls Tryz.prog 6 #[] w (Ret (ι := Nat) (fun t => .pointer (some ⟨t, 0, none⟩)) fun t => treeS t [rootN] :: H) := fun w hs =>
  (tnew_walk H w hs).mono fun e w' ⟨x, he, hx⟩ => ⟨x.1, he, Sat.closeTree (root_ok x.2.2.1 x.2.2.2) root_wf hx⟩
theorem trAdd (par id wt : Int) (thr : Bool) : ∀ w, Sat w (treeS t N :: H) → Calls Tryz.prog 7 #[.pointer (some ⟨t, 0, none⟩), .int .i64 par, .int .i64 id, .int .i64 wt, .bool thr] w (Ret (ι := Unit) (fun _ => pqErr (addN N par id wt thr).1) fun _ => treeS t (addN N par id wt thr).2 :: H) := fun w hs => by
  obtain ⟨mb, T, hT, hw, hs⟩ := Sat.openTree hs
  exact (add_walk hT hw.sk H t mb par id wt thr w hs).mono fun e w' ⟨⟨T', hT'⟩, he, hx⟩ => ⟨(), he, Sat.closeTree hT' (add_wf hw par id wt thr) hx⟩
theorem trReady (id : Int) (r : Bool) : ∀ w, Sat w (treeS t N :: H) → Calls Tryz.prog 8 #[.pointer (some ⟨t, 0, none⟩), .int .i64 id, .bool r] w (Ret (ι := Unit) (fun _ => pqErr (readyN N id r).1) fun _ => treeS t (readyN N id r).2 :: H) := fun w hs => by
  obtain ⟨mb, T, hT, hw, hs⟩ := Sat.openTree hs
  exact (ready_walk hT hw.sk hw.lb H t mb id r w hs).mono fun e w' ⟨⟨T', hT', _⟩, he, hx⟩ => ⟨(), he, Sat.closeTree hT' (ready_wf hw id r) hx⟩
theorem trWeight (id W : Int) : ∀ w, Sat w (treeS t N :: H) → Calls Tryz.prog 9 #[.pointer (some ⟨t, 0, none⟩), .int .i64 id, .int .i64 W] w (Ret (ι := Unit) (fun _ => pqErr (weightN N id W).1) fun _ => treeS t (weightN N id W).2 :: H) := fun w hs => by
  obtain ⟨mb, T, hT, hw, hs⟩ := Sat.openTree hs
  exact (weight_walk hT hw H t mb id W w hs).mono fun e w' ⟨⟨T', hT', _⟩, he, hx⟩ => ⟨(), he, Sat.closeTree hT' (weight_wf hw id W) hx⟩
theorem trRemove (id : Int) : ∀ w, Sat w (treeS t N :: H) → Calls Tryz.prog 13 #[.pointer (some ⟨t, 0, none⟩), .int .i64 id] w (Ret (ι := Unit) (fun _ => pqErr (removeN N id).1) fun _ => treeS t (removeN N id).2 :: H) := fun w hs => by
  obtain ⟨mb, T, hT, hw, hs⟩ := Sat.openTree hs
  exact (remove_walk hT hw.sk hw.lb H t mb id w hs).mono fun e w' ⟨⟨T', hT'⟩, he, hx⟩ => ⟨(), he, Sat.closeTree hT' (remove_wf hw id) hx⟩
theorem trRun : ∀ w, Sat w (treeS t N :: H) → Calls Tryz.prog 10 #[.pointer (some ⟨t, 0, none⟩)] w (Ret (ι := Unit) (fun _ => .tuple #[.int .i64 (runN N).1.1, .bool (runN N).1.2]) fun _ => treeS t (runN N).2 :: H) := fun w hs => by
  obtain ⟨mb, T, hT, hw, hs⟩ := Sat.openTree hs
  exact (run_walk hT hw H t mb w hs).mono fun e w' ⟨⟨T', hT', _⟩, he, hx⟩ => ⟨(), he, Sat.closeTree hT' (run_wf hw) hx⟩
theorem trNodes (hid : ∀ x ∈ N, x.id ≤ 9223372036854775807) : ∀ w, Sat w (treeS t N :: H) → Calls Tryz.prog 15 #[.pointer (some ⟨t, 0, none⟩)] w (Ret (ι := Option Addr × Nat) (fun x => .slice x.1 (nodesN N).length x.2) fun x => row nE 41 (.slice x.1 (nodesN N).length x.2) (nodesN N) :: treeS t N :: H) := fun w hs => by
  obtain ⟨mb, T, hT, hw, hs⟩ := Sat.openTree hs
  refine (nodes_walk hT hw.sk hid H t mb w hs).mono fun e w' ⟨x, he, hx⟩ => ⟨x, he, ?_⟩
  have h1 := Sat.perm (List.perm_middle (a := row nE 41 (.slice x.1 (nodesN N).length x.2) (nodesN N)) (l₁ := blk t 57 [.map (some mb)] :: mapS mb (T.map kp) :: nodesL T) (l₂ := H)).symm hx
  exact Sat.perm (List.Perm.swap _ _ _) (Sat.closeTree hT hw h1)
theorem trDeep (id : Int) : ∀ w, Sat w (treeS t N :: H) → Calls Tryz.prog 16 #[.pointer (some ⟨t, 0, none⟩), .int .i64 id] w (Ret (ι := Unit) (fun _ => .int .i64 (deepN 6 N id : Int)) fun _ => treeS t N :: H) := fun w hs => by
  obtain ⟨mb, T, hT, hw, hs⟩ := Sat.openTree hs
  exact (deep_walk hT hw.sk H t mb id w hs).mono fun e w' ⟨_, he, hx⟩ => ⟨(), he, Sat.closeTree hT hw hx⟩
theorem trNode (id : Int) : ∀ w, Sat w (treeS t N :: H) → Calls Tryz.prog 12 #[.pointer (some ⟨t, 0, none⟩), .int .i64 id] w (Ret (ι := Unit) (fun _ => .tuple #[ndV ((gt N id).getD zeroN), .bool (gt N id).isSome]) fun _ => treeS t N :: H) := fun w hs => by
  obtain ⟨mb, T, hT, hw, hs⟩ := Sat.openTree hs
  exact (node_walk hT hw.sk.nd H t mb id w hs).mono fun e w' ⟨_, he, hx⟩ => ⟨(), he, Sat.closeTree hT hw hx⟩
end
section
variable {N N' : List Nr} (H : List SP) (t : Nat)
theorem trAdd_ok {par id wt : Int} {thr : Bool} (h : addN N par id wt thr = (0, N')) : ∀ w, Sat w (treeS t N :: H) → Calls Tryz.prog 7 #[.pointer (some ⟨t, 0, none⟩), .int .i64 par, .int .i64 id, .int .i64 wt, .bool thr] w (Ret (ι := Unit) (fun _ => .nilIface) fun _ => treeS t N' :: H) := by
  have := trAdd H t N par id wt thr; rw [h] at this; exact this
theorem trAdd_no {par id wt : Int} {thr : Bool} {e : Int} (h : addN N par id wt thr = (e, N')) (he : e ≠ 0) : ∀ w, Sat w (treeS t N :: H) → Calls Tryz.prog 7 #[.pointer (some ⟨t, 0, none⟩), .int .i64 par, .int .i64 id, .int .i64 wt, .bool thr] w (Ret (ι := Unit) (fun _ => .iface 46 (.int .i64 e)) fun _ => treeS t N' :: H) := by
  have := trAdd H t N par id wt thr; rw [h] at this; simp only [pqErr, if_neg he] at this; exact this
theorem trReady_ok {id : Int} {r : Bool} (h : readyN N id r = (0, N')) : ∀ w, Sat w (treeS t N :: H) → Calls Tryz.prog 8 #[.pointer (some ⟨t, 0, none⟩), .int .i64 id, .bool r] w (Ret (ι := Unit) (fun _ => .nilIface) fun _ => treeS t N' :: H) := by
  have := trReady H t N id r; rw [h] at this; exact this
theorem trReady_no {id : Int} {r : Bool} {e : Int} (h : readyN N id r = (e, N')) (he : e ≠ 0) : ∀ w, Sat w (treeS t N :: H) → Calls Tryz.prog 8 #[.pointer (some ⟨t, 0, none⟩), .int .i64 id, .bool r] w (Ret (ι := Unit) (fun _ => .iface 46 (.int .i64 e)) fun _ => treeS t N' :: H) := by
  have := trReady H t N id r; rw [h] at this; simp only [pqErr, if_neg he] at this; exact this
theorem trWeight_ok {id W : Int} (h : weightN N id W = (0, N')) : ∀ w, Sat w (treeS t N :: H) → Calls Tryz.prog 9 #[.pointer (some ⟨t, 0, none⟩), .int .i64 id, .int .i64 W] w (Ret (ι := Unit) (fun _ => .nilIface) fun _ => treeS t N' :: H) := by
  have := trWeight H t N id W; rw [h] at this; exact this
theorem trRun_is {z : Int × Bool} (h : runN N = (z, N')) : ∀ w, Sat w (treeS t N :: H) → Calls Tryz.prog 10 #[.pointer (some ⟨t, 0, none⟩)] w (Ret (ι := Unit) (fun _ => .tuple #[.int .i64 z.1, .bool z.2]) fun _ => treeS t N' :: H) := by
  have := trRun H t N; rw [h] at this; exact this
end
end Go.Proofs.YtjbjngikaiggdaaGreat
