/- TreeWithin: its walk. Conditions: none. -/
import Derived.Test.YtjbjngikaiggdaaTwb
import Derived.Test.YtjbjngikaiggdaaTfr
import Derived.Test.YtjbjngikaiggdaaTy1
set_option linter.unusedVariables false
set_option linter.unusedSimpArgs false
namespace Go.Proofs.Ytjbjngikaiggdaa
open Go.RowKit G
def s7E : Enc (Int × Int × Int × Int × Bool) := prE (kE .i64) (prE (kE .i64) (prE (kE .i64) (prE (kE .i64) boE)))
theorem step_opens (W : World) : Opens Try.prog W 49 s7E (fun x => x.2.1 ≤ 9223372036854775807) :=
  (Opens.struct Try.underlying49 (by kernel_rfl) (OpensFs.cons rfl (Opens.int (k := .i64) Try.underlying3 (by kernel_rfl)) (OpensFs.cons rfl (Opens.int (k := .i64) Try.underlying3 (by kernel_rfl)) (OpensFs.cons rfl (Opens.int (k := .i64) Try.underlying3 (by kernel_rfl)) (OpensFs.cons rfl (Opens.int (k := .i64) Try.underlying3 (by kernel_rfl)) (OpensFs.one rfl (Opens.bool Try.underlying4 (by kernel_rfl)))))))).mono (fun x h => (wf_bounds h.2.1).2)
set_option maxHeartbeats 1000000 in
set_option maxRecDepth 100000 in
theorem within7_walk (H : List SP) (s : SV (Int × Int × Int × Int × Bool)) (hk : KR H s7E s) (hids : ∀ x ∈ s.l, x.2.1 ≤ 9223372036854775807) : ∀ w, Sat w H → Calls Try.prog 8 #[.slice s.a s.l.length s.c] w (Ret (ι := Unit) (fun _ => .bool true) fun _ => H) := by
  refine enterG (fn := Try.f8) 154 [.slice s.a s.l.length s.c] Try.func8 (by kernel_rfl) (by kernel_rfl) (by kernel_rfl) ?_
  refine seqR (by kernel_rfl) ?_
  refine regionR 1 (by kernel_rfl) (by kernel_rfl) ?_
  refine (run0 (z := 0) 1 [0, 2] [(0, .slice s.a s.l.length s.c), (2, .bool false)] (fun _ => by kernel_rfl) (endR ?_) : RT _ _ _ _ _ _ 1 _)
  refine seqR (by kernel_rfl) ?_
  refine seqR (by kernel_rfl) ?_
  refine regionR 2 (by kernel_rfl) (by kernel_rfl) ?_
  refine (stepR (z := 1) (callS 9 [] (some 10) (fun _ => .bool true) (fun (_ : Unit) => (H)) (fun _ => by kernel_rfl) (known_true _)) (fun _ => ?_) : RT _ _ _ _ _ _ 2 _)
  refine (run0 (z := 0) 1 [0, 2, 11] [(0, .slice s.a s.l.length s.c), (2, .bool false), (11, .bool false)] (fun _ => by kernel_rfl) (endR ?_) : RT _ _ _ _ _ _ 1 _)
  refine condR (b := false) (by kernel_rfl) (fun _ => by kernel_rfl) (fun h => by cases h) (fun _ => ?_)
  refine skipR (by kernel_rfl) ?_
  refine seqR (by kernel_rfl) ?_
  refine seqR (by kernel_rfl) ?_
  refine regionR 3 (by kernel_rfl) (by kernel_rfl) ?_
  refine (run0 (z := 0) 3 [0, 2, 14] [(0, .slice s.a s.l.length s.c), (2, .bool false), (14, .bool (decide ((s.l.length : Int) > 90)))] (fun _ => by kernel_rfl) (endR ?_) : RT _ _ _ _ _ _ 3 _)
  refine condR (b := decide ((s.l.length : Int) > 90)) (by kernel_rfl) (fun _ => by kernel_rfl) (fun h0 => ?_) (fun h0 => ?_)
  · skip
    refine seqR (by kernel_rfl) ?_
    refine regionR 1 (by kernel_rfl) (by kernel_rfl) ?_
    refine (run0 (z := 0) 1 [0, 2] [(0, .slice s.a s.l.length s.c), (2, .bool true)] (fun _ => by kernel_rfl) (endR ?_) : RT _ _ _ _ _ _ 1 _)
    refine retR (by kernel_rfl) ?_
    refine thenV ?_
    refine done0 (.bool true) (fun _ => by kernel_rfl) (fun w hs => ?_) .ret (.inr rfl)
    exact ⟨(), rfl, hs⟩
  · skip
    have hl : s.l.length ≤ 90 := by have := of_decide_eq_false h0; omega
    refine skipR (by kernel_rfl) ?_
    refine seqR (by kernel_rfl) ?_
    refine regionR 2 (by kernel_rfl) (by kernel_rfl) ?_
    refine (stepR (z := 1) (callS 10 [] (some 15) (fun (t : Nat) => .pointer (some ⟨t, 0, none⟩)) (fun (t : Nat) => (treeS t [rootN] :: H)) (fun _ => by kernel_rfl) (trNew _)) (fun (t : Nat) => ?_) : RT _ _ _ _ _ _ 2 _)
    refine (run0 (z := 0) 1 [0, 2, 3] [(0, .slice s.a s.l.length s.c), (2, .bool false), (3, .pointer (some ⟨t, 0, none⟩))] (fun _ => by kernel_rfl) (endR ?_) : RT _ _ _ _ _ _ 1 _)
    refine seqR (by kernel_rfl) ?_
    refine seqR (by kernel_rfl) ?_
    refine regionR 1 (by kernel_rfl) (by kernel_rfl) ?_
    refine (run0 (z := 0) 1 [0, 2, 3, 4] [(0, .slice s.a s.l.length s.c), (2, .bool false), (3, .pointer (some ⟨t, 0, none⟩)), (4, .int .i64 0)] (fun _ => by kernel_rfl) (endR ?_) : RT _ _ _ _ _ _ 1 _)
    refine blockR 0 (by kernel_rfl) (by kernel_rfl) ?_
    refine PT.keep (L' := [(0, .slice s.a s.l.length s.c), (3, .pointer (some ⟨t, 0, none⟩)), (4, .int .i64 0)]) [0, 3, 4] rfl ?_
    refine loopG (fun (q : List Nr × Nat) => [(0, .slice s.a s.l.length s.c), (3, .pointer (some ⟨t, 0, none⟩)), (4, .int .i64 (q.2 : Int))]) (fun (q : List Nr × Nat) => (treeS t q.1 :: H)) (fun k (q : List Nr × Nat) => k + q.2 = s.l.length ∧ IdB q.1 ∧ WFN q.1) s.l.length ([rootN], 0) (by kernel_rfl) ⟨by simp, fun x hx => by simp at hx; subst hx; decide, root_wf⟩ ?_
    rintro k ⟨N, u⟩ ⟨hku, hid, hw⟩
    simp only at hku hid hw
    refine seqR (by kernel_rfl) ?_
    refine seqR (by kernel_rfl) ?_
    refine regionR 4 (by kernel_rfl) (by kernel_rfl) ?_
    refine (run0 (z := 0) 4 [0, 3, 4, 19] [(0, .slice s.a s.l.length s.c), (3, .pointer (some ⟨t, 0, none⟩)), (4, .int .i64 (u : Int)), (19, .bool (decide ((u : Int) < (s.l.length : Int))))] (fun _ => by kernel_rfl) (endR ?_) : RT _ _ _ _ _ _ 4 _)
    refine condR (b := decide ((u : Int) < (s.l.length : Int))) (by kernel_rfl) (fun _ => by kernel_rfl) (fun h1 => ?_) (fun h1 => ?_)
    · skip
      have hu : u < s.l.length := by have := of_decide_eq_true h1; omega
      obtain ⟨⟨zw, zi, za, zb, zt⟩, hz⟩ : ∃ v, s.l[u]? = some v := ⟨_, List.getElem?_eq_getElem hu⟩
      have hzi := hids _ (List.mem_of_getElem? hz)
      simp only at hzi
      refine PT.know ((hk).up.isSome (List.ne_nil_of_length_pos (by omega))) ?_
      rintro ⟨sb, so, hA'⟩
      try rw [hA']
      refine skipR (by kernel_rfl) ?_
      refine seqR (by kernel_rfl) ?_
      refine blockR 1 (by kernel_rfl) (by kernel_rfl) ?_
      refine seqR (by kernel_rfl) ?_
      refine regionR 6 (by kernel_rfl) (by kernel_rfl) ?_
      refine (run0 (z := 4) 2 [0, 3, 4, 22, 23] [(0, .slice (some ⟨sb, so, none⟩) s.l.length s.c), (3, .pointer (some ⟨t, 0, none⟩)), (4, .int .i64 (u : Int)), (22, .slice (some ⟨sb, so, none⟩) s.l.length s.c), (23, .int .i64 (u : Int))] (fun _ => by kernel_rfl) ?_ : RT _ _ _ _ _ _ 6 _)
      refine (stepR (z := 3) (yldS (idxY 47 (.tmp 22) (.tmp 23) sb so s.l.length s.c u 5 49 (u : Int) .i64 (some 24) (fun _ => by kernel_rfl) (by kernel_rfl) (by kernel_rfl) (fun _ => by kernel_rfl) (fun _ => by kernel_rfl) Try.underlying47 (by kernel_rfl) (by first | rfl | assumption | simp) (by first | omega | (simp; done) | (simp; omega) | (simp at *; omega)))) (fun _ => ?_) : RT _ _ _ _ _ _ 4 _)
      refine (runR (H := (treeS t N :: H)) (z := 2) 1 [0, 3, 4, 25] [(0, .slice (some ⟨sb, so, none⟩) s.l.length s.c), (3, .pointer (some ⟨t, 0, none⟩)), (4, .int .i64 (u : Int)), (25, .agg #[.int .i64 zw, .int .i64 zi, .int .i64 za, .int .i64 zb, .bool zt])] [(⟨sb, so + u * 5, none⟩, .int .i64 zw), (⟨sb, so + u * 5 + 1, none⟩, .int .i64 zi), (⟨sb, so + u * 5 + 2, none⟩, .int .i64 za), (⟨sb, so + u * 5 + 3, none⟩, .int .i64 zb), (⟨sb, so + u * 5 + 4, none⟩, .bool zt)] (hasC (up (hk.cell hA' (i := u) (x := (zw, zi, za, zb, zt)) hz (j := 0) rfl)) (hasC (up (hk.cell hA' (i := u) (x := (zw, zi, za, zb, zt)) hz (j := 1) rfl)) (hasC (up (hk.cell hA' (i := u) (x := (zw, zi, za, zb, zt)) hz (j := 2) rfl)) (hasC (up (hk.cell hA' (i := u) (x := (zw, zi, za, zb, zt)) hz (j := 3) rfl)) (hasC (up (hk.cell hA' (i := u) (x := (zw, zi, za, zb, zt)) hz (j := 4) rfl)) has0))))) (fun _ => by kernel_rfl) ?_ : RT _ _ _ _ _ _ 3 _)
      refine (stepR (z := 1) (newS 49 [.int .i64 0, .int .i64 0, .int .i64 0, .int .i64 0, .bool false] (some 5) (fun b => .pointer (some ⟨b, 0, none⟩)) (fun _ _ => by kernel_rfl)) (fun b1 => ?_) : RT _ _ _ _ _ _ 2 _)
      refine (stepR (z := 0) (storeS [(0, .int .i64 zw), (1, .int .i64 zi), (2, .int .i64 za), (3, .int .i64 zb), (4, .bool zt)] [.int .i64 zw, .int .i64 zi, .int .i64 za, .int .i64 zb, .bool zt] (fun _ => by kernel_rfl) (by kernel_rfl) (by kernel_rfl)) (fun _ => ?_) : RT _ _ _ _ _ _ 1 _)
      refine endR ?_
      try rw [← hA']
      refine seqR (by kernel_rfl) ?_
      refine joinR (fun (Nq : { N' : List Nr // IdB N' ∧ WFN N' }) => [(0, .slice s.a s.l.length s.c), (3, .pointer (some ⟨t, 0, none⟩)), (4, .int .i64 (u : Int)), (5, .pointer (some ⟨b1, 0, none⟩))]) (fun (Nq : { N' : List Nr // IdB N' ∧ WFN N' }) => (blk b1 49 [.int .i64 zw, .int .i64 zi, .int .i64 za, .int .i64 zb, .bool zt] :: treeS t Nq.1 :: H)) ?_ (fun Nq => ?_)
      · skip
        refine blockR 2 (by kernel_rfl) (by kernel_rfl) ?_
        refine seqR (by kernel_rfl) ?_
        refine regionR 4 (by kernel_rfl) (by kernel_rfl) ?_
        refine (runR (H := (blk b1 49 [.int .i64 zw, .int .i64 zi, .int .i64 za, .int .i64 zb, .bool zt] :: treeS t N :: H)) (z := 0) 4 [5, 0, 3, 4, 28] [(5, .pointer (some ⟨b1, 0, none⟩)), (0, .slice s.a s.l.length s.c), (3, .pointer (some ⟨t, 0, none⟩)), (4, .int .i64 (u : Int)), (28, .bool (decide (zw ≤ 1)))] [(⟨b1, 0, none⟩, .int .i64 zw)] (hasC (blkAt (T := 49) (cs := [.int .i64 zw, .int .i64 zi, .int .i64 za, .int .i64 zb, .bool zt]) 0 rfl rfl) has0) (fun _ => by kernel_rfl) (endR ?_) : RT _ _ _ _ _ _ 4 _)
        refine condR (b := decide (zw ≤ 1)) (by kernel_rfl) (fun _ => by kernel_rfl) (fun c1 => ?_) (fun c1 => ?_)
        · skip
          refine regionR 10 (by kernel_rfl) (by kernel_rfl) ?_
          refine (runR (H := (blk b1 49 [.int .i64 zw, .int .i64 zi, .int .i64 za, .int .i64 zb, .bool zt] :: treeS t N :: H)) (z := 1) 9 [5, 0, 3, 4, 32, 34, 36, 38, 40] [(5, .pointer (some ⟨b1, 0, none⟩)), (0, .slice s.a s.l.length s.c), (3, .pointer (some ⟨t, 0, none⟩)), (4, .int .i64 (u : Int)), (32, .pointer (some ⟨t, 0, none⟩)), (34, .int .i64 za), (36, .int .i64 zi), (38, .int .i64 zb), (40, .bool zt)] [(⟨b1, 2, none⟩, .int .i64 za), (⟨b1, 1, none⟩, .int .i64 zi), (⟨b1, 3, none⟩, .int .i64 zb), (⟨b1, 4, none⟩, .bool zt)] (hasC (blkAt (T := 49) (cs := [.int .i64 zw, .int .i64 zi, .int .i64 za, .int .i64 zb, .bool zt]) 0 rfl rfl) (hasC (blkAt (T := 49) (cs := [.int .i64 zw, .int .i64 zi, .int .i64 za, .int .i64 zb, .bool zt]) 0 rfl rfl) (hasC (blkAt (T := 49) (cs := [.int .i64 zw, .int .i64 zi, .int .i64 za, .int .i64 zb, .bool zt]) 0 rfl rfl) (hasC (blkAt (T := 49) (cs := [.int .i64 zw, .int .i64 zi, .int .i64 za, .int .i64 zb, .bool zt]) 0 rfl rfl) has0)))) (fun _ => by kernel_rfl) ?_ : RT _ _ _ _ _ _ 10 _)
          refine (stepR (z := 0) (callS 11 [.pointer (some ⟨t, 0, none⟩), .int .i64 za, .int .i64 zi, .int .i64 zb, .bool zt] (some 41) (fun _ => pqErr (addN N za zi zb zt).1) (fun _ => (blk b1 49 [.int .i64 zw, .int .i64 zi, .int .i64 za, .int .i64 zb, .bool zt] :: treeS t (addN N za zi zb zt).2 :: H)) (fun _ => by kernel_rfl) (chg_at (H := (blk b1 49 [.int .i64 zw, .int .i64 zi, .int .i64 za, .int .i64 zb, .bool zt] :: treeS t N :: H)) 1 rfl (trAdd _ t N za zi zb zt))) (fun _ => ?_) : RT _ _ _ _ _ _ 1 _)
          refine endR ?_
          refine PT.keep (L' := [(0, .slice s.a s.l.length s.c), (3, .pointer (some ⟨t, 0, none⟩)), (4, .int .i64 (u : Int)), (5, .pointer (some ⟨b1, 0, none⟩))]) [0, 3, 4, 5] rfl ?_
          exact midR (⟨(addN N za zi zb zt).2, hid.add za zi zb zt hzi, add_wf hw za zi zb zt⟩) rfl rfl
        · skip
          refine seqR (by kernel_rfl) ?_
          refine regionR 4 (by kernel_rfl) (by kernel_rfl) ?_
          refine (runR (H := (blk b1 49 [.int .i64 zw, .int .i64 zi, .int .i64 za, .int .i64 zb, .bool zt] :: treeS t N :: H)) (z := 0) 4 [5, 0, 3, 4, 42] [(5, .pointer (some ⟨b1, 0, none⟩)), (0, .slice s.a s.l.length s.c), (3, .pointer (some ⟨t, 0, none⟩)), (4, .int .i64 (u : Int)), (42, .bool (zw == 2))] [(⟨b1, 0, none⟩, .int .i64 zw)] (hasC (blkAt (T := 49) (cs := [.int .i64 zw, .int .i64 zi, .int .i64 za, .int .i64 zb, .bool zt]) 0 rfl rfl) has0) (fun _ => by kernel_rfl) (endR ?_) : RT _ _ _ _ _ _ 4 _)
          refine condR (b := zw == 2) (by kernel_rfl) (fun _ => by kernel_rfl) (fun c2 => ?_) (fun c2 => ?_)
          · skip
            refine regionR 4 (by kernel_rfl) (by kernel_rfl) ?_
            refine (runR (H := (blk b1 49 [.int .i64 zw, .int .i64 zi, .int .i64 za, .int .i64 zb, .bool zt] :: treeS t N :: H)) (z := 1) 3 [5, 0, 3, 4, 46, 48] [(5, .pointer (some ⟨b1, 0, none⟩)), (0, .slice s.a s.l.length s.c), (3, .pointer (some ⟨t, 0, none⟩)), (4, .int .i64 (u : Int)), (46, .pointer (some ⟨t, 0, none⟩)), (48, .int .i64 zi)] [(⟨b1, 1, none⟩, .int .i64 zi)] (hasC (blkAt (T := 49) (cs := [.int .i64 zw, .int .i64 zi, .int .i64 za, .int .i64 zb, .bool zt]) 0 rfl rfl) has0) (fun _ => by kernel_rfl) ?_ : RT _ _ _ _ _ _ 4 _)
            refine (stepR (z := 0) (callS 19 [.pointer (some ⟨t, 0, none⟩), .int .i64 zi] (some 49) (fun _ => pqErr (removeN N zi).1) (fun _ => (blk b1 49 [.int .i64 zw, .int .i64 zi, .int .i64 za, .int .i64 zb, .bool zt] :: treeS t (removeN N zi).2 :: H)) (fun _ => by kernel_rfl) (chg_at (H := (blk b1 49 [.int .i64 zw, .int .i64 zi, .int .i64 za, .int .i64 zb, .bool zt] :: treeS t N :: H)) 1 rfl (trRemove _ t N zi))) (fun _ => ?_) : RT _ _ _ _ _ _ 1 _)
            refine endR ?_
            refine PT.keep (L' := [(0, .slice s.a s.l.length s.c), (3, .pointer (some ⟨t, 0, none⟩)), (4, .int .i64 (u : Int)), (5, .pointer (some ⟨b1, 0, none⟩))]) [0, 3, 4, 5] rfl ?_
            exact midR (⟨(removeN N zi).2, hid.remove zi, remove_wf hw zi⟩) rfl rfl
          · skip
            refine seqR (by kernel_rfl) ?_
            refine regionR 4 (by kernel_rfl) (by kernel_rfl) ?_
            refine (runR (H := (blk b1 49 [.int .i64 zw, .int .i64 zi, .int .i64 za, .int .i64 zb, .bool zt] :: treeS t N :: H)) (z := 0) 4 [5, 0, 3, 4, 50] [(5, .pointer (some ⟨b1, 0, none⟩)), (0, .slice s.a s.l.length s.c), (3, .pointer (some ⟨t, 0, none⟩)), (4, .int .i64 (u : Int)), (50, .bool (decide (zw ≤ 4)))] [(⟨b1, 0, none⟩, .int .i64 zw)] (hasC (blkAt (T := 49) (cs := [.int .i64 zw, .int .i64 zi, .int .i64 za, .int .i64 zb, .bool zt]) 0 rfl rfl) has0) (fun _ => by kernel_rfl) (endR ?_) : RT _ _ _ _ _ _ 4 _)
            refine condR (b := decide (zw ≤ 4)) (by kernel_rfl) (fun _ => by kernel_rfl) (fun c3 => ?_) (fun c3 => ?_)
            · skip
              refine regionR 6 (by kernel_rfl) (by kernel_rfl) ?_
              refine (runR (H := (blk b1 49 [.int .i64 zw, .int .i64 zi, .int .i64 za, .int .i64 zb, .bool zt] :: treeS t N :: H)) (z := 1) 5 [5, 0, 3, 4, 54, 56, 58] [(5, .pointer (some ⟨b1, 0, none⟩)), (0, .slice s.a s.l.length s.c), (3, .pointer (some ⟨t, 0, none⟩)), (4, .int .i64 (u : Int)), (54, .pointer (some ⟨t, 0, none⟩)), (56, .int .i64 zi), (58, .bool zt)] [(⟨b1, 1, none⟩, .int .i64 zi), (⟨b1, 4, none⟩, .bool zt)] (hasC (blkAt (T := 49) (cs := [.int .i64 zw, .int .i64 zi, .int .i64 za, .int .i64 zb, .bool zt]) 0 rfl rfl) (hasC (blkAt (T := 49) (cs := [.int .i64 zw, .int .i64 zi, .int .i64 za, .int .i64 zb, .bool zt]) 0 rfl rfl) has0)) (fun _ => by kernel_rfl) ?_ : RT _ _ _ _ _ _ 6 _)
              refine (stepR (z := 0) (callS 12 [.pointer (some ⟨t, 0, none⟩), .int .i64 zi, .bool zt] (some 59) (fun _ => pqErr (readyN N zi zt).1) (fun _ => (blk b1 49 [.int .i64 zw, .int .i64 zi, .int .i64 za, .int .i64 zb, .bool zt] :: treeS t (readyN N zi zt).2 :: H)) (fun _ => by kernel_rfl) (chg_at (H := (blk b1 49 [.int .i64 zw, .int .i64 zi, .int .i64 za, .int .i64 zb, .bool zt] :: treeS t N :: H)) 1 rfl (trReady _ t N zi zt))) (fun _ => ?_) : RT _ _ _ _ _ _ 1 _)
              refine endR ?_
              refine PT.keep (L' := [(0, .slice s.a s.l.length s.c), (3, .pointer (some ⟨t, 0, none⟩)), (4, .int .i64 (u : Int)), (5, .pointer (some ⟨b1, 0, none⟩))]) [0, 3, 4, 5] rfl ?_
              exact midR (⟨(readyN N zi zt).2, hid.ready zi zt, ready_wf hw zi zt⟩) rfl rfl
            · skip
              refine seqR (by kernel_rfl) ?_
              refine regionR 4 (by kernel_rfl) (by kernel_rfl) ?_
              refine (runR (H := (blk b1 49 [.int .i64 zw, .int .i64 zi, .int .i64 za, .int .i64 zb, .bool zt] :: treeS t N :: H)) (z := 0) 4 [5, 0, 3, 4, 60] [(5, .pointer (some ⟨b1, 0, none⟩)), (0, .slice s.a s.l.length s.c), (3, .pointer (some ⟨t, 0, none⟩)), (4, .int .i64 (u : Int)), (60, .bool (zw == 5))] [(⟨b1, 0, none⟩, .int .i64 zw)] (hasC (blkAt (T := 49) (cs := [.int .i64 zw, .int .i64 zi, .int .i64 za, .int .i64 zb, .bool zt]) 0 rfl rfl) has0) (fun _ => by kernel_rfl) (endR ?_) : RT _ _ _ _ _ _ 4 _)
              refine condR (b := zw == 5) (by kernel_rfl) (fun _ => by kernel_rfl) (fun c4 => ?_) (fun c4 => ?_)
              · skip
                refine regionR 6 (by kernel_rfl) (by kernel_rfl) ?_
                refine (runR (H := (blk b1 49 [.int .i64 zw, .int .i64 zi, .int .i64 za, .int .i64 zb, .bool zt] :: treeS t N :: H)) (z := 1) 5 [5, 0, 3, 4, 64, 66, 68] [(5, .pointer (some ⟨b1, 0, none⟩)), (0, .slice s.a s.l.length s.c), (3, .pointer (some ⟨t, 0, none⟩)), (4, .int .i64 (u : Int)), (64, .pointer (some ⟨t, 0, none⟩)), (66, .int .i64 zi), (68, .int .i64 zb)] [(⟨b1, 1, none⟩, .int .i64 zi), (⟨b1, 3, none⟩, .int .i64 zb)] (hasC (blkAt (T := 49) (cs := [.int .i64 zw, .int .i64 zi, .int .i64 za, .int .i64 zb, .bool zt]) 0 rfl rfl) (hasC (blkAt (T := 49) (cs := [.int .i64 zw, .int .i64 zi, .int .i64 za, .int .i64 zb, .bool zt]) 0 rfl rfl) has0)) (fun _ => by kernel_rfl) ?_ : RT _ _ _ _ _ _ 6 _)
                refine (stepR (z := 0) (callS 20 [.pointer (some ⟨t, 0, none⟩), .int .i64 zi, .int .i64 zb] (some 69) (fun _ => pqErr (weightN N zi zb).1) (fun _ => (blk b1 49 [.int .i64 zw, .int .i64 zi, .int .i64 za, .int .i64 zb, .bool zt] :: treeS t (weightN N zi zb).2 :: H)) (fun _ => by kernel_rfl) (chg_at (H := (blk b1 49 [.int .i64 zw, .int .i64 zi, .int .i64 za, .int .i64 zb, .bool zt] :: treeS t N :: H)) 1 rfl (trWeight _ t N zi zb))) (fun _ => ?_) : RT _ _ _ _ _ _ 1 _)
                refine endR ?_
                refine PT.keep (L' := [(0, .slice s.a s.l.length s.c), (3, .pointer (some ⟨t, 0, none⟩)), (4, .int .i64 (u : Int)), (5, .pointer (some ⟨b1, 0, none⟩))]) [0, 3, 4, 5] rfl ?_
                exact midR (⟨(weightN N zi zb).2, hid.weight zi zb, weight_wf hw zi zb⟩) rfl rfl
              · skip
                refine regionR 2 (by kernel_rfl) (by kernel_rfl) ?_
                refine (run0 (z := 1) 1 [5, 0, 3, 4, 26] [(5, .pointer (some ⟨b1, 0, none⟩)), (0, .slice s.a s.l.length s.c), (3, .pointer (some ⟨t, 0, none⟩)), (4, .int .i64 (u : Int)), (26, .pointer (some ⟨t, 0, none⟩))] (fun _ => by kernel_rfl) ?_ : RT _ _ _ _ _ _ 2 _)
                refine (stepR (z := 0) (callS 13 [.pointer (some ⟨t, 0, none⟩)] (some 27) (fun _ => .tuple #[.int .i64 (runN N).1.1, .bool (runN N).1.2]) (fun _ => (blk b1 49 [.int .i64 zw, .int .i64 zi, .int .i64 za, .int .i64 zb, .bool zt] :: treeS t (runN N).2 :: H)) (fun _ => by kernel_rfl) (chg_at (H := (blk b1 49 [.int .i64 zw, .int .i64 zi, .int .i64 za, .int .i64 zb, .bool zt] :: treeS t N :: H)) 1 rfl (trRun _ t N))) (fun _ => ?_) : RT _ _ _ _ _ _ 1 _)
                refine endR ?_
                refine PT.keep (L' := [(0, .slice s.a s.l.length s.c), (3, .pointer (some ⟨t, 0, none⟩)), (4, .int .i64 (u : Int)), (5, .pointer (some ⟨b1, 0, none⟩))]) [0, 3, 4, 5] rfl ?_
                exact midR (⟨(runN N).2, hid.run hw, run_wf hw⟩) rfl rfl
      obtain ⟨N', hid', hw'⟩ := Nq
      refine seqR (by kernel_rfl) ?_
      refine regionR 3 (by kernel_rfl) (by kernel_rfl) ?_
      refine (run0 (z := 2) 1 [0, 3, 4, 70] [(0, .slice s.a s.l.length s.c), (3, .pointer (some ⟨t, 0, none⟩)), (4, .int .i64 (u : Int)), (70, .pointer (some ⟨t, 0, none⟩))] (fun _ => by kernel_rfl) ?_ : RT _ _ _ _ _ _ 3 _)
      obtain ⟨M, hM⟩ : ∃ M, M = nodesN N' := ⟨_, rfl⟩
      have hMl : 1 ≤ M.length ∧ M.length ≤ 60 := by
        rw [hM, nodesN_len]
        obtain ⟨r, hr, _⟩ := hw'.sk.root
        exact ⟨List.length_pos_of_mem hr, hw'.sk.len⟩
      have hMm : ∀ (i : Nat) y, M[i]? = some y → y ∈ N' := fun i y h => by rw [hM] at h; exact nodesN_mem hw'.sk.nd h
      refine PT.drop ?_
      refine (stepR (z := 1) (callS 17 [.pointer (some ⟨t, 0, none⟩)] (some 71) (fun (na : Option Addr × Nat) => .slice na.1 M.length na.2) (fun (na : Option Addr × Nat) => (row nE 53 (.slice na.1 M.length na.2) M :: treeS t N' :: H)) (fun _ => by kernel_rfl) ((hM ▸ trNodes _ t N' hid'))) (fun (na : Option Addr × Nat) => ?_) : RT _ _ _ _ _ _ 2 _)
      refine PT.know (KR.isSome (s := ⟨na.1, na.2, M⟩) (rowKRat 0 rfl) (List.ne_nil_of_length_pos (by show 0 < M.length; omega))) ?_
      rintro ⟨nb, no, hnA⟩
      dsimp only at hnA
      rw [hnA]
      refine (run0 (z := 0) 1 [0, 3, 4, 6] [(0, .slice s.a s.l.length s.c), (3, .pointer (some ⟨t, 0, none⟩)), (4, .int .i64 (u : Int)), (6, .slice (some ⟨nb, no, none⟩) M.length na.2)] (fun _ => by kernel_rfl) (endR ?_) : RT _ _ _ _ _ _ 1 _)
      refine seqR (by kernel_rfl) ?_
      refine regionR 1 (by kernel_rfl) (by kernel_rfl) ?_
      refine (run0 (z := 0) 1 [0, 3, 4, 6, 7] [(0, .slice s.a s.l.length s.c), (3, .pointer (some ⟨t, 0, none⟩)), (4, .int .i64 (u : Int)), (6, .slice (some ⟨nb, no, none⟩) M.length na.2), (7, .int .i64 0)] (fun _ => by kernel_rfl) (endR ?_) : RT _ _ _ _ _ _ 1 _)
      refine blockR 3 (by kernel_rfl) (by kernel_rfl) ?_
      refine PT.keep (L' := [(0, .slice s.a s.l.length s.c), (3, .pointer (some ⟨t, 0, none⟩)), (4, .int .i64 (u : Int)), (6, .slice (some ⟨nb, no, none⟩) M.length na.2), (7, .int .i64 0)]) [0, 3, 4, 6, 7] rfl ?_
      refine loopG (fun (i : Nat) => [(0, .slice s.a s.l.length s.c), (3, .pointer (some ⟨t, 0, none⟩)), (4, .int .i64 (u : Int)), (6, .slice (some ⟨nb, no, none⟩) M.length na.2), (7, .int .i64 (i : Int))]) (fun (i : Nat) => (row nE 53 (.slice (some ⟨nb, no, none⟩) M.length na.2) M :: treeS t N' :: H)) (fun k (i : Nat) => k + i = M.length) M.length 0 (by kernel_rfl) (by simp) ?_
      rintro k1 i hki
      refine seqR (by kernel_rfl) ?_
      refine seqR (by kernel_rfl) ?_
      refine regionR 4 (by kernel_rfl) (by kernel_rfl) ?_
      refine (run0 (z := 0) 4 [0, 3, 4, 6, 7, 75] [(0, .slice s.a s.l.length s.c), (3, .pointer (some ⟨t, 0, none⟩)), (4, .int .i64 (u : Int)), (6, .slice (some ⟨nb, no, none⟩) M.length na.2), (7, .int .i64 (i : Int)), (75, .bool (decide ((i : Int) < (M.length : Int))))] (fun _ => by kernel_rfl) (endR ?_) : RT _ _ _ _ _ _ 4 _)
      refine condR (b := decide ((i : Int) < (M.length : Int))) (by kernel_rfl) (fun _ => by kernel_rfl) (fun h2 => ?_) (fun h2 => ?_)
      · skip
        have hi : i < M.length := by have := of_decide_eq_true h2; omega
        obtain ⟨x, hx⟩ : ∃ x, M[i]? = some x := ⟨_, List.getElem?_eq_getElem hi⟩
        refine skipR (by kernel_rfl) ?_
        refine seqR (by kernel_rfl) ?_
        refine blockR 4 (by kernel_rfl) (by kernel_rfl) ?_
        refine seqR (by kernel_rfl) ?_
        refine regionR 1 (by kernel_rfl) (by kernel_rfl) ?_
        refine (run0 (z := 0) 1 [0, 3, 4, 6, 7, 8] [(0, .slice s.a s.l.length s.c), (3, .pointer (some ⟨t, 0, none⟩)), (4, .int .i64 (u : Int)), (6, .slice (some ⟨nb, no, none⟩) M.length na.2), (7, .int .i64 (i : Int)), (8, .int .i64 0)] (fun _ => by kernel_rfl) (endR ?_) : RT _ _ _ _ _ _ 1 _)
        refine blockR 5 (by kernel_rfl) (by kernel_rfl) ?_
        refine PT.keep (L' := [(0, .slice s.a s.l.length s.c), (3, .pointer (some ⟨t, 0, none⟩)), (4, .int .i64 (u : Int)), (6, .slice (some ⟨nb, no, none⟩) M.length na.2), (7, .int .i64 (i : Int)), (8, .int .i64 0)]) [0, 3, 4, 6, 7, 8] rfl ?_
        refine loopG (fun (j : Nat) => [(0, .slice s.a s.l.length s.c), (3, .pointer (some ⟨t, 0, none⟩)), (4, .int .i64 (u : Int)), (6, .slice (some ⟨nb, no, none⟩) M.length na.2), (7, .int .i64 (i : Int)), (8, .int .i64 (j : Int))]) (fun (j : Nat) => (row nE 53 (.slice (some ⟨nb, no, none⟩) M.length na.2) M :: treeS t N' :: H)) (fun k (j : Nat) => k + j = M.length) M.length 0 (by kernel_rfl) (by simp) ?_
        rintro k2 j hkj
        refine seqR (by kernel_rfl) ?_
        refine seqR (by kernel_rfl) ?_
        refine regionR 4 (by kernel_rfl) (by kernel_rfl) ?_
        refine (run0 (z := 0) 4 [0, 3, 4, 6, 7, 8, 81] [(0, .slice s.a s.l.length s.c), (3, .pointer (some ⟨t, 0, none⟩)), (4, .int .i64 (u : Int)), (6, .slice (some ⟨nb, no, none⟩) M.length na.2), (7, .int .i64 (i : Int)), (8, .int .i64 (j : Int)), (81, .bool (decide ((j : Int) < (M.length : Int))))] (fun _ => by kernel_rfl) (endR ?_) : RT _ _ _ _ _ _ 4 _)
        refine condR (b := decide ((j : Int) < (M.length : Int))) (by kernel_rfl) (fun _ => by kernel_rfl) (fun h3 => ?_) (fun h3 => ?_)
        · skip
          have hj : j < M.length := by have := of_decide_eq_true h3; omega
          obtain ⟨y, hy⟩ : ∃ y, M[j]? = some y := ⟨_, List.getElem?_eq_getElem hj⟩
          refine skipR (by kernel_rfl) ?_
          refine seqR (by kernel_rfl) ?_
          refine blockR 6 (by kernel_rfl) (by kernel_rfl) ?_
          refine seqR (by kernel_rfl) ?_
          refine seqR (by kernel_rfl) ?_
          refine drawR (fun w => Sat w (row nE 53 (.slice (some ⟨nb, no, none⟩) M.length na.2) M :: treeS t N' :: H)) [] 40 (by kernel_rfl) (by kernel_rfl) (by kernel_rfl) (fun _ h => by first | exact h | exact h.tail | exact h.tail.tail | exact h.tail.tail.tail | exact h.tail.tail.tail.tail) ?_
          refine takesR [0, 1, 2, 3] [0, 3, 4, 6, 7, 8, 87] 36 [true, true, true, true, false, false, false, false, false, false, false, false, false, false, false, false, false, false, false, false, false, false, false, false, false, false, false, false, false, false, false, false, false, false, false, false, false, false, false, false] [(0, .slice s.a s.l.length s.c), (3, .pointer (some ⟨t, 0, none⟩)), (4, .int .i64 (u : Int)), (6, .slice (some ⟨nb, no, none⟩) M.length na.2), (7, .int .i64 (i : Int)), (8, .int .i64 (j : Int)), (87, .bool ((i : Int) == (j : Int)))] [] rfl (fun _ d _ _ _ h => by cases d <;> exact h) (fun _ h => by first | exact h | exact h.tail | exact h.tail.tail | exact h.tail.tail.tail | exact h.tail.tail.tail.tail) has0 (fun _ => by kernel_rfl) ?_
          cases g1 : ((i : Int) == (j : Int)) with
          | true =>
            refine takesR [4, 5, 6, 7, 8, 9, 10, 11, 12, 13, 14, 15, 16, 17, 18, 19, 20, 21, 22, 23, 24, 25, 26, 27, 28, 29, 30, 31, 32, 33, 34, 35, 36, 37, 38, 39] [0, 3, 4, 6, 7, 8, 123] 0 [true, true, true, true, true, true, true, true, true, true, true, true, true, true, true, true, true, true, true, true, true, true, true, true, true, true, true, true, true, true, true, true, true, true, true, true, true, true, true, true] [(0, .slice s.a s.l.length s.c), (3, .pointer (some ⟨t, 0, none⟩)), (4, .int .i64 (u : Int)), (6, .slice (some ⟨nb, no, none⟩) M.length na.2), (7, .int .i64 (i : Int)), (8, .int .i64 (j : Int)), (123, .bool true)] [] rfl (fun _ d _ _ _ h => by cases d <;> exact h) (fun _ h => by first | exact h | exact h.tail | exact h.tail.tail | exact h.tail.tail.tail | exact h.tail.tail.tail.tail) has0 (fun _ => by kernel_rfl) ?_
            refine drawnR (by kernel_rfl) ?_
            refine condR (b := true) (by kernel_rfl) (fun _ => by kernel_rfl) (fun _ => ?_) (fun h => by cases h)
            refine exitR 6 (by kernel_rfl) (by kernel_rfl) ?_
            refine thenX ?_
            refine leaveR ?_
            refine regionR 3 (by kernel_rfl) (by kernel_rfl) ?_
            refine (run0 (z := 0) 3 [0, 3, 4, 6, 7, 8] [(0, .slice s.a s.l.length s.c), (3, .pointer (some ⟨t, 0, none⟩)), (4, .int .i64 (u : Int)), (6, .slice (some ⟨nb, no, none⟩) M.length na.2), (7, .int .i64 (i : Int)), (8, .int .i64 (IntKind.i64.wrap ((j : Int) + 1)))] (fun _ => by kernel_rfl) (endR ?_) : RT _ _ _ _ _ _ 3 _)
            rw [show IntKind.i64.wrap ((j : Int) + 1) = ((j : Int) + 1) by rw [w64 (by omega) (by omega)]]
            refine PT.keep (L' := [(0, .slice s.a s.l.length s.c), (3, .pointer (some ⟨t, 0, none⟩)), (4, .int .i64 (u : Int)), (6, .slice (some ⟨nb, no, none⟩) M.length na.2), (7, .int .i64 (i : Int)), (8, .int .i64 ((j : Int) + 1))]) [0, 3, 4, 6, 7, 8] rfl ?_
            exact againG (k2 - 1) (j + 1) rfl rfl (by omega) (by omega)
          | false =>
            refine takesR [4, 5] [0, 3, 4, 6, 7, 8, 87, 88, 89] 34 [true, true, true, true, true, true, false, false, false, false, false, false, false, false, false, false, false, false, false, false, false, false, false, false, false, false, false, false, false, false, false, false, false, false, false, false, false, false, false, false] [(0, .slice s.a s.l.length s.c), (3, .pointer (some ⟨t, 0, none⟩)), (4, .int .i64 (u : Int)), (6, .slice (some ⟨nb, no, none⟩) M.length na.2), (7, .int .i64 (i : Int)), (8, .int .i64 (j : Int)), (87, .bool false), (88, .slice (some ⟨nb, no, none⟩) M.length na.2), (89, .int .i64 (i : Int))] [] rfl (fun _ d _ _ _ h => by cases d <;> exact h) (fun _ h => by first | exact h | exact h.tail | exact h.tail.tail | exact h.tail.tail.tail | exact h.tail.tail.tail.tail) has0 (fun _ => by kernel_rfl) ?_
            refine takeR1 6 33 [true, true, true, true, true, true, true, false, false, false, false, false, false, false, false, false, false, false, false, false, false, false, false, false, false, false, false, false, false, false, false, false, false, false, false, false, false, false, false, false] rfl rfl (by kernel_rfl) (fun _ d _ _ _ h => by cases d <;> exact h) (fun _ h => by first | exact h | exact h.tail | exact h.tail.tail | exact h.tail.tail.tail | exact h.tail.tail.tail.tail) (idxY 39 (.tmp 88) (.tmp 89) nb no M.length na.2 i 6 53 (i : Int) .i64 (some 90) (fun _ => by kernel_rfl) (by kernel_rfl) (by kernel_rfl) (fun _ => by kernel_rfl) (fun _ => by kernel_rfl) Try.underlying39 (by kernel_rfl) (by first | rfl | assumption | simp) (by first | omega | (simp; done) | (simp; omega) | (simp at *; omega))) ?_
            refine takesR [7, 8, 9, 10, 11] [0, 3, 4, 6, 7, 8, 95] 28 [true, true, true, true, true, true, true, true, true, true, true, true, false, false, false, false, false, false, false, false, false, false, false, false, false, false, false, false, false, false, false, false, false, false, false, false, false, false, false, false] [(0, .slice s.a s.l.length s.c), (3, .pointer (some ⟨t, 0, none⟩)), (4, .int .i64 (u : Int)), (6, .slice (some ⟨nb, no, none⟩) M.length na.2), (7, .int .i64 (i : Int)), (8, .int .i64 (j : Int)), (95, .bool (x.id == 0))] [(⟨nb, no + i * 6, none⟩, .int .i64 x.id)] rfl (fun _ d _ _ _ h => by cases d <;> exact h) (fun _ h => by first | exact h | exact h.tail | exact h.tail.tail | exact h.tail.tail.tail | exact h.tail.tail.tail.tail) (hasC (rowCell (E := nE) (xs := M) 0 rfl (x := x) hx (j := 0) rfl) has0) (fun _ => by kernel_rfl) ?_
            cases g2 : (x.id == 0) with
            | true =>
              refine takesR [12, 13, 14, 15, 16, 17, 18, 19, 20, 21, 22, 23, 24, 25, 26, 27, 28, 29, 30, 31, 32, 33, 34, 35, 36, 37, 38, 39] [0, 3, 4, 6, 7, 8, 123] 0 [true, true, true, true, true, true, true, true, true, true, true, true, true, true, true, true, true, true, true, true, true, true, true, true, true, true, true, true, true, true, true, true, true, true, true, true, true, true, true, true] [(0, .slice s.a s.l.length s.c), (3, .pointer (some ⟨t, 0, none⟩)), (4, .int .i64 (u : Int)), (6, .slice (some ⟨nb, no, none⟩) M.length na.2), (7, .int .i64 (i : Int)), (8, .int .i64 (j : Int)), (123, .bool true)] [] rfl (fun _ d _ _ _ h => by cases d <;> exact h) (fun _ h => by first | exact h | exact h.tail | exact h.tail.tail | exact h.tail.tail.tail | exact h.tail.tail.tail.tail) has0 (fun _ => by kernel_rfl) ?_
              refine drawnR (by kernel_rfl) ?_
              refine condR (b := true) (by kernel_rfl) (fun _ => by kernel_rfl) (fun _ => ?_) (fun h => by cases h)
              refine exitR 6 (by kernel_rfl) (by kernel_rfl) ?_
              refine thenX ?_
              refine leaveR ?_
              refine regionR 3 (by kernel_rfl) (by kernel_rfl) ?_
              refine (run0 (z := 0) 3 [0, 3, 4, 6, 7, 8] [(0, .slice s.a s.l.length s.c), (3, .pointer (some ⟨t, 0, none⟩)), (4, .int .i64 (u : Int)), (6, .slice (some ⟨nb, no, none⟩) M.length na.2), (7, .int .i64 (i : Int)), (8, .int .i64 (IntKind.i64.wrap ((j : Int) + 1)))] (fun _ => by kernel_rfl) (endR ?_) : RT _ _ _ _ _ _ 3 _)
              rw [show IntKind.i64.wrap ((j : Int) + 1) = ((j : Int) + 1) by rw [w64 (by omega) (by omega)]]
              refine PT.keep (L' := [(0, .slice s.a s.l.length s.c), (3, .pointer (some ⟨t, 0, none⟩)), (4, .int .i64 (u : Int)), (6, .slice (some ⟨nb, no, none⟩) M.length na.2), (7, .int .i64 (i : Int)), (8, .int .i64 ((j : Int) + 1))]) [0, 3, 4, 6, 7, 8] rfl ?_
              exact againG (k2 - 1) (j + 1) rfl rfl (by omega) (by omega)
            | false =>
              refine takesR [12, 13, 17, 18] [0, 3, 4, 6, 7, 8, 95, 96, 97, 101, 102] 24 [true, true, true, true, true, true, true, true, true, true, true, true, true, true, false, false, false, true, true, false, false, false, false, false, false, false, false, false, false, false, false, false, false, false, false, false, false, false, false, false] [(0, .slice s.a s.l.length s.c), (3, .pointer (some ⟨t, 0, none⟩)), (4, .int .i64 (u : Int)), (6, .slice (some ⟨nb, no, none⟩) M.length na.2), (7, .int .i64 (i : Int)), (8, .int .i64 (j : Int)), (95, .bool false), (96, .slice (some ⟨nb, no, none⟩) M.length na.2), (97, .int .i64 (i : Int)), (101, .slice (some ⟨nb, no, none⟩) M.length na.2), (102, .int .i64 (j : Int))] [] rfl (fun _ d _ _ _ h => by cases d <;> exact h) (fun _ h => by first | exact h | exact h.tail | exact h.tail.tail | exact h.tail.tail.tail | exact h.tail.tail.tail.tail) has0 (fun _ => by kernel_rfl) ?_
              refine takeR1 14 23 [true, true, true, true, true, true, true, true, true, true, true, true, true, true, true, false, false, true, true, false, false, false, false, false, false, false, false, false, false, false, false, false, false, false, false, false, false, false, false, false] rfl rfl (by kernel_rfl) (fun _ d _ _ _ h => by cases d <;> exact h) (fun _ h => by first | exact h | exact h.tail | exact h.tail.tail | exact h.tail.tail.tail | exact h.tail.tail.tail.tail) (idxY 39 (.tmp 96) (.tmp 97) nb no M.length na.2 i 6 53 (i : Int) .i64 (some 98) (fun _ => by kernel_rfl) (by kernel_rfl) (by kernel_rfl) (fun _ => by kernel_rfl) (fun _ => by kernel_rfl) Try.underlying39 (by kernel_rfl) (by first | rfl | assumption | simp) (by first | omega | (simp; done) | (simp; omega) | (simp at *; omega))) ?_
              refine takesR [15, 16] [0, 3, 4, 6, 7, 8, 95, 101, 102, 100] 21 [true, true, true, true, true, true, true, true, true, true, true, true, true, true, true, true, true, true, true, false, false, false, false, false, false, false, false, false, false, false, false, false, false, false, false, false, false, false, false, false] [(0, .slice s.a s.l.length s.c), (3, .pointer (some ⟨t, 0, none⟩)), (4, .int .i64 (u : Int)), (6, .slice (some ⟨nb, no, none⟩) M.length na.2), (7, .int .i64 (i : Int)), (8, .int .i64 (j : Int)), (95, .bool false), (101, .slice (some ⟨nb, no, none⟩) M.length na.2), (102, .int .i64 (j : Int)), (100, .int .i64 x.par)] [(⟨nb, no + i * 6 + 1, none⟩, .int .i64 x.par)] rfl (fun _ d _ _ _ h => by cases d <;> exact h) (fun _ h => by first | exact h | exact h.tail | exact h.tail.tail | exact h.tail.tail.tail | exact h.tail.tail.tail.tail) (hasC (rowCell (E := nE) (xs := M) 0 rfl (x := x) hx (j := 1) rfl) has0) (fun _ => by kernel_rfl) ?_
              refine takeR1 19 20 [true, true, true, true, true, true, true, true, true, true, true, true, true, true, true, true, true, true, true, true, false, false, false, false, false, false, false, false, false, false, false, false, false, false, false, false, false, false, false, false] rfl rfl (by kernel_rfl) (fun _ d _ _ _ h => by cases d <;> exact h) (fun _ h => by first | exact h | exact h.tail | exact h.tail.tail | exact h.tail.tail.tail | exact h.tail.tail.tail.tail) (idxY 39 (.tmp 101) (.tmp 102) nb no M.length na.2 j 6 53 (j : Int) .i64 (some 103) (fun _ => by kernel_rfl) (by kernel_rfl) (by kernel_rfl) (fun _ => by kernel_rfl) (fun _ => by kernel_rfl) Try.underlying39 (by kernel_rfl) (by first | rfl | assumption | simp) (by first | omega | (simp; done) | (simp; omega) | (simp at *; omega))) ?_
              refine takesR [20, 21, 22, 23, 24] [0, 3, 4, 6, 7, 8, 108] 15 [true, true, true, true, true, true, true, true, true, true, true, true, true, true, true, true, true, true, true, true, true, true, true, true, true, false, false, false, false, false, false, false, false, false, false, false, false, false, false, false] [(0, .slice s.a s.l.length s.c), (3, .pointer (some ⟨t, 0, none⟩)), (4, .int .i64 (u : Int)), (6, .slice (some ⟨nb, no, none⟩) M.length na.2), (7, .int .i64 (i : Int)), (8, .int .i64 (j : Int)), (108, .bool (x.par != y.par))] [(⟨nb, no + j * 6 + 1, none⟩, .int .i64 y.par)] rfl (fun _ d _ _ _ h => by cases d <;> exact h) (fun _ h => by first | exact h | exact h.tail | exact h.tail.tail | exact h.tail.tail.tail | exact h.tail.tail.tail.tail) (hasC (rowCell (E := nE) (xs := M) 0 rfl (x := y) hy (j := 1) rfl) has0) (fun _ => by kernel_rfl) ?_
              cases g3 : (x.par != y.par) with
              | true =>
                refine takesR [25, 26, 27, 28, 29, 30, 31, 32, 33, 34, 35, 36, 37, 38, 39] [0, 3, 4, 6, 7, 8, 123] 0 [true, true, true, true, true, true, true, true, true, true, true, true, true, true, true, true, true, true, true, true, true, true, true, true, true, true, true, true, true, true, true, true, true, true, true, true, true, true, true, true] [(0, .slice s.a s.l.length s.c), (3, .pointer (some ⟨t, 0, none⟩)), (4, .int .i64 (u : Int)), (6, .slice (some ⟨nb, no, none⟩) M.length na.2), (7, .int .i64 (i : Int)), (8, .int .i64 (j : Int)), (123, .bool true)] [] rfl (fun _ d _ _ _ h => by cases d <;> exact h) (fun _ h => by first | exact h | exact h.tail | exact h.tail.tail | exact h.tail.tail.tail | exact h.tail.tail.tail.tail) has0 (fun _ => by kernel_rfl) ?_
                refine drawnR (by kernel_rfl) ?_
                refine condR (b := true) (by kernel_rfl) (fun _ => by kernel_rfl) (fun _ => ?_) (fun h => by cases h)
                refine exitR 6 (by kernel_rfl) (by kernel_rfl) ?_
                refine thenX ?_
                refine leaveR ?_
                refine regionR 3 (by kernel_rfl) (by kernel_rfl) ?_
                refine (run0 (z := 0) 3 [0, 3, 4, 6, 7, 8] [(0, .slice s.a s.l.length s.c), (3, .pointer (some ⟨t, 0, none⟩)), (4, .int .i64 (u : Int)), (6, .slice (some ⟨nb, no, none⟩) M.length na.2), (7, .int .i64 (i : Int)), (8, .int .i64 (IntKind.i64.wrap ((j : Int) + 1)))] (fun _ => by kernel_rfl) (endR ?_) : RT _ _ _ _ _ _ 3 _)
                rw [show IntKind.i64.wrap ((j : Int) + 1) = ((j : Int) + 1) by rw [w64 (by omega) (by omega)]]
                refine PT.keep (L' := [(0, .slice s.a s.l.length s.c), (3, .pointer (some ⟨t, 0, none⟩)), (4, .int .i64 (u : Int)), (6, .slice (some ⟨nb, no, none⟩) M.length na.2), (7, .int .i64 (i : Int)), (8, .int .i64 ((j : Int) + 1))]) [0, 3, 4, 6, 7, 8] rfl ?_
                exact againG (k2 - 1) (j + 1) rfl rfl (by omega) (by omega)
              | false =>
                refine takesR [25, 26] [0, 3, 4, 6, 7, 8, 108, 109, 110] 13 [true, true, true, true, true, true, true, true, true, true, true, true, true, true, true, true, true, true, true, true, true, true, true, true, true, true, true, false, false, false, false, false, false, false, false, false, false, false, false, false] [(0, .slice s.a s.l.length s.c), (3, .pointer (some ⟨t, 0, none⟩)), (4, .int .i64 (u : Int)), (6, .slice (some ⟨nb, no, none⟩) M.length na.2), (7, .int .i64 (i : Int)), (8, .int .i64 (j : Int)), (108, .bool false), (109, .slice (some ⟨nb, no, none⟩) M.length na.2), (110, .int .i64 (i : Int))] [] rfl (fun _ d _ _ _ h => by cases d <;> exact h) (fun _ h => by first | exact h | exact h.tail | exact h.tail.tail | exact h.tail.tail.tail | exact h.tail.tail.tail.tail) has0 (fun _ => by kernel_rfl) ?_
                refine takeR1 27 12 [true, true, true, true, true, true, true, true, true, true, true, true, true, true, true, true, true, true, true, true, true, true, true, true, true, true, true, true, false, false, false, false, false, false, false, false, false, false, false, false] rfl rfl (by kernel_rfl) (fun _ d _ _ _ h => by cases d <;> exact h) (fun _ h => by first | exact h | exact h.tail | exact h.tail.tail | exact h.tail.tail.tail | exact h.tail.tail.tail.tail) (idxY 39 (.tmp 109) (.tmp 110) nb no M.length na.2 i 6 53 (i : Int) .i64 (some 111) (fun _ => by kernel_rfl) (by kernel_rfl) (by kernel_rfl) (fun _ => by kernel_rfl) (fun _ => by kernel_rfl) Try.underlying39 (by kernel_rfl) (by first | rfl | assumption | simp) (by first | omega | (simp; done) | (simp; omega) | (simp at *; omega))) ?_
                refine takesR [28, 29, 30, 31, 32] [0, 3, 4, 6, 7, 8, 116] 7 [true, true, true, true, true, true, true, true, true, true, true, true, true, true, true, true, true, true, true, true, true, true, true, true, true, true, true, true, true, true, true, true, true, false, false, false, false, false, false, false] [(0, .slice s.a s.l.length s.c), (3, .pointer (some ⟨t, 0, none⟩)), (4, .int .i64 (u : Int)), (6, .slice (some ⟨nb, no, none⟩) M.length na.2), (7, .int .i64 (i : Int)), (8, .int .i64 (j : Int)), (116, .bool (!x.rdy))] [(⟨nb, no + i * 6 + 5, none⟩, .bool x.rdy)] rfl (fun _ d _ _ _ h => by cases d <;> exact h) (fun _ h => by first | exact h | exact h.tail | exact h.tail.tail | exact h.tail.tail.tail | exact h.tail.tail.tail.tail) (hasC (rowCell (E := nE) (xs := M) 0 rfl (x := x) hx (j := 5) rfl) has0) (fun _ => by kernel_rfl) ?_
                cases g4 : (x.rdy) with
                | true =>
                  refine takesR [33, 34] [0, 3, 4, 6, 7, 8, 116, 117, 118] 5 [true, true, true, true, true, true, true, true, true, true, true, true, true, true, true, true, true, true, true, true, true, true, true, true, true, true, true, true, true, true, true, true, true, true, true, false, false, false, false, false] [(0, .slice s.a s.l.length s.c), (3, .pointer (some ⟨t, 0, none⟩)), (4, .int .i64 (u : Int)), (6, .slice (some ⟨nb, no, none⟩) M.length na.2), (7, .int .i64 (i : Int)), (8, .int .i64 (j : Int)), (116, .bool false), (117, .slice (some ⟨nb, no, none⟩) M.length na.2), (118, .int .i64 (j : Int))] [] rfl (fun _ d _ _ _ h => by cases d <;> exact h) (fun _ h => by first | exact h | exact h.tail | exact h.tail.tail | exact h.tail.tail.tail | exact h.tail.tail.tail.tail) has0 (fun _ => by kernel_rfl) ?_
                  refine takeR1 35 4 [true, true, true, true, true, true, true, true, true, true, true, true, true, true, true, true, true, true, true, true, true, true, true, true, true, true, true, true, true, true, true, true, true, true, true, true, false, false, false, false] rfl rfl (by kernel_rfl) (fun _ d _ _ _ h => by cases d <;> exact h) (fun _ h => by first | exact h | exact h.tail | exact h.tail.tail | exact h.tail.tail.tail | exact h.tail.tail.tail.tail) (idxY 39 (.tmp 117) (.tmp 118) nb no M.length na.2 j 6 53 (j : Int) .i64 (some 119) (fun _ => by kernel_rfl) (by kernel_rfl) (by kernel_rfl) (fun _ => by kernel_rfl) (fun _ => by kernel_rfl) Try.underlying39 (by kernel_rfl) (by first | rfl | assumption | simp) (by first | omega | (simp; done) | (simp; omega) | (simp at *; omega))) ?_
                  refine takesR [36, 37, 38, 39] [0, 3, 4, 6, 7, 8, 123] 0 [true, true, true, true, true, true, true, true, true, true, true, true, true, true, true, true, true, true, true, true, true, true, true, true, true, true, true, true, true, true, true, true, true, true, true, true, true, true, true, true] [(0, .slice s.a s.l.length s.c), (3, .pointer (some ⟨t, 0, none⟩)), (4, .int .i64 (u : Int)), (6, .slice (some ⟨nb, no, none⟩) M.length na.2), (7, .int .i64 (i : Int)), (8, .int .i64 (j : Int)), (123, .bool (!y.rdy))] [(⟨nb, no + j * 6 + 5, none⟩, .bool y.rdy)] rfl (fun _ d _ _ _ h => by cases d <;> exact h) (fun _ h => by first | exact h | exact h.tail | exact h.tail.tail | exact h.tail.tail.tail | exact h.tail.tail.tail.tail) (hasC (rowCell (E := nE) (xs := M) 0 rfl (x := y) hy (j := 5) rfl) has0) (fun _ => by kernel_rfl) ?_
                  refine drawnR (by kernel_rfl) ?_
                  cases g5 : (y.rdy) with
                  | true =>
                    have hxy := two_pass hw' (hMm i x hx) (hMm j y hy) (by simpa using g2) (by simpa using g3) g4 g5
                    refine condR (b := false) (by kernel_rfl) (fun _ => by kernel_rfl) (fun h => by cases h) (fun _ => ?_)
                    refine skipR (by kernel_rfl) ?_
                    refine seqR (by kernel_rfl) ?_
                    refine drawR (fun w => Sat w (row nE 53 (.slice (some ⟨nb, no, none⟩) M.length na.2) M :: treeS t N' :: H)) [] 12 (by kernel_rfl) (by kernel_rfl) (by kernel_rfl) (fun _ h => by first | exact h | exact h.tail | exact h.tail.tail | exact h.tail.tail.tail | exact h.tail.tail.tail.tail) ?_
                    refine takesR [0, 1, 5, 6] [0, 3, 4, 6, 7, 8, 124, 125, 129, 130] 8 [true, true, false, false, false, true, true, false, false, false, false, false] [(0, .slice s.a s.l.length s.c), (3, .pointer (some ⟨t, 0, none⟩)), (4, .int .i64 (u : Int)), (6, .slice (some ⟨nb, no, none⟩) M.length na.2), (7, .int .i64 (i : Int)), (8, .int .i64 (j : Int)), (124, .slice (some ⟨nb, no, none⟩) M.length na.2), (125, .int .i64 (i : Int)), (129, .slice (some ⟨nb, no, none⟩) M.length na.2), (130, .int .i64 (j : Int))] [] rfl (fun _ d _ _ _ h => by cases d <;> exact h) (fun _ h => by first | exact h | exact h.tail | exact h.tail.tail | exact h.tail.tail.tail | exact h.tail.tail.tail.tail) has0 (fun _ => by kernel_rfl) ?_
                    refine takeR1 2 7 [true, true, true, false, false, true, true, false, false, false, false, false] rfl rfl (by kernel_rfl) (fun _ d _ _ _ h => by cases d <;> exact h) (fun _ h => by first | exact h | exact h.tail | exact h.tail.tail | exact h.tail.tail.tail | exact h.tail.tail.tail.tail) (idxY 39 (.tmp 124) (.tmp 125) nb no M.length na.2 i 6 53 (i : Int) .i64 (some 126) (fun _ => by kernel_rfl) (by kernel_rfl) (by kernel_rfl) (fun _ => by kernel_rfl) (fun _ => by kernel_rfl) Try.underlying39 (by kernel_rfl) (by first | rfl | assumption | simp) (by first | omega | (simp; done) | (simp; omega) | (simp at *; omega))) ?_
                    refine takesR [3, 4] [0, 3, 4, 6, 7, 8, 129, 130, 128] 5 [true, true, true, true, true, true, true, false, false, false, false, false] [(0, .slice s.a s.l.length s.c), (3, .pointer (some ⟨t, 0, none⟩)), (4, .int .i64 (u : Int)), (6, .slice (some ⟨nb, no, none⟩) M.length na.2), (7, .int .i64 (i : Int)), (8, .int .i64 (j : Int)), (129, .slice (some ⟨nb, no, none⟩) M.length na.2), (130, .int .i64 (j : Int)), (128, .int .i64 x.pass)] [(⟨nb, no + i * 6 + 3, none⟩, .int .i64 x.pass)] rfl (fun _ d _ _ _ h => by cases d <;> exact h) (fun _ h => by first | exact h | exact h.tail | exact h.tail.tail | exact h.tail.tail.tail | exact h.tail.tail.tail.tail) (hasC (rowCell (E := nE) (xs := M) 0 rfl (x := x) hx (j := 3) rfl) has0) (fun _ => by kernel_rfl) ?_
                    refine takeR1 7 4 [true, true, true, true, true, true, true, true, false, false, false, false] rfl rfl (by kernel_rfl) (fun _ d _ _ _ h => by cases d <;> exact h) (fun _ h => by first | exact h | exact h.tail | exact h.tail.tail | exact h.tail.tail.tail | exact h.tail.tail.tail.tail) (idxY 39 (.tmp 129) (.tmp 130) nb no M.length na.2 j 6 53 (j : Int) .i64 (some 131) (fun _ => by kernel_rfl) (by kernel_rfl) (by kernel_rfl) (fun _ => by kernel_rfl) (fun _ => by kernel_rfl) Try.underlying39 (by kernel_rfl) (by first | rfl | assumption | simp) (by first | omega | (simp; done) | (simp; omega) | (simp at *; omega))) ?_
                    refine takesR [8, 9, 10, 11] [0, 3, 4, 6, 7, 8, 9] 0 [true, true, true, true, true, true, true, true, true, true, true, true] [(0, .slice s.a s.l.length s.c), (3, .pointer (some ⟨t, 0, none⟩)), (4, .int .i64 (u : Int)), (6, .slice (some ⟨nb, no, none⟩) M.length na.2), (7, .int .i64 (i : Int)), (8, .int .i64 (j : Int)), (9, .int .i64 (IntKind.i64.wrap (x.pass - y.pass)))] [(⟨nb, no + j * 6 + 3, none⟩, .int .i64 y.pass)] rfl (fun _ d _ _ _ h => by cases d <;> exact h) (fun _ h => by first | exact h | exact h.tail | exact h.tail.tail | exact h.tail.tail.tail | exact h.tail.tail.tail.tail) (hasC (rowCell (E := nE) (xs := M) 0 rfl (x := y) hy (j := 3) rfl) has0) (fun _ => by kernel_rfl) ?_
                    refine drawnR (by kernel_rfl) ?_
                    refine seqR (by kernel_rfl) ?_
                    refine regionR 19 (by kernel_rfl) (by kernel_rfl) ?_
                    refine (run0 (z := 16) 3 [0, 3, 4, 6, 7, 8, 9, 135, 136, 137] [(0, .slice s.a s.l.length s.c), (3, .pointer (some ⟨t, 0, none⟩)), (4, .int .i64 (u : Int)), (6, .slice (some ⟨nb, no, none⟩) M.length na.2), (7, .int .i64 (i : Int)), (8, .int .i64 (j : Int)), (9, .int .i64 (IntKind.i64.wrap (x.pass - y.pass))), (135, .int .i64 (IntKind.i64.wrap (x.pass - y.pass))), (136, .slice (some ⟨nb, no, none⟩) M.length na.2), (137, .int .i64 (i : Int))] (fun _ => by kernel_rfl) ?_ : RT _ _ _ _ _ _ 19 _)
                    refine (stepR (z := 15) (yldS (idxY 39 (.tmp 136) (.tmp 137) nb no M.length na.2 i 6 53 (i : Int) .i64 (some 138) (fun _ => by kernel_rfl) (by kernel_rfl) (by kernel_rfl) (fun _ => by kernel_rfl) (fun _ => by kernel_rfl) Try.underlying39 (by kernel_rfl) (by first | rfl | assumption | simp) (by first | omega | (simp; done) | (simp; omega) | (simp at *; omega)))) (fun _ => ?_) : RT _ _ _ _ _ _ 16 _)
                    refine (runR (H := (row nE 53 (.slice (some ⟨nb, no, none⟩) M.length na.2) M :: treeS t N' :: H)) (z := 13) 2 [0, 3, 4, 6, 7, 8, 9, 135, 140] [(0, .slice s.a s.l.length s.c), (3, .pointer (some ⟨t, 0, none⟩)), (4, .int .i64 (u : Int)), (6, .slice (some ⟨nb, no, none⟩) M.length na.2), (7, .int .i64 (i : Int)), (8, .int .i64 (j : Int)), (9, .int .i64 (IntKind.i64.wrap (x.pass - y.pass))), (135, .int .i64 (IntKind.i64.wrap (x.pass - y.pass))), (140, .int .i64 x.wt)] [(⟨nb, no + i * 6 + 2, none⟩, .int .i64 x.wt)] (hasC (rowCell (E := nE) (xs := M) 0 rfl (x := x) hx (j := 2) rfl) has0) (fun _ => by kernel_rfl) ?_ : RT _ _ _ _ _ _ 15 _)
                    refine (stepR (z := 12) (callS 21 [.int .i64 x.wt] (some 141) (fun _ => .int .i64 (strd x.wt)) (fun (_ : Unit) => (row nE 53 (.slice (some ⟨nb, no, none⟩) M.length na.2) M :: treeS t N' :: H)) (fun _ => by kernel_rfl) (rOf_walk _ x.wt)) (fun _ => ?_) : RT _ _ _ _ _ _ 13 _)
                    refine (run0 (z := 10) 2 [0, 3, 4, 6, 7, 8, 9, 143] [(0, .slice s.a s.l.length s.c), (3, .pointer (some ⟨t, 0, none⟩)), (4, .int .i64 (u : Int)), (6, .slice (some ⟨nb, no, none⟩) M.length na.2), (7, .int .i64 (i : Int)), (8, .int .i64 (j : Int)), (9, .int .i64 (IntKind.i64.wrap (x.pass - y.pass))), (143, .bool (decide ((IntKind.i64.wrap (x.pass - y.pass)) > (strd x.wt))))] (fun _ => by kernel_rfl) ?_ : RT _ _ _ _ _ _ 12 _)
                    refine (segR (ι := Unit) (z := 0) 10 (fun _ => [(0, .slice s.a s.l.length s.c), (3, .pointer (some ⟨t, 0, none⟩)), (4, .int .i64 (u : Int)), (6, .slice (some ⟨nb, no, none⟩) M.length na.2), (7, .int .i64 (i : Int)), (8, .int .i64 (j : Int)), (153, .bool ((decide ((IntKind.i64.wrap (x.pass - y.pass)) > (strd x.wt))) || (decide ((IntKind.i64.wrap (0 - (IntKind.i64.wrap (x.pass - y.pass)))) > (strd y.wt)))))]) (fun _ => (row nE 53 (.slice (some ⟨nb, no, none⟩) M.length na.2) M :: treeS t N' :: H)) ?_ (fun _ => ?_) : RT _ _ _ _ _ _ 10 _)
                    · cases hg9 : (decide ((IntKind.i64.wrap (x.pass - y.pass)) > (strd x.wt))) with
                      | true =>
                        refine (run0 (z := 0) 10 [0, 3, 4, 6, 7, 8, 153] [(0, .slice s.a s.l.length s.c), (3, .pointer (some ⟨t, 0, none⟩)), (4, .int .i64 (u : Int)), (6, .slice (some ⟨nb, no, none⟩) M.length na.2), (7, .int .i64 (i : Int)), (8, .int .i64 (j : Int)), (153, .bool true)] (fun _ => by kernel_rfl) (endR ?_) : RT _ _ _ _ _ _ 10 _)
                        refine PT.keep (L' := [(0, .slice s.a s.l.length s.c), (3, .pointer (some ⟨t, 0, none⟩)), (4, .int .i64 (u : Int)), (6, .slice (some ⟨nb, no, none⟩) M.length na.2), (7, .int .i64 (i : Int)), (8, .int .i64 (j : Int)), (153, .bool (true || (decide ((IntKind.i64.wrap (0 - (IntKind.i64.wrap (x.pass - y.pass)))) > (strd y.wt)))))]) [0, 3, 4, 6, 7, 8, 153] rfl ?_
                        exact midR () rfl rfl
                      | false =>
                        refine (run0 (z := 6) 4 [0, 3, 4, 6, 7, 8, 143, 145, 146, 147] [(0, .slice s.a s.l.length s.c), (3, .pointer (some ⟨t, 0, none⟩)), (4, .int .i64 (u : Int)), (6, .slice (some ⟨nb, no, none⟩) M.length na.2), (7, .int .i64 (i : Int)), (8, .int .i64 (j : Int)), (143, .bool false), (145, .int .i64 (IntKind.i64.wrap (0 - (IntKind.i64.wrap (x.pass - y.pass))))), (146, .slice (some ⟨nb, no, none⟩) M.length na.2), (147, .int .i64 (j : Int))] (fun _ => by kernel_rfl) ?_ : RT _ _ _ _ _ _ 10 _)
                        refine (stepR (z := 5) (yldS (idxY 39 (.tmp 146) (.tmp 147) nb no M.length na.2 j 6 53 (j : Int) .i64 (some 148) (fun _ => by kernel_rfl) (by kernel_rfl) (by kernel_rfl) (fun _ => by kernel_rfl) (fun _ => by kernel_rfl) Try.underlying39 (by kernel_rfl) (by first | rfl | assumption | simp) (by first | omega | (simp; done) | (simp; omega) | (simp at *; omega)))) (fun _ => ?_) : RT _ _ _ _ _ _ 6 _)
                        refine (runR (H := (row nE 53 (.slice (some ⟨nb, no, none⟩) M.length na.2) M :: treeS t N' :: H)) (z := 3) 2 [0, 3, 4, 6, 7, 8, 143, 145, 150] [(0, .slice s.a s.l.length s.c), (3, .pointer (some ⟨t, 0, none⟩)), (4, .int .i64 (u : Int)), (6, .slice (some ⟨nb, no, none⟩) M.length na.2), (7, .int .i64 (i : Int)), (8, .int .i64 (j : Int)), (143, .bool false), (145, .int .i64 (IntKind.i64.wrap (0 - (IntKind.i64.wrap (x.pass - y.pass))))), (150, .int .i64 y.wt)] [(⟨nb, no + j * 6 + 2, none⟩, .int .i64 y.wt)] (hasC (rowCell (E := nE) (xs := M) 0 rfl (x := y) hy (j := 2) rfl) has0) (fun _ => by kernel_rfl) ?_ : RT _ _ _ _ _ _ 5 _)
                        refine (stepR (z := 2) (callS 21 [.int .i64 y.wt] (some 151) (fun _ => .int .i64 (strd y.wt)) (fun (_ : Unit) => (row nE 53 (.slice (some ⟨nb, no, none⟩) M.length na.2) M :: treeS t N' :: H)) (fun _ => by kernel_rfl) (rOf_walk _ y.wt)) (fun _ => ?_) : RT _ _ _ _ _ _ 3 _)
                        refine (run0 (z := 0) 2 [0, 3, 4, 6, 7, 8, 153] [(0, .slice s.a s.l.length s.c), (3, .pointer (some ⟨t, 0, none⟩)), (4, .int .i64 (u : Int)), (6, .slice (some ⟨nb, no, none⟩) M.length na.2), (7, .int .i64 (i : Int)), (8, .int .i64 (j : Int)), (153, .bool (decide ((IntKind.i64.wrap (0 - (IntKind.i64.wrap (x.pass - y.pass)))) > (strd y.wt))))] (fun _ => by kernel_rfl) (endR ?_) : RT _ _ _ _ _ _ 2 _)
                        refine PT.keep (L' := [(0, .slice s.a s.l.length s.c), (3, .pointer (some ⟨t, 0, none⟩)), (4, .int .i64 (u : Int)), (6, .slice (some ⟨nb, no, none⟩) M.length na.2), (7, .int .i64 (i : Int)), (8, .int .i64 (j : Int)), (153, .bool (false || (decide ((IntKind.i64.wrap (0 - (IntKind.i64.wrap (x.pass - y.pass)))) > (strd y.wt)))))]) [0, 3, 4, 6, 7, 8, 153] rfl ?_
                        exact midR () rfl rfl
                    refine endR ?_
                    rw [show IntKind.i64.wrap (x.pass - y.pass) = (x.pass - y.pass) by rw [w64 (by omega) (by omega)]]
                    rw [show IntKind.i64.wrap (0 - (x.pass - y.pass)) = (0 - (x.pass - y.pass)) by rw [w64 (by omega) (by omega)]]
                    rw [show ((decide ((x.pass - y.pass) > (strd x.wt))) || (decide ((0 - (x.pass - y.pass)) > (strd y.wt)))) = false from by simp; omega]
                    refine condR (b := false) (by kernel_rfl) (fun _ => by kernel_rfl) (fun h => by cases h) (fun _ => ?_)
                    refine skipR (by kernel_rfl) ?_
                    refine regionR 3 (by kernel_rfl) (by kernel_rfl) ?_
                    refine (run0 (z := 0) 3 [0, 3, 4, 6, 7, 8] [(0, .slice s.a s.l.length s.c), (3, .pointer (some ⟨t, 0, none⟩)), (4, .int .i64 (u : Int)), (6, .slice (some ⟨nb, no, none⟩) M.length na.2), (7, .int .i64 (i : Int)), (8, .int .i64 (IntKind.i64.wrap ((j : Int) + 1)))] (fun _ => by kernel_rfl) (endR ?_) : RT _ _ _ _ _ _ 3 _)
                    rw [show IntKind.i64.wrap ((j : Int) + 1) = ((j : Int) + 1) by rw [w64 (by omega) (by omega)]]
                    refine PT.keep (L' := [(0, .slice s.a s.l.length s.c), (3, .pointer (some ⟨t, 0, none⟩)), (4, .int .i64 (u : Int)), (6, .slice (some ⟨nb, no, none⟩) M.length na.2), (7, .int .i64 (i : Int)), (8, .int .i64 ((j : Int) + 1))]) [0, 3, 4, 6, 7, 8] rfl ?_
                    exact againG (k2 - 1) (j + 1) rfl rfl (by omega) (by omega)
                  | false =>
                    refine condR (b := true) (by kernel_rfl) (fun _ => by kernel_rfl) (fun _ => ?_) (fun h => by cases h)
                    refine exitR 6 (by kernel_rfl) (by kernel_rfl) ?_
                    refine thenX ?_
                    refine leaveR ?_
                    refine regionR 3 (by kernel_rfl) (by kernel_rfl) ?_
                    refine (run0 (z := 0) 3 [0, 3, 4, 6, 7, 8] [(0, .slice s.a s.l.length s.c), (3, .pointer (some ⟨t, 0, none⟩)), (4, .int .i64 (u : Int)), (6, .slice (some ⟨nb, no, none⟩) M.length na.2), (7, .int .i64 (i : Int)), (8, .int .i64 (IntKind.i64.wrap ((j : Int) + 1)))] (fun _ => by kernel_rfl) (endR ?_) : RT _ _ _ _ _ _ 3 _)
                    rw [show IntKind.i64.wrap ((j : Int) + 1) = ((j : Int) + 1) by rw [w64 (by omega) (by omega)]]
                    refine PT.keep (L' := [(0, .slice s.a s.l.length s.c), (3, .pointer (some ⟨t, 0, none⟩)), (4, .int .i64 (u : Int)), (6, .slice (some ⟨nb, no, none⟩) M.length na.2), (7, .int .i64 (i : Int)), (8, .int .i64 ((j : Int) + 1))]) [0, 3, 4, 6, 7, 8] rfl ?_
                    exact againG (k2 - 1) (j + 1) rfl rfl (by omega) (by omega)
                | false =>
                  refine takesR [33, 34, 35, 36, 37, 38, 39] [0, 3, 4, 6, 7, 8, 123] 0 [true, true, true, true, true, true, true, true, true, true, true, true, true, true, true, true, true, true, true, true, true, true, true, true, true, true, true, true, true, true, true, true, true, true, true, true, true, true, true, true] [(0, .slice s.a s.l.length s.c), (3, .pointer (some ⟨t, 0, none⟩)), (4, .int .i64 (u : Int)), (6, .slice (some ⟨nb, no, none⟩) M.length na.2), (7, .int .i64 (i : Int)), (8, .int .i64 (j : Int)), (123, .bool true)] [] rfl (fun _ d _ _ _ h => by cases d <;> exact h) (fun _ h => by first | exact h | exact h.tail | exact h.tail.tail | exact h.tail.tail.tail | exact h.tail.tail.tail.tail) has0 (fun _ => by kernel_rfl) ?_
                  refine drawnR (by kernel_rfl) ?_
                  refine condR (b := true) (by kernel_rfl) (fun _ => by kernel_rfl) (fun _ => ?_) (fun h => by cases h)
                  refine exitR 6 (by kernel_rfl) (by kernel_rfl) ?_
                  refine thenX ?_
                  refine leaveR ?_
                  refine regionR 3 (by kernel_rfl) (by kernel_rfl) ?_
                  refine (run0 (z := 0) 3 [0, 3, 4, 6, 7, 8] [(0, .slice s.a s.l.length s.c), (3, .pointer (some ⟨t, 0, none⟩)), (4, .int .i64 (u : Int)), (6, .slice (some ⟨nb, no, none⟩) M.length na.2), (7, .int .i64 (i : Int)), (8, .int .i64 (IntKind.i64.wrap ((j : Int) + 1)))] (fun _ => by kernel_rfl) (endR ?_) : RT _ _ _ _ _ _ 3 _)
                  rw [show IntKind.i64.wrap ((j : Int) + 1) = ((j : Int) + 1) by rw [w64 (by omega) (by omega)]]
                  refine PT.keep (L' := [(0, .slice s.a s.l.length s.c), (3, .pointer (some ⟨t, 0, none⟩)), (4, .int .i64 (u : Int)), (6, .slice (some ⟨nb, no, none⟩) M.length na.2), (7, .int .i64 (i : Int)), (8, .int .i64 ((j : Int) + 1))]) [0, 3, 4, 6, 7, 8] rfl ?_
                  exact againG (k2 - 1) (j + 1) rfl rfl (by omega) (by omega)
        · skip
          refine exitR 5 (by kernel_rfl) (by kernel_rfl) ?_
          refine thenX ?_
          refine thenX ?_
          refine leaveR ?_
          refine regionR 3 (by kernel_rfl) (by kernel_rfl) ?_
          refine (run0 (z := 0) 3 [0, 3, 4, 6, 7] [(0, .slice s.a s.l.length s.c), (3, .pointer (some ⟨t, 0, none⟩)), (4, .int .i64 (u : Int)), (6, .slice (some ⟨nb, no, none⟩) M.length na.2), (7, .int .i64 (IntKind.i64.wrap ((i : Int) + 1)))] (fun _ => by kernel_rfl) (endR ?_) : RT _ _ _ _ _ _ 3 _)
          rw [show IntKind.i64.wrap ((i : Int) + 1) = ((i : Int) + 1) by rw [w64 (by omega) (by omega)]]
          refine PT.keep (L' := [(0, .slice s.a s.l.length s.c), (3, .pointer (some ⟨t, 0, none⟩)), (4, .int .i64 (u : Int)), (6, .slice (some ⟨nb, no, none⟩) M.length na.2), (7, .int .i64 ((i : Int) + 1))]) [0, 3, 4, 6, 7] rfl ?_
          exact againG (k1 - 1) (i + 1) rfl rfl (by omega) (by omega)
      · skip
        refine exitR 3 (by kernel_rfl) (by kernel_rfl) ?_
        refine thenX ?_
        refine thenX ?_
        refine leaveR ?_
        refine regionR 3 (by kernel_rfl) (by kernel_rfl) ?_
        refine (run0 (z := 0) 3 [0, 3, 4] [(0, .slice s.a s.l.length s.c), (3, .pointer (some ⟨t, 0, none⟩)), (4, .int .i64 (IntKind.i64.wrap ((u : Int) + 1)))] (fun _ => by kernel_rfl) (endR ?_) : RT _ _ _ _ _ _ 3 _)
        rw [show IntKind.i64.wrap ((u : Int) + 1) = ((u : Int) + 1) by rw [w64 (by omega) (by omega)]]
        refine PT.drop ?_
        refine PT.keep (L' := [(0, .slice s.a s.l.length s.c), (3, .pointer (some ⟨t, 0, none⟩)), (4, .int .i64 ((u : Int) + 1))]) [0, 3, 4] rfl ?_
        exact againG (k - 1) (N', u + 1) rfl rfl (by omega) ⟨by simp only; omega, hid', hw'⟩
    · skip
      refine exitR 0 (by kernel_rfl) (by kernel_rfl) ?_
      refine thenX ?_
      refine thenX ?_
      refine leaveR ?_
      refine seqR (by kernel_rfl) ?_
      refine regionR 1 (by kernel_rfl) (by kernel_rfl) ?_
      refine (run0 (z := 0) 1 [2] [(2, .bool true)] (fun _ => by kernel_rfl) (endR ?_) : RT _ _ _ _ _ _ 1 _)
      refine retR (by kernel_rfl) ?_
      refine done0 (.bool true) (fun _ => by kernel_rfl) (fun w hs => ?_) .ret (.inr rfl)
      exact ⟨(), rfl, hs.tail⟩
theorem within_row (W : World) (ao : Option Addr) (c : Nat) (l : List (Int × Int × Int × Int × Bool)) (hrd : Rd s7E W (.slice ao l.length c) l) (hl : ∀ x ∈ l, x.2.1 ≤ 9223372036854775807) : Calls Try.prog 8 #[.slice ao l.length c] W (LawPost W) :=
  lawPost (fun _ _ h => h) (within7_walk [old W] ⟨ao, c, l⟩ (KR.old hrd 0 rfl) hl W (Sat.start W))
end Go.Proofs.Ytjbjngikaiggdaa
