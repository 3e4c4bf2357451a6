/- Texts put together: The document's tree: Run, walked. Trees: the program's nodes and the document's are the same, in another order. errors.As of numbered errors, at a variable of their type: its walk. Nodes compared; SameNodes. TreePlays: its walk. Conditions: none. -/
import Derived.Test.YtjbjngikaiggdaaGreatDoorMgTreePlays5
import Derived.LaidEql
import Derived.Stop.Asserts
import Derived.RowKitTokens
import Derived.LaidHandle
set_option linter.unusedVariables false
set_option linter.unusedSimpArgs false
namespace Go.Proofs.YtjbjngikaiggdaaGreatDoor
open Go.RowKit G
theorem kI_ety : Ety Tryz.prog (kE .i64) 3 (.int .i64 0) := Ety.of (b := 8) (by kernel_rfl) (by decide) (by kernel_rfl)
structure RrS where
  M : List Nr
  i : Nat
  wy : List Int
  a : Option Addr
  c : Nat
/-- The first nodes of a group's row with their passes made less. -/
def shTo (g P : Int) (j : Nat) (M : List Nr) : List Nr := (M.take j).map (shG g P) ++ M.drop j
theorem shTo_len (g P : Int) (j : Nat) (M : List Nr) : (shTo g P j M).length = M.length := by simp [shTo]; omega
theorem shTo_all (g P : Int) (M : List Nr) : shTo g P M.length M = M.map (shG g P) := by simp [shTo]
theorem shTo_at {g P : Int} {j i : Nat} {M : List Nr} {z : Nr} (h : M[i]? = some z) : (shTo g P j M)[i]? = some (if i < j then shG g P z else z) := by
  have hi := (List.getElem?_eq_some_iff.1 h).1
  unfold shTo
  by_cases c : i < j
  · rw [List.getElem?_append_left (by simp; omega), List.getElem?_map, List.getElem?_take_of_lt c, h, if_pos c]; rfl
  · rw [List.getElem?_append_right (by simp; omega), if_neg c]
    simp only [List.length_map, List.length_take]
    rw [List.getElem?_drop, Nat.min_eq_left (by omega), show j + (i - j) = i by omega, h]
theorem shTo_succ {g P : Int} {j : Nat} {M : List Nr} {z : Nr} (h : M[j]? = some z) : shTo g P (j + 1) M = (shTo g P j M).set j (shG g P z) := by
  have hj := (List.getElem?_eq_some_iff.1 h).1
  unfold shTo
  rw [List.take_add_one, h, List.map_append, List.set_append, if_neg (by simp; omega)]
  simp only [Option.toList_some, List.map_cons, List.map_nil, List.length_map, List.length_take]
  rw [Nat.min_eq_left (by omega), Nat.sub_self, List.drop_eq_getElem_cons hj, (List.getElem?_eq_some_iff.1 h).2, List.set_cons_zero, List.append_assoc]; rfl
theorem set_self {α : Type} {l : List α} {i : Nat} {x : α} (h : l[i]? = some x) : l.set i x = l := set_same h
theorem wIds_at {L M : List Nr} (hids : M.map (·.id) = L.map (·.id)) {a : Nat} {g : Nr} (h : M[a]? = some g) : (L.map (·.id)).getD (a : Int).toNat 0 = g.id := by
  rw [← hids, Int.toNat_natCast, List.getD_eq_getElem?_getD, List.getElem?_map, h]; rfl
set_option maxHeartbeats 2000000 in
set_option maxRecDepth 100000 in
theorem rrun_walk (H : List SP) (t : Nat) (L : List Nr) (hw : WFN L) (hsr : (L.map (·.id)).Pairwise (· < ·)) : ∀ w, Sat w (rtS t L :: H) → Calls Tryz.prog 17 #[.pointer (some ⟨t, 0, none⟩)] w (Ret (ι := Unit) (fun _ => .tuple #[.int .i64 (runN L).1.1, .bool (runN L).1.2]) fun _ => rtS t (runN L).2 :: H) := by
  have hsk := hw.sk
  have hnd := hsk.nd
  have hl := hsk.len
  obtain ⟨rk, hrk⟩ := hsk.rk
  obtain ⟨r, hr0, hr00⟩ := root_first hsk hsr
  have hrL := List.mem_of_getElem? hr0
  have hg0 : gt L 0 = some r := hr00 ▸ gt_of hnd hrL
  have hne : L ≠ [] := List.ne_nil_of_mem hrL
  refine enterG (fn := Tryz.f17) 222 [.pointer (some ⟨t, 0, none⟩)] Tryz.func17 (by kernel_rfl) (by kernel_rfl) (by kernel_rfl) ?_
  refine PT.openRt fun b o c => ?_
  refine seqR (by kernel_rfl) ?_
  refine regionR 2 (by kernel_rfl) (by kernel_rfl) ?_
  refine (run0 (z := 0) 2 [0, 2, 3] [(0, .pointer (some ⟨t, 0, none⟩)), (2, .int .i64 0), (3, .bool false)] (fun _ => by kernel_rfl) (endR ?_) : RT _ _ _ _ _ _ 2 _)
  refine seqR (by kernel_rfl) ?_
  refine seqR (by kernel_rfl) ?_
  refine regionR 3 (by kernel_rfl) (by kernel_rfl) ?_
  refine (run0 (z := 2) 1 [0, 2, 3, 12] [(0, .pointer (some ⟨t, 0, none⟩)), (2, .int .i64 0), (3, .bool false), (12, .pointer (some ⟨t, 0, none⟩))] (fun _ => by kernel_rfl) ?_ : RT _ _ _ _ _ _ 3 _)
  refine (stepR (z := 1) (callS 33 [.pointer (some ⟨t, 0, none⟩), .int .i64 0] (some 13) (fun _ => .bool (L.any fun x => x.par == 0 && x.rdy)) (fun _ => (blk t 65 [.slice (some ⟨b, o, none⟩) L.length c] :: row rnE 62 (.slice (some ⟨b, o, none⟩) L.length c) L :: H)) (fun _ => by kernel_rfl) (rsome_walk H t b o c L 0 (by omega))) (fun _ => ?_) : RT _ _ _ _ _ _ 2 _)
  rw [show (L.any fun x => x.par == 0 && x.rdy) = r.rdy by exact any_root hw hrL hr00]
  refine (run0 (z := 0) 1 [0, 2, 3, 14] [(0, .pointer (some ⟨t, 0, none⟩)), (2, .int .i64 0), (3, .bool false), (14, .bool (!r.rdy))] (fun _ => by kernel_rfl) (endR ?_) : RT _ _ _ _ _ _ 1 _)
  cases hrd : r.rdy with
  | false =>
    refine condR (b := true) (by kernel_rfl) (fun _ => by kernel_rfl) (fun _ => ?_) (fun h => by cases h)
    refine seqR (by kernel_rfl) ?_
    refine regionR 2 (by kernel_rfl) (by kernel_rfl) ?_
    refine (run0 (z := 0) 2 [0, 2, 3] [(0, .pointer (some ⟨t, 0, none⟩)), (2, .int .i64 0), (3, .bool false)] (fun _ => by kernel_rfl) (endR ?_) : RT _ _ _ _ _ _ 2 _)
    refine retR (by kernel_rfl) ?_
    refine thenV ?_
    have hz : runN L = ((0, false), L) := by rw [runN, hg0]; simp [hrd]
    refine done0 (.tuple #[.int .i64 0, .bool false]) (fun _ => by kernel_rfl) (fun w hs => ?_) .ret (.inr rfl)
    exact ⟨(), by rw [hz], by rw [hz]; exact Sat.closeRt hne hs⟩
  | true =>
    refine PT.rowNil rnE 62 ?_
    refine condR (b := false) (by kernel_rfl) (fun _ => by kernel_rfl) (fun h => by cases h) (fun _ => ?_)
    refine skipR (by kernel_rfl) ?_
    refine seqR (by kernel_rfl) ?_
    refine regionR 9 (by kernel_rfl) (by kernel_rfl) ?_
    refine (runR (H := (row rnE 62 (.slice none 0 0) [] :: blk t 65 [.slice (some ⟨b, o, none⟩) L.length c] :: row rnE 62 (.slice (some ⟨b, o, none⟩) L.length c) L :: H)) (z := 4) 5 [0, 2, 3, 15, 19] [(0, .pointer (some ⟨t, 0, none⟩)), (2, .int .i64 0), (3, .bool false), (15, .pointer (some ⟨t, 0, none⟩)), (19, .slice (some ⟨b, o, none⟩) L.length c)] [(⟨t, 0, none⟩, .slice (some ⟨b, o, none⟩) L.length c)] (hasC (blkAt (T := 65) (cs := [.slice (some ⟨b, o, none⟩) L.length c]) 1 rfl rfl) has0) (fun _ => by kernel_rfl) ?_ : RT _ _ _ _ _ _ 9 _)
    refine (stepR (z := 3) (appS (E := rnE) 63 (.const (.slice none 0 0)) (.tmp 19) none 0 [] L (.slice (some ⟨b, o, none⟩) L.length c) (some 20) (fun _ => by kernel_rfl) (by kernel_rfl) (by kernel_rfl) (fun _ => by kernel_rfl) (fun _ => by kernel_rfl) Tryz.underlying63 (rnE_ety) (rowKRat 2 rfl) (by simp; omega)) (fun r1 => ?_) : RT _ _ _ (row rnE 62 (.slice none 0 0) [] :: blk t 65 [.slice (some ⟨b, o, none⟩) L.length c] :: row rnE 62 (.slice (some ⟨b, o, none⟩) L.length c) L :: H) _ _ 4 _)
    rw [show ([] ++ L) = L by rfl]
    refine (run0 (z := 1) 2 [20, 0, 2, 3, 22] [(20, .slice r1.1 L.length r1.2), (0, .pointer (some ⟨t, 0, none⟩)), (2, .int .i64 0), (3, .bool false), (22, .pointer (some ⟨t, 0, none⟩))] (fun _ => by kernel_rfl) ?_ : RT _ _ _ _ _ _ 3 _)
    refine (RT.pick 1 rfl ?_ : RT _ _ _ (row rnE 62 (.slice r1.1 L.length r1.2) L :: blk t 65 [.slice (some ⟨b, o, none⟩) L.length c] :: row rnE 62 (.slice (some ⟨b, o, none⟩) L.length c) L :: H) _ _ 1 _)
    refine (stepR (z := 0) (storeS [(0, .slice r1.1 L.length r1.2)] [.slice r1.1 L.length r1.2] (fun _ => by kernel_rfl) (by kernel_rfl) (by kernel_rfl)) (fun _ => ?_) : RT _ _ _ _ _ _ 1 _)
    refine endR ?_
    refine PT.pick 2 rfl ?_
    refine PT.drop ?_
    refine PT.know (KR.isSome (s := ⟨r1.1, r1.2, L⟩) (rowKRat 1 rfl) hne) ?_
    rintro ⟨wb, wo, hA2⟩
    dsimp only at hA2
    rw [hA2]
    obtain ⟨wc, hwc⟩ : ∃ wc, r1.2 = wc := ⟨_, rfl⟩
    rw [hwc]
    refine PT.rowNil (kE .i64) 3 ?_
    refine seqR (by kernel_rfl) ?_
    refine regionR 1 (by kernel_rfl) (by kernel_rfl) ?_
    refine (run0 (z := 0) 1 [0, 2, 3, 4] [(0, .pointer (some ⟨t, 0, none⟩)), (2, .int .i64 0), (3, .bool false), (4, .int .i64 0)] (fun _ => by kernel_rfl) (endR ?_) : RT _ _ _ _ _ _ 1 _)
    refine seqR (by kernel_rfl) ?_
    refine regionR 1 (by kernel_rfl) (by kernel_rfl) ?_
    refine (run0 (z := 0) 1 [0, 2, 3, 4, 5] [(0, .pointer (some ⟨t, 0, none⟩)), (2, .int .i64 0), (3, .bool false), (4, .int .i64 0), (5, .slice none 0 0)] (fun _ => by kernel_rfl) (endR ?_) : RT _ _ _ _ _ _ 1 _)
    refine seqR (by kernel_rfl) ?_
    refine blockR 0 (by kernel_rfl) (by kernel_rfl) ?_
    refine PT.keep (L' := [(0, .pointer (some ⟨t, 0, none⟩)), (2, .int .i64 0), (3, .bool false), (4, .int .i64 0), (5, .slice none 0 0)]) [0, 2, 3, 4, 5] rfl ?_
    refine loopG (fun (s : RrS) => [(0, .pointer (some ⟨t, 0, none⟩)), (2, .int .i64 0), (3, .bool false), (4, .int .i64 (s.i : Int)), (5, .slice s.a s.wy.length s.c)]) (fun (s : RrS) => (row (kE .i64) 3 (.slice s.a s.wy.length s.c) s.wy :: blk t 65 [.slice (some ⟨wb, wo, none⟩) s.M.length wc] :: row rnE 62 (.slice (some ⟨wb, wo, none⟩) s.M.length wc) s.M :: H)) (fun k (s : RrS) => ∃ x, RrI L rk k s.M s.i s.wy x) 6 ⟨L, 0, [], none, 0⟩ (by kernel_rfl) ⟨r, RrI.start hw hrk hr0 hr00 hrd⟩ ?_
    rintro k ⟨M, i, wy, A, cp⟩ ⟨x, hI⟩
    simp only at hI
    have hsM := hI.sk
    have hlM := hsM.len
    have hi := hI.at'
    have hxM := List.mem_of_getElem? hi
    have hil := (List.getElem?_eq_some_iff.1 hi).1
    have hwl := hI.wl
    refine seqR (by kernel_rfl) ?_
    refine seqR (by kernel_rfl) ?_
    refine regionR 10 (by kernel_rfl) (by kernel_rfl) ?_
    refine (runR (H := (row (kE .i64) 3 (.slice A wy.length cp) wy :: blk t 65 [.slice (some ⟨wb, wo, none⟩) M.length wc] :: row rnE 62 (.slice (some ⟨wb, wo, none⟩) M.length wc) M :: H)) (z := 5) 5 [0, 2, 3, 4, 5, 26, 27] [(0, .pointer (some ⟨t, 0, none⟩)), (2, .int .i64 0), (3, .bool false), (4, .int .i64 (i : Int)), (5, .slice A wy.length cp), (26, .slice (some ⟨wb, wo, none⟩) M.length wc), (27, .int .i64 (i : Int))] [(⟨t, 0, none⟩, .slice (some ⟨wb, wo, none⟩) M.length wc)] (hasC (blkAt (T := 65) (cs := [.slice (some ⟨wb, wo, none⟩) M.length wc]) 1 rfl rfl) has0) (fun _ => by kernel_rfl) ?_ : RT _ _ _ _ _ _ 10 _)
    refine (stepR (z := 4) (yldS (idxY 63 (.tmp 26) (.tmp 27) wb wo M.length wc i 7 62 (i : Int) .i64 (some 28) (fun _ => by kernel_rfl) (by kernel_rfl) (by kernel_rfl) (fun _ => by kernel_rfl) (fun _ => by kernel_rfl) Tryz.underlying63 (by kernel_rfl) (by first | rfl | assumption | simp) (by first | omega | (simp; done) | (simp; omega) | (simp at *; omega)))) (fun _ => ?_) : RT _ _ _ _ _ _ 5 _)
    refine (runR (H := (row (kE .i64) 3 (.slice A wy.length cp) wy :: blk t 65 [.slice (some ⟨wb, wo, none⟩) M.length wc] :: row rnE 62 (.slice (some ⟨wb, wo, none⟩) M.length wc) M :: H)) (z := 0) 4 [0, 2, 3, 4, 5, 32] [(0, .pointer (some ⟨t, 0, none⟩)), (2, .int .i64 0), (3, .bool false), (4, .int .i64 (i : Int)), (5, .slice A wy.length cp), (32, .bool (!x.thr))] [(⟨wb, wo + i * 7 + 4, none⟩, .bool x.thr)] (hasC (rowCell (E := rnE) (xs := M) 2 rfl (x := x) hi (j := 4) rfl) has0) (fun _ => by kernel_rfl) (endR ?_) : RT _ _ _ _ _ _ 4 _)
    cases hxt : x.thr with
    | true =>
      have hfin := hI.leaf hxt
      have hrn : runN L = ((x.id, true), (wIds L wy).foldl shiftN M) := by rw [runN, hg0]; simp only [hrd, if_true, hfin]
      refine condR (b := false) (by kernel_rfl) (fun _ => by kernel_rfl) (fun h => by cases h) (fun _ => ?_)
      refine exitR 0 (by kernel_rfl) (by kernel_rfl) ?_
      refine thenX ?_
      refine thenX ?_
      refine leaveR ?_
      refine seqR (by kernel_rfl) ?_
      refine seqR (by kernel_rfl) ?_
      refine regionR 1 (by kernel_rfl) (by kernel_rfl) ?_
      refine (run0 (z := 0) 1 [0, 2, 3, 4, 5, 9] [(0, .pointer (some ⟨t, 0, none⟩)), (2, .int .i64 0), (3, .bool false), (4, .int .i64 (i : Int)), (5, .slice A wy.length cp), (9, .int .i64 0)] (fun _ => by kernel_rfl) (endR ?_) : RT _ _ _ _ _ _ 1 _)
      refine blockR 4 (by kernel_rfl) (by kernel_rfl) ?_
      refine PT.keep (L' := [(0, .pointer (some ⟨t, 0, none⟩)), (2, .int .i64 0), (3, .bool false), (4, .int .i64 (i : Int)), (5, .slice A wy.length cp), (9, .int .i64 0)]) [0, 2, 3, 4, 5, 9] rfl ?_
      refine loopG (fun (q : List Nr × Nat) => [(0, .pointer (some ⟨t, 0, none⟩)), (2, .int .i64 0), (3, .bool false), (4, .int .i64 (i : Int)), (5, .slice A wy.length cp), (9, .int .i64 (q.2 : Int))]) (fun (q : List Nr × Nat) => (row (kE .i64) 3 (.slice A wy.length cp) wy :: blk t 65 [.slice (some ⟨wb, wo, none⟩) q.1.length wc] :: row rnE 62 (.slice (some ⟨wb, wo, none⟩) q.1.length wc) q.1 :: H)) (fun k (q : List Nr × Nat) => k + q.2 = wy.length ∧ SK q.1 ∧ DN rk (rk x.id) q.1 ∧ q.1.map (·.id) = L.map (·.id) ∧ ((wIds L wy).drop q.2).foldl shiftN q.1 = (wIds L wy).foldl shiftN M) wy.length (M, 0) (by kernel_rfl) ⟨by simp, hI.sk, hI.dn, hI.ids, rfl⟩ ?_
      rintro k2 ⟨M2, u⟩ ⟨hku, hs2, hd2, hids2, hfold⟩
      simp only at hku hs2 hd2 hids2 hfold
      have hl2 : M2.length = M.length := by have := congrArg List.length (hids2.trans hI.ids.symm); simpa using this
      refine seqR (by kernel_rfl) ?_
      refine seqR (by kernel_rfl) ?_
      refine regionR 4 (by kernel_rfl) (by kernel_rfl) ?_
      refine (run0 (z := 0) 4 [0, 2, 3, 4, 5, 9, 136] [(0, .pointer (some ⟨t, 0, none⟩)), (2, .int .i64 0), (3, .bool false), (4, .int .i64 (i : Int)), (5, .slice A wy.length cp), (9, .int .i64 (u : Int)), (136, .bool (decide ((u : Int) < (wy.length : Int))))] (fun _ => by kernel_rfl) (endR ?_) : RT _ _ _ _ _ _ 4 _)
      refine condR (b := decide ((u : Int) < (wy.length : Int))) (by kernel_rfl) (fun _ => by kernel_rfl) (fun h2 => ?_) (fun h2 => ?_)
      · skip
        have hu : u < wy.length := by have := of_decide_eq_true h2; omega
        obtain ⟨a0, ha0⟩ : ∃ a0, wy[u]? = some a0 := ⟨_, List.getElem?_eq_getElem hu⟩
        obtain ⟨a, rfl, hal⟩ := hI.way a0 (List.mem_of_getElem? ha0)
        obtain ⟨g, hg⟩ : ∃ g, M2[a]? = some g := ⟨_, List.getElem?_eq_getElem (by omega)⟩
        have hgM := List.mem_of_getElem? hg
        have hgn := hd2.now g hgM
        have hdr : (wIds L wy).drop u = g.id :: (wIds L wy).drop (u + 1) := by rw [List.drop_eq_getElem_cons (by simp [wIds]; exact hu)]; congr 1; simp only [wIds, List.getElem_map]; rw [(List.getElem?_eq_some_iff.1 ha0).2]; exact wIds_at hids2 hg
        refine PT.know (KR.isSome (s := ⟨A, cp, wy⟩) (rowKRat 0 rfl) (List.ne_nil_of_length_pos (by show 0 < wy.length; omega))) ?_
        rintro ⟨yb, yo, hA3⟩
        dsimp only at hA3
        subst hA3
        refine skipR (by kernel_rfl) ?_
        refine seqR (by kernel_rfl) ?_
        refine blockR 5 (by kernel_rfl) (by kernel_rfl) ?_
        refine seqR (by kernel_rfl) ?_
        refine drawR (fun w => Sat w (row (kE .i64) 3 (.slice (some ⟨yb, yo, none⟩) wy.length cp) wy :: blk t 65 [.slice (some ⟨wb, wo, none⟩) M2.length wc] :: row rnE 62 (.slice (some ⟨wb, wo, none⟩) M2.length wc) M2 :: H)) [] 12 (by kernel_rfl) (by kernel_rfl) (by kernel_rfl) (fun _ h => by first | exact h | exact h.tail | exact h.tail.tail | exact h.tail.tail.tail | exact h.tail.tail.tail.tail) ?_
        refine takesR [0, 1, 2, 3, 4, 5] [0, 2, 3, 4, 5, 9, 142, 143, 144] 6 [true, true, true, true, true, true, false, false, false, false, false, false] [(0, .pointer (some ⟨t, 0, none⟩)), (2, .int .i64 0), (3, .bool false), (4, .int .i64 (i : Int)), (5, .slice (some ⟨yb, yo, none⟩) wy.length cp), (9, .int .i64 (u : Int)), (142, .slice (some ⟨wb, wo, none⟩) M2.length wc), (143, .slice (some ⟨yb, yo, none⟩) wy.length cp), (144, .int .i64 (u : Int))] [(⟨t, 0, none⟩, .slice (some ⟨wb, wo, none⟩) M2.length wc)] rfl (fun _ d _ _ _ h => by cases d <;> exact h) (fun _ h => by first | exact h | exact h.tail | exact h.tail.tail | exact h.tail.tail.tail | exact h.tail.tail.tail.tail) (hasC (blkAt (T := 65) (cs := [.slice (some ⟨wb, wo, none⟩) M2.length wc]) 1 rfl rfl) has0) (fun _ => by kernel_rfl) ?_
        refine takeR1 6 5 [true, true, true, true, true, true, true, false, false, false, false, false] rfl rfl (by kernel_rfl) (fun _ d _ _ _ h => by cases d <;> exact h) (fun _ h => by first | exact h | exact h.tail | exact h.tail.tail | exact h.tail.tail.tail | exact h.tail.tail.tail.tail) (idxY 79 (.tmp 143) (.tmp 144) yb yo wy.length cp u 1 3 (u : Int) .i64 (some 145) (fun _ => by kernel_rfl) (by kernel_rfl) (by kernel_rfl) (fun _ => by kernel_rfl) (fun _ => by kernel_rfl) Tryz.underlying79 (by kernel_rfl) (by first | rfl | assumption | simp) (by first | omega | (simp; done) | (simp; omega) | (simp at *; omega))) ?_
        refine takesR [7] [0, 2, 3, 4, 5, 9, 142, 146] 4 [true, true, true, true, true, true, true, true, false, false, false, false] [(0, .pointer (some ⟨t, 0, none⟩)), (2, .int .i64 0), (3, .bool false), (4, .int .i64 (i : Int)), (5, .slice (some ⟨yb, yo, none⟩) wy.length cp), (9, .int .i64 (u : Int)), (142, .slice (some ⟨wb, wo, none⟩) M2.length wc), (146, .int .i64 (a : Int))] [(⟨yb, yo + u * 1, none⟩, .int .i64 (a : Int))] rfl (fun _ d _ _ _ h => by cases d <;> exact h) (fun _ h => by first | exact h | exact h.tail | exact h.tail.tail | exact h.tail.tail.tail | exact h.tail.tail.tail.tail) (hasC (rowCell (E := kE .i64) (xs := wy) 0 rfl (x := (a : Int)) ha0 (j := 0) rfl) has0) (fun _ => by kernel_rfl) ?_
        refine takeR1 8 3 [true, true, true, true, true, true, true, true, true, false, false, false] rfl rfl (by kernel_rfl) (fun _ d _ _ _ h => by cases d <;> exact h) (fun _ h => by first | exact h | exact h.tail | exact h.tail.tail | exact h.tail.tail.tail | exact h.tail.tail.tail.tail) (idxY 63 (.tmp 142) (.tmp 146) wb wo M2.length wc a 7 62 (a : Int) .i64 (some 147) (fun _ => by kernel_rfl) (by kernel_rfl) (by kernel_rfl) (fun _ => by kernel_rfl) (fun _ => by kernel_rfl) Tryz.underlying63 (by kernel_rfl) (by first | rfl | assumption | simp) (by first | omega | (simp; done) | (simp; omega) | (simp at *; omega))) ?_
        refine takesR [9, 10, 11] [0, 2, 3, 4, 5, 9, 10] 0 [true, true, true, true, true, true, true, true, true, true, true, true] [(0, .pointer (some ⟨t, 0, none⟩)), (2, .int .i64 0), (3, .bool false), (4, .int .i64 (i : Int)), (5, .slice (some ⟨yb, yo, none⟩) wy.length cp), (9, .int .i64 (u : Int)), (10, .int .i64 g.now)] [(⟨wb, wo + a * 7 + 6, none⟩, .int .i64 g.now)] rfl (fun _ d _ _ _ h => by cases d <;> exact h) (fun _ h => by first | exact h | exact h.tail | exact h.tail.tail | exact h.tail.tail.tail | exact h.tail.tail.tail.tail) (hasC (rowCell (E := rnE) (xs := M2) 2 rfl (x := g) hg (j := 6) rfl) has0) (fun _ => by kernel_rfl) ?_
        refine drawnR (by kernel_rfl) ?_
        refine seqR (by kernel_rfl) ?_
        refine regionR 2 (by kernel_rfl) (by kernel_rfl) ?_
        refine (run0 (z := 0) 2 [0, 2, 3, 4, 5, 9, 10, 151] [(0, .pointer (some ⟨t, 0, none⟩)), (2, .int .i64 0), (3, .bool false), (4, .int .i64 (i : Int)), (5, .slice (some ⟨yb, yo, none⟩) wy.length cp), (9, .int .i64 (u : Int)), (10, .int .i64 g.now), (151, .bool (decide (g.now > 16777216)))] (fun _ => by kernel_rfl) (endR ?_) : RT _ _ _ _ _ _ 2 _)
        refine condR (b := decide (g.now > 16777216)) (by kernel_rfl) (fun _ => by kernel_rfl) (fun h3 => ?_) (fun h3 => ?_)
        · skip
          have h3 := of_decide_eq_true h3
          have hgg : shG g.id g.now g = g := shG_no (Ne.symm (hs2.ne_par hgM))
          refine seqR (by kernel_rfl) ?_
          refine seqR (by kernel_rfl) ?_
          refine regionR 1 (by kernel_rfl) (by kernel_rfl) ?_
          refine (run0 (z := 0) 1 [0, 2, 3, 4, 5, 9, 10, 11] [(0, .pointer (some ⟨t, 0, none⟩)), (2, .int .i64 0), (3, .bool false), (4, .int .i64 (i : Int)), (5, .slice (some ⟨yb, yo, none⟩) wy.length cp), (9, .int .i64 (u : Int)), (10, .int .i64 g.now), (11, .int .i64 0)] (fun _ => by kernel_rfl) (endR ?_) : RT _ _ _ _ _ _ 1 _)
          refine blockR 6 (by kernel_rfl) (by kernel_rfl) ?_
          refine PT.keep (L' := [(0, .pointer (some ⟨t, 0, none⟩)), (2, .int .i64 0), (3, .bool false), (4, .int .i64 (i : Int)), (5, .slice (some ⟨yb, yo, none⟩) wy.length cp), (9, .int .i64 (u : Int)), (10, .int .i64 g.now), (11, .int .i64 0)]) [0, 2, 3, 4, 5, 9, 10, 11] rfl ?_
          refine loopG (fun (j : Nat) => [(0, .pointer (some ⟨t, 0, none⟩)), (2, .int .i64 0), (3, .bool false), (4, .int .i64 (i : Int)), (5, .slice (some ⟨yb, yo, none⟩) wy.length cp), (9, .int .i64 (u : Int)), (10, .int .i64 g.now), (11, .int .i64 (j : Int))]) (fun (j : Nat) => (row (kE .i64) 3 (.slice (some ⟨yb, yo, none⟩) wy.length cp) wy :: blk t 65 [.slice (some ⟨wb, wo, none⟩) ((shTo g.id g.now j M2).length) wc] :: row rnE 62 (.slice (some ⟨wb, wo, none⟩) (shTo g.id g.now j M2).length wc) (shTo g.id g.now j M2) :: H)) (fun k (j : Nat) => k + j = M2.length) M2.length 0 (by kernel_rfl) (by simp) ?_
          rintro k3 j hkj
          have hlj := shTo_len g.id g.now j M2
          have hga : (shTo g.id g.now j M2)[a]? = some g := by rw [shTo_at hg]; split <;> simp [hgg]
          have hlm2 := hs2.len
          refine seqR (by kernel_rfl) ?_
          refine seqR (by kernel_rfl) ?_
          refine regionR 7 (by kernel_rfl) (by kernel_rfl) ?_
          refine (runR (H := (row (kE .i64) 3 (.slice (some ⟨yb, yo, none⟩) wy.length cp) wy :: blk t 65 [.slice (some ⟨wb, wo, none⟩) ((shTo g.id g.now j M2).length) wc] :: row rnE 62 (.slice (some ⟨wb, wo, none⟩) (shTo g.id g.now j M2).length wc) (shTo g.id g.now j M2) :: H)) (z := 0) 7 [0, 2, 3, 4, 5, 9, 10, 11, 158] [(0, .pointer (some ⟨t, 0, none⟩)), (2, .int .i64 0), (3, .bool false), (4, .int .i64 (i : Int)), (5, .slice (some ⟨yb, yo, none⟩) wy.length cp), (9, .int .i64 (u : Int)), (10, .int .i64 g.now), (11, .int .i64 (j : Int)), (158, .bool (decide ((j : Int) < ((shTo g.id g.now j M2).length : Int))))] [(⟨t, 0, none⟩, .slice (some ⟨wb, wo, none⟩) ((shTo g.id g.now j M2).length) wc)] (hasC (blkAt (T := 65) (cs := [.slice (some ⟨wb, wo, none⟩) ((shTo g.id g.now j M2).length) wc]) 1 rfl rfl) has0) (fun _ => by kernel_rfl) (endR ?_) : RT _ _ _ _ _ _ 7 _)
          refine condR (b := decide ((j : Int) < ((shTo g.id g.now j M2).length : Int))) (by kernel_rfl) (fun _ => by kernel_rfl) (fun h4 => ?_) (fun h4 => ?_)
          · skip
            have hj : j < M2.length := by have := of_decide_eq_true h4; rw [hlj] at this; omega
            obtain ⟨z, hz⟩ : ∃ z, M2[j]? = some z := ⟨_, List.getElem?_eq_getElem hj⟩
            have hzj : (shTo g.id g.now j M2)[j]? = some z := by rw [shTo_at hz, if_neg (by omega)]
            have hzp := hd2.pass z (List.mem_of_getElem? hz)
            refine skipR (by kernel_rfl) ?_
            refine seqR (by kernel_rfl) ?_
            refine blockR 7 (by kernel_rfl) (by kernel_rfl) ?_
            refine seqR (by kernel_rfl) ?_
            refine drawR (fun w => Sat w (row (kE .i64) 3 (.slice (some ⟨yb, yo, none⟩) wy.length cp) wy :: blk t 65 [.slice (some ⟨wb, wo, none⟩) ((shTo g.id g.now j M2).length) wc] :: row rnE 62 (.slice (some ⟨wb, wo, none⟩) (shTo g.id g.now j M2).length wc) (shTo g.id g.now j M2) :: H)) [] 22 (by kernel_rfl) (by kernel_rfl) (by kernel_rfl) (fun _ h => by first | exact h | exact h.tail | exact h.tail.tail | exact h.tail.tail.tail | exact h.tail.tail.tail.tail) ?_
            refine takesR [0, 1, 2, 3, 4, 9, 10, 11, 12, 13, 14] [0, 2, 3, 4, 5, 9, 10, 11, 164, 165, 173, 174, 175] 11 [true, true, true, true, true, false, false, false, false, true, true, true, true, true, true, false, false, false, false, false, false, false] [(0, .pointer (some ⟨t, 0, none⟩)), (2, .int .i64 0), (3, .bool false), (4, .int .i64 (i : Int)), (5, .slice (some ⟨yb, yo, none⟩) wy.length cp), (9, .int .i64 (u : Int)), (10, .int .i64 g.now), (11, .int .i64 (j : Int)), (164, .slice (some ⟨wb, wo, none⟩) ((shTo g.id g.now j M2).length) wc), (165, .int .i64 (j : Int)), (173, .slice (some ⟨wb, wo, none⟩) ((shTo g.id g.now j M2).length) wc), (174, .slice (some ⟨yb, yo, none⟩) wy.length cp), (175, .int .i64 (u : Int))] [(⟨t, 0, none⟩, .slice (some ⟨wb, wo, none⟩) ((shTo g.id g.now j M2).length) wc), (⟨t, 0, none⟩, .slice (some ⟨wb, wo, none⟩) ((shTo g.id g.now j M2).length) wc)] rfl (fun _ d _ _ _ h => by cases d <;> exact h) (fun _ h => by first | exact h | exact h.tail | exact h.tail.tail | exact h.tail.tail.tail | exact h.tail.tail.tail.tail) (hasC (blkAt (T := 65) (cs := [.slice (some ⟨wb, wo, none⟩) ((shTo g.id g.now j M2).length) wc]) 1 rfl rfl) (hasC (blkAt (T := 65) (cs := [.slice (some ⟨wb, wo, none⟩) ((shTo g.id g.now j M2).length) wc]) 1 rfl rfl) has0)) (fun _ => by kernel_rfl) ?_
            refine takeR1 5 10 [true, true, true, true, true, true, false, false, false, true, true, true, true, true, true, false, false, false, false, false, false, false] rfl rfl (by kernel_rfl) (fun _ d _ _ _ h => by cases d <;> exact h) (fun _ h => by first | exact h | exact h.tail | exact h.tail.tail | exact h.tail.tail.tail | exact h.tail.tail.tail.tail) (idxY 63 (.tmp 164) (.tmp 165) wb wo ((shTo g.id g.now j M2).length) wc j 7 62 (j : Int) .i64 (some 166) (fun _ => by kernel_rfl) (by kernel_rfl) (by kernel_rfl) (fun _ => by kernel_rfl) (fun _ => by kernel_rfl) Tryz.underlying63 (by kernel_rfl) (by first | rfl | assumption | simp) (by first | omega | (simp; done) | (simp; omega) | (simp at *; omega))) ?_
            refine takesR [6, 7, 8] [0, 2, 3, 4, 5, 9, 10, 11, 173, 174, 175, 169] 7 [true, true, true, true, true, true, true, true, true, true, true, true, true, true, true, false, false, false, false, false, false, false] [(0, .pointer (some ⟨t, 0, none⟩)), (2, .int .i64 0), (3, .bool false), (4, .int .i64 (i : Int)), (5, .slice (some ⟨yb, yo, none⟩) wy.length cp), (9, .int .i64 (u : Int)), (10, .int .i64 g.now), (11, .int .i64 (j : Int)), (173, .slice (some ⟨wb, wo, none⟩) ((shTo g.id g.now j M2).length) wc), (174, .slice (some ⟨yb, yo, none⟩) wy.length cp), (175, .int .i64 (u : Int)), (169, .int .i64 z.par)] [(⟨wb, wo + j * 7 + 1, none⟩, .int .i64 z.par)] rfl (fun _ d _ _ _ h => by cases d <;> exact h) (fun _ h => by first | exact h | exact h.tail | exact h.tail.tail | exact h.tail.tail.tail | exact h.tail.tail.tail.tail) (hasC (rowCell (E := rnE) (xs := shTo g.id g.now j M2) 2 rfl (x := z) hzj (j := 1) rfl) has0) (fun _ => by kernel_rfl) ?_
            refine takeR1 15 6 [true, true, true, true, true, true, true, true, true, true, true, true, true, true, true, true, false, false, false, false, false, false] rfl rfl (by kernel_rfl) (fun _ d _ _ _ h => by cases d <;> exact h) (fun _ h => by first | exact h | exact h.tail | exact h.tail.tail | exact h.tail.tail.tail | exact h.tail.tail.tail.tail) (idxY 79 (.tmp 174) (.tmp 175) yb yo wy.length cp u 1 3 (u : Int) .i64 (some 176) (fun _ => by kernel_rfl) (by kernel_rfl) (by kernel_rfl) (fun _ => by kernel_rfl) (fun _ => by kernel_rfl) Tryz.underlying79 (by kernel_rfl) (by first | rfl | assumption | simp) (by first | omega | (simp; done) | (simp; omega) | (simp at *; omega))) ?_
            refine takesR [16] [0, 2, 3, 4, 5, 9, 10, 11, 173, 169, 177] 5 [true, true, true, true, true, true, true, true, true, true, true, true, true, true, true, true, true, false, false, false, false, false] [(0, .pointer (some ⟨t, 0, none⟩)), (2, .int .i64 0), (3, .bool false), (4, .int .i64 (i : Int)), (5, .slice (some ⟨yb, yo, none⟩) wy.length cp), (9, .int .i64 (u : Int)), (10, .int .i64 g.now), (11, .int .i64 (j : Int)), (173, .slice (some ⟨wb, wo, none⟩) ((shTo g.id g.now j M2).length) wc), (169, .int .i64 z.par), (177, .int .i64 (a : Int))] [(⟨yb, yo + u * 1, none⟩, .int .i64 (a : Int))] rfl (fun _ d _ _ _ h => by cases d <;> exact h) (fun _ h => by first | exact h | exact h.tail | exact h.tail.tail | exact h.tail.tail.tail | exact h.tail.tail.tail.tail) (hasC (rowCell (E := kE .i64) (xs := wy) 0 rfl (x := (a : Int)) ha0 (j := 0) rfl) has0) (fun _ => by kernel_rfl) ?_
            refine takeR1 17 4 [true, true, true, true, true, true, true, true, true, true, true, true, true, true, true, true, true, true, false, false, false, false] rfl rfl (by kernel_rfl) (fun _ d _ _ _ h => by cases d <;> exact h) (fun _ h => by first | exact h | exact h.tail | exact h.tail.tail | exact h.tail.tail.tail | exact h.tail.tail.tail.tail) (idxY 63 (.tmp 173) (.tmp 177) wb wo ((shTo g.id g.now j M2).length) wc a 7 62 (a : Int) .i64 (some 178) (fun _ => by kernel_rfl) (by kernel_rfl) (by kernel_rfl) (fun _ => by kernel_rfl) (fun _ => by kernel_rfl) Tryz.underlying63 (by kernel_rfl) (by first | rfl | assumption | simp) (by first | omega | (simp; done) | (simp; omega) | (simp at *; omega))) ?_
            refine takesR [18, 19, 20, 21] [0, 2, 3, 4, 5, 9, 10, 11, 182] 0 [true, true, true, true, true, true, true, true, true, true, true, true, true, true, true, true, true, true, true, true, true, true] [(0, .pointer (some ⟨t, 0, none⟩)), (2, .int .i64 0), (3, .bool false), (4, .int .i64 (i : Int)), (5, .slice (some ⟨yb, yo, none⟩) wy.length cp), (9, .int .i64 (u : Int)), (10, .int .i64 g.now), (11, .int .i64 (j : Int)), (182, .bool (z.par == g.id))] [(⟨wb, wo + a * 7, none⟩, .int .i64 g.id)] rfl (fun _ d _ _ _ h => by cases d <;> exact h) (fun _ h => by first | exact h | exact h.tail | exact h.tail.tail | exact h.tail.tail.tail | exact h.tail.tail.tail.tail) (hasC (rowCell (E := rnE) (xs := shTo g.id g.now j M2) 2 rfl (x := g) hga (j := 0) rfl) has0) (fun _ => by kernel_rfl) ?_
            refine drawnR (by kernel_rfl) ?_
            refine condR (b := z.par == g.id) (by kernel_rfl) (fun _ => by kernel_rfl) (fun h5 => ?_) (fun h5 => ?_)
            · skip
              refine drawR (fun w => Sat w (row (kE .i64) 3 (.slice (some ⟨yb, yo, none⟩) wy.length cp) wy :: blk t 65 [.slice (some ⟨wb, wo, none⟩) ((shTo g.id g.now j M2).length) wc] :: row rnE 62 (.slice (some ⟨wb, wo, none⟩) (shTo g.id g.now j M2).length wc) (shTo g.id g.now j M2) :: H)) [20] 21 (by kernel_rfl) (by kernel_rfl) (by kernel_rfl) (fun _ h => by first | exact h | exact h.tail | exact h.tail.tail | exact h.tail.tail.tail | exact h.tail.tail.tail.tail) ?_
              refine takesR [0, 1, 2, 3, 4, 5, 6, 7, 8, 9, 14] [0, 2, 3, 4, 5, 9, 10, 11, 186, 187, 191, 192, 197] 10 [true, true, true, true, true, true, true, true, true, true, false, false, false, false, true, false, false, false, false, false, false] [(0, .pointer (some ⟨t, 0, none⟩)), (2, .int .i64 0), (3, .bool false), (4, .int .i64 (i : Int)), (5, .slice (some ⟨yb, yo, none⟩) wy.length cp), (9, .int .i64 (u : Int)), (10, .int .i64 g.now), (11, .int .i64 (j : Int)), (186, .slice (some ⟨wb, wo, none⟩) ((shTo g.id g.now j M2).length) wc), (187, .int .i64 (j : Int)), (191, .slice (some ⟨wb, wo, none⟩) ((shTo g.id g.now j M2).length) wc), (192, .int .i64 (j : Int)), (197, .int .i64 g.now)] [(⟨t, 0, none⟩, .slice (some ⟨wb, wo, none⟩) ((shTo g.id g.now j M2).length) wc), (⟨t, 0, none⟩, .slice (some ⟨wb, wo, none⟩) ((shTo g.id g.now j M2).length) wc)] rfl (fun _ d _ _ _ h => by cases d <;> exact h) (fun _ h => by first | exact h | exact h.tail | exact h.tail.tail | exact h.tail.tail.tail | exact h.tail.tail.tail.tail) (hasC (blkAt (T := 65) (cs := [.slice (some ⟨wb, wo, none⟩) ((shTo g.id g.now j M2).length) wc]) 1 rfl rfl) (hasC (blkAt (T := 65) (cs := [.slice (some ⟨wb, wo, none⟩) ((shTo g.id g.now j M2).length) wc]) 1 rfl rfl) has0)) (fun _ => by kernel_rfl) ?_
              refine takeR1 10 9 [true, true, true, true, true, true, true, true, true, true, true, false, false, false, true, false, false, false, false, false, false] rfl rfl (by kernel_rfl) (fun _ d _ _ _ h => by cases d <;> exact h) (fun _ h => by first | exact h | exact h.tail | exact h.tail.tail | exact h.tail.tail.tail | exact h.tail.tail.tail.tail) (idxY 63 (.tmp 191) (.tmp 192) wb wo ((shTo g.id g.now j M2).length) wc j 7 62 (j : Int) .i64 (some 193) (fun _ => by kernel_rfl) (by kernel_rfl) (by kernel_rfl) (fun _ => by kernel_rfl) (fun _ => by kernel_rfl) Tryz.underlying63 (by kernel_rfl) (by first | rfl | assumption | simp) (by first | omega | (simp; done) | (simp; omega) | (simp at *; omega))) ?_
              refine takesR [11, 12, 13, 15, 16] [0, 2, 3, 4, 5, 9, 10, 11, 186, 187, 199] 4 [true, true, true, true, true, true, true, true, true, true, true, true, true, true, true, true, true, false, false, false, false] [(0, .pointer (some ⟨t, 0, none⟩)), (2, .int .i64 0), (3, .bool false), (4, .int .i64 (i : Int)), (5, .slice (some ⟨yb, yo, none⟩) wy.length cp), (9, .int .i64 (u : Int)), (10, .int .i64 g.now), (11, .int .i64 (j : Int)), (186, .slice (some ⟨wb, wo, none⟩) ((shTo g.id g.now j M2).length) wc), (187, .int .i64 (j : Int)), (199, .int .i64 (mxI 0 (IntKind.i64.wrap (z.pass - g.now))))] [(⟨wb, wo + j * 7 + 3, none⟩, .int .i64 z.pass)] rfl (fun _ d _ _ _ h => by cases d <;> exact h) (fun _ h => by first | exact h | exact h.tail | exact h.tail.tail | exact h.tail.tail.tail | exact h.tail.tail.tail.tail) (hasC (rowCell (E := rnE) (xs := shTo g.id g.now j M2) 2 rfl (x := z) hzj (j := 3) rfl) has0) (fun _ => by kernel_rfl) ?_
              refine takeR1 17 3 [true, true, true, true, true, true, true, true, true, true, true, true, true, true, true, true, true, true, false, false, false] rfl rfl (by kernel_rfl) (fun _ d _ _ _ h => by cases d <;> exact h) (fun _ h => by first | exact h | exact h.tail | exact h.tail.tail | exact h.tail.tail.tail | exact h.tail.tail.tail.tail) (idxY 63 (.tmp 186) (.tmp 187) wb wo ((shTo g.id g.now j M2).length) wc j 7 62 (j : Int) .i64 (some 200) (fun _ => by kernel_rfl) (by kernel_rfl) (by kernel_rfl) (fun _ => by kernel_rfl) (fun _ => by kernel_rfl) Tryz.underlying63 (by kernel_rfl) (by first | rfl | assumption | simp) (by first | omega | (simp; done) | (simp; omega) | (simp at *; omega))) ?_
              refine takesR [18, 19] [0, 2, 3, 4, 5, 9, 10, 11, 199, 202] 1 [true, true, true, true, true, true, true, true, true, true, true, true, true, true, true, true, true, true, true, true, false] [(0, .pointer (some ⟨t, 0, none⟩)), (2, .int .i64 0), (3, .bool false), (4, .int .i64 (i : Int)), (5, .slice (some ⟨yb, yo, none⟩) wy.length cp), (9, .int .i64 (u : Int)), (10, .int .i64 g.now), (11, .int .i64 (j : Int)), (199, .int .i64 (mxI 0 (IntKind.i64.wrap (z.pass - g.now)))), (202, .pointer (some ⟨wb, wo + j * 7 + 3, none⟩))] [] rfl (fun _ d _ _ _ h => by cases d <;> exact h) (fun _ h => by first | exact h | exact h.tail | exact h.tail.tail | exact h.tail.tail.tail | exact h.tail.tail.tail.tail) has0 (fun _ => by kernel_rfl) ?_
              rw [show IntKind.i64.wrap (z.pass - g.now) = (z.pass - g.now) by rw [w64 (by omega) (by omega)]]
              refine DT.pick 2 rfl ?_
              refine oneR 20 0 [true, true, true, true, true, true, true, true, true, true, true, true, true, true, true, true, true, true, true, true, true] rfl rfl (by kernel_rfl) (setS (E := rnE) (J := j) (j := 3) z (shG g.id g.now z) (.int .i64 (mxI 0 (z.pass - g.now))) ⟨wb, wo + j * 7 + 3, none⟩ (fun _ => by kernel_rfl) (by first | rfl | simp) (hzj) (by rw [shG, if_pos h5]; rfl) (by decide)) (fun _ _ h hn => by first | exact h | exact h.tail | exact h.tail.tail | exact h.tail.tail.tail | exact h.tail.tail.tail.tail | exact absurd hn (by decide)) (fun _ => ?_)
              refine drawnR (by kernel_rfl) ?_
              rw [show (shTo g.id g.now j M2).length = (shTo g.id g.now (j + 1) M2).length by rw [hlj, shTo_len]]
              rw [show ((shTo g.id g.now j M2).set j (shG g.id g.now z)) = (shTo g.id g.now (j + 1) M2) by rw [shTo_succ hz]]
              refine regionR 3 (by kernel_rfl) (by kernel_rfl) ?_
              refine (run0 (z := 0) 3 [0, 2, 3, 4, 5, 9, 10, 11] [(0, .pointer (some ⟨t, 0, none⟩)), (2, .int .i64 0), (3, .bool false), (4, .int .i64 (i : Int)), (5, .slice (some ⟨yb, yo, none⟩) wy.length cp), (9, .int .i64 (u : Int)), (10, .int .i64 g.now), (11, .int .i64 (IntKind.i64.wrap ((j : Int) + 1)))] (fun _ => by kernel_rfl) (endR ?_) : RT _ _ _ _ _ _ 3 _)
              rw [show IntKind.i64.wrap ((j : Int) + 1) = ((j : Int) + 1) by rw [w64 (by omega) (by omega)]]
              refine PT.pick 0 rfl ?_
              refine PT.pick 2 rfl ?_
              refine PT.pick 2 rfl ?_
              refine PT.keep (L' := [(0, .pointer (some ⟨t, 0, none⟩)), (2, .int .i64 0), (3, .bool false), (4, .int .i64 (i : Int)), (5, .slice (some ⟨yb, yo, none⟩) wy.length cp), (9, .int .i64 (u : Int)), (10, .int .i64 g.now), (11, .int .i64 ((j : Int) + 1))]) [0, 2, 3, 4, 5, 9, 10, 11] rfl ?_
              exact againG (k3 - 1) (j + 1) rfl rfl (by omega) (by omega)
            · skip
              have hse : shTo g.id g.now j M2 = shTo g.id g.now (j + 1) M2 := by rw [shTo_succ hz, shG_no (by simpa using h5), set_self hzj]
              refine skipR (by kernel_rfl) ?_
              refine regionR 3 (by kernel_rfl) (by kernel_rfl) ?_
              refine (run0 (z := 0) 3 [0, 2, 3, 4, 5, 9, 10, 11] [(0, .pointer (some ⟨t, 0, none⟩)), (2, .int .i64 0), (3, .bool false), (4, .int .i64 (i : Int)), (5, .slice (some ⟨yb, yo, none⟩) wy.length cp), (9, .int .i64 (u : Int)), (10, .int .i64 g.now), (11, .int .i64 (IntKind.i64.wrap ((j : Int) + 1)))] (fun _ => by kernel_rfl) (endR ?_) : RT _ _ _ _ _ _ 3 _)
              rw [show IntKind.i64.wrap ((j : Int) + 1) = ((j : Int) + 1) by rw [w64 (by omega) (by omega)]]
              rw [hse]
              refine PT.keep (L' := [(0, .pointer (some ⟨t, 0, none⟩)), (2, .int .i64 0), (3, .bool false), (4, .int .i64 (i : Int)), (5, .slice (some ⟨yb, yo, none⟩) wy.length cp), (9, .int .i64 (u : Int)), (10, .int .i64 g.now), (11, .int .i64 ((j : Int) + 1))]) [0, 2, 3, 4, 5, 9, 10, 11] rfl ?_
              exact againG (k3 - 1) (j + 1) rfl rfl (by omega) (by omega)
          · skip
            have hj : j = M2.length := by have := of_decide_eq_false h4; rw [hlj] at this; omega
            have hmm : shTo g.id g.now j M2 = M2.map (shG g.id g.now) := by rw [hj, shTo_all]
            have hM3n : ((M2.map (shG g.id g.now)).map (·.id)).Nodup := (hs2.map _ (shG_skel _ _)).nd
            have hga3 : (M2.map (shG g.id g.now))[a]? = some g := by rw [List.getElem?_map, hg, Option.map_some, hgg]
            refine exitR 6 (by kernel_rfl) (by kernel_rfl) ?_
            refine thenX ?_
            refine thenX ?_
            refine leaveR ?_
            refine drawR (fun w => Sat w (row (kE .i64) 3 (.slice (some ⟨yb, yo, none⟩) wy.length cp) wy :: blk t 65 [.slice (some ⟨wb, wo, none⟩) ((shTo g.id g.now j M2).length) wc] :: row rnE 62 (.slice (some ⟨wb, wo, none⟩) (shTo g.id g.now j M2).length wc) (shTo g.id g.now j M2) :: H)) [10] 11 (by kernel_rfl) (by kernel_rfl) (by kernel_rfl) (fun _ h => by first | exact h | exact h.tail | exact h.tail.tail | exact h.tail.tail.tail | exact h.tail.tail.tail.tail) ?_
            refine takesR [0, 1, 2, 3, 4, 5] [0, 2, 3, 4, 5, 9, 206, 207, 208] 5 [true, true, true, true, true, true, false, false, false, false, false] [(0, .pointer (some ⟨t, 0, none⟩)), (2, .int .i64 0), (3, .bool false), (4, .int .i64 (i : Int)), (5, .slice (some ⟨yb, yo, none⟩) wy.length cp), (9, .int .i64 (u : Int)), (206, .slice (some ⟨wb, wo, none⟩) ((shTo g.id g.now j M2).length) wc), (207, .slice (some ⟨yb, yo, none⟩) wy.length cp), (208, .int .i64 (u : Int))] [(⟨t, 0, none⟩, .slice (some ⟨wb, wo, none⟩) ((shTo g.id g.now j M2).length) wc)] rfl (fun _ d _ _ _ h => by cases d <;> exact h) (fun _ h => by first | exact h | exact h.tail | exact h.tail.tail | exact h.tail.tail.tail | exact h.tail.tail.tail.tail) (hasC (blkAt (T := 65) (cs := [.slice (some ⟨wb, wo, none⟩) ((shTo g.id g.now j M2).length) wc]) 1 rfl rfl) has0) (fun _ => by kernel_rfl) ?_
            refine takeR1 6 4 [true, true, true, true, true, true, true, false, false, false, false] rfl rfl (by kernel_rfl) (fun _ d _ _ _ h => by cases d <;> exact h) (fun _ h => by first | exact h | exact h.tail | exact h.tail.tail | exact h.tail.tail.tail | exact h.tail.tail.tail.tail) (idxY 79 (.tmp 207) (.tmp 208) yb yo wy.length cp u 1 3 (u : Int) .i64 (some 209) (fun _ => by kernel_rfl) (by kernel_rfl) (by kernel_rfl) (fun _ => by kernel_rfl) (fun _ => by kernel_rfl) Tryz.underlying79 (by kernel_rfl) (by first | rfl | assumption | simp) (by first | omega | (simp; done) | (simp; omega) | (simp at *; omega))) ?_
            refine takesR [7] [0, 2, 3, 4, 5, 9, 206, 210] 3 [true, true, true, true, true, true, true, true, false, false, false] [(0, .pointer (some ⟨t, 0, none⟩)), (2, .int .i64 0), (3, .bool false), (4, .int .i64 (i : Int)), (5, .slice (some ⟨yb, yo, none⟩) wy.length cp), (9, .int .i64 (u : Int)), (206, .slice (some ⟨wb, wo, none⟩) ((shTo g.id g.now j M2).length) wc), (210, .int .i64 (a : Int))] [(⟨yb, yo + u * 1, none⟩, .int .i64 (a : Int))] rfl (fun _ d _ _ _ h => by cases d <;> exact h) (fun _ h => by first | exact h | exact h.tail | exact h.tail.tail | exact h.tail.tail.tail | exact h.tail.tail.tail.tail) (hasC (rowCell (E := kE .i64) (xs := wy) 0 rfl (x := (a : Int)) ha0 (j := 0) rfl) has0) (fun _ => by kernel_rfl) ?_
            refine takeR1 8 2 [true, true, true, true, true, true, true, true, true, false, false] rfl rfl (by kernel_rfl) (fun _ d _ _ _ h => by cases d <;> exact h) (fun _ h => by first | exact h | exact h.tail | exact h.tail.tail | exact h.tail.tail.tail | exact h.tail.tail.tail.tail) (idxY 63 (.tmp 206) (.tmp 210) wb wo ((shTo g.id g.now j M2).length) wc a 7 62 (a : Int) .i64 (some 211) (fun _ => by kernel_rfl) (by kernel_rfl) (by kernel_rfl) (fun _ => by kernel_rfl) (fun _ => by kernel_rfl) Tryz.underlying63 (by kernel_rfl) (by first | rfl | assumption | simp) (by first | omega | (simp; done) | (simp; omega) | (simp at *; omega))) ?_
            refine takesR [9] [0, 2, 3, 4, 5, 9, 212] 1 [true, true, true, true, true, true, true, true, true, true, false] [(0, .pointer (some ⟨t, 0, none⟩)), (2, .int .i64 0), (3, .bool false), (4, .int .i64 (i : Int)), (5, .slice (some ⟨yb, yo, none⟩) wy.length cp), (9, .int .i64 (u : Int)), (212, .pointer (some ⟨wb, wo + a * 7 + 6, none⟩))] [] rfl (fun _ d _ _ _ h => by cases d <;> exact h) (fun _ h => by first | exact h | exact h.tail | exact h.tail.tail | exact h.tail.tail.tail | exact h.tail.tail.tail.tail) has0 (fun _ => by kernel_rfl) ?_
            refine DT.pick 2 rfl ?_
            refine oneR 10 0 [true, true, true, true, true, true, true, true, true, true, true] rfl rfl (by kernel_rfl) (setS (E := rnE) (J := a) (j := 6) g (nwF 0 g) (.int .i64 0) ⟨wb, wo + a * 7 + 6, none⟩ (fun _ => by kernel_rfl) (by first | rfl | simp) (hga) (rfl) (by decide)) (fun _ _ h hn => by first | exact h | exact h.tail | exact h.tail.tail | exact h.tail.tail.tail | exact h.tail.tail.tail.tail | exact absurd hn (by decide)) (fun _ => ?_)
            refine drawnR (by kernel_rfl) ?_
            have hsl : shiftN M2 g.id = upN (M2.map (shG g.id g.now)) g.id (nwF 0) := shiftN_eq hs2.nd hgM h3
            rw [show (shTo g.id g.now j M2).length = (shiftN M2 g.id).length by rw [hlj, hsl]; simp [upN]]
            rw [show ((shTo g.id g.now j M2).set a (nwF 0 g)) = (shiftN M2 g.id) by rw [hsl, hmm]; exact set_at hM3n hga3 (nwF 0)]
            refine regionR 3 (by kernel_rfl) (by kernel_rfl) ?_
            refine (run0 (z := 0) 3 [0, 2, 3, 4, 5, 9] [(0, .pointer (some ⟨t, 0, none⟩)), (2, .int .i64 0), (3, .bool false), (4, .int .i64 (i : Int)), (5, .slice (some ⟨yb, yo, none⟩) wy.length cp), (9, .int .i64 (IntKind.i64.wrap ((u : Int) + 1)))] (fun _ => by kernel_rfl) (endR ?_) : RT _ _ _ _ _ _ 3 _)
            rw [show IntKind.i64.wrap ((u : Int) + 1) = ((u : Int) + 1) by rw [w64 (by omega) (by omega)]]
            refine PT.pick 0 rfl ?_
            refine PT.pick 2 rfl ?_
            refine PT.pick 2 rfl ?_
            refine PT.keep (L' := [(0, .pointer (some ⟨t, 0, none⟩)), (2, .int .i64 0), (3, .bool false), (4, .int .i64 (i : Int)), (5, .slice (some ⟨yb, yo, none⟩) wy.length cp), (9, .int .i64 ((u : Int) + 1))]) [0, 2, 3, 4, 5, 9] rfl ?_
            exact againG (k2 - 1) (shiftN M2 g.id, u + 1) rfl rfl (by omega) ⟨by simp only; omega, hs2.shift hgM, hd2.shift hs2 hgM, by simp only; rw [hsl, upN_id (nwF_skel 0).id, ← hids2, List.map_map]; exact List.map_congr_left fun v _ => (shG_skel _ _).id v, by simp only; rw [← hfold, hdr, List.foldl_cons]⟩
        · skip
          have h3 := of_decide_eq_false h3
          refine skipR (by kernel_rfl) ?_
          refine regionR 3 (by kernel_rfl) (by kernel_rfl) ?_
          refine (run0 (z := 0) 3 [0, 2, 3, 4, 5, 9] [(0, .pointer (some ⟨t, 0, none⟩)), (2, .int .i64 0), (3, .bool false), (4, .int .i64 (i : Int)), (5, .slice (some ⟨yb, yo, none⟩) wy.length cp), (9, .int .i64 (IntKind.i64.wrap ((u : Int) + 1)))] (fun _ => by kernel_rfl) (endR ?_) : RT _ _ _ _ _ _ 3 _)
          rw [show IntKind.i64.wrap ((u : Int) + 1) = ((u : Int) + 1) by rw [w64 (by omega) (by omega)]]
          refine PT.keep (L' := [(0, .pointer (some ⟨t, 0, none⟩)), (2, .int .i64 0), (3, .bool false), (4, .int .i64 (i : Int)), (5, .slice (some ⟨yb, yo, none⟩) wy.length cp), (9, .int .i64 ((u : Int) + 1))]) [0, 2, 3, 4, 5, 9] rfl ?_
          exact againG (k2 - 1) (M2, u + 1) rfl rfl (by omega) ⟨by simp only; omega, hs2, hd2, hids2, by simp only; rw [← hfold, hdr, List.foldl_cons, shiftN_no hs2.nd hgM h3]⟩
      · skip
        have hu : u = wy.length := by have := of_decide_eq_false h2; omega
        have hM2 : M2 = (wIds L wy).foldl shiftN M := by rw [← hfold, List.drop_of_length_le (by simp [wIds]; omega)]; rfl
        obtain ⟨x2, hx2⟩ : ∃ x2, M2[i]? = some x2 := ⟨_, List.getElem?_eq_getElem (by omega)⟩
        have hx2i : x2.id = x.id := by
          have h1 := congrArg (fun l : List Int => l[i]?) (hids2.trans hI.ids.symm)
          simp only [List.getElem?_map, hx2, hi, Option.map_some, Option.some.injEq] at h1
          exact h1
        refine exitR 4 (by kernel_rfl) (by kernel_rfl) ?_
        refine thenX ?_
        refine thenX ?_
        refine leaveR ?_
        refine seqR (by kernel_rfl) ?_
        refine regionR 11 (by kernel_rfl) (by kernel_rfl) ?_
        refine (runR (H := (row (kE .i64) 3 (.slice A wy.length cp) wy :: blk t 65 [.slice (some ⟨wb, wo, none⟩) M2.length wc] :: row rnE 62 (.slice (some ⟨wb, wo, none⟩) M2.length wc) M2 :: H)) (z := 6) 5 [2, 3, 216, 217] [(2, .int .i64 0), (3, .bool false), (216, .slice (some ⟨wb, wo, none⟩) M2.length wc), (217, .int .i64 (i : Int))] [(⟨t, 0, none⟩, .slice (some ⟨wb, wo, none⟩) M2.length wc)] (hasC (blkAt (T := 65) (cs := [.slice (some ⟨wb, wo, none⟩) M2.length wc]) 1 rfl rfl) has0) (fun _ => by kernel_rfl) ?_ : RT _ _ _ _ _ _ 11 _)
        refine (stepR (z := 5) (yldS (idxY 63 (.tmp 216) (.tmp 217) wb wo M2.length wc i 7 62 (i : Int) .i64 (some 218) (fun _ => by kernel_rfl) (by kernel_rfl) (by kernel_rfl) (fun _ => by kernel_rfl) (fun _ => by kernel_rfl) Tryz.underlying63 (by kernel_rfl) (by first | rfl | assumption | simp) (by first | omega | (simp; done) | (simp; omega) | (simp at *; omega)))) (fun _ => ?_) : RT _ _ _ _ _ _ 6 _)
        refine (runR (H := (row (kE .i64) 3 (.slice A wy.length cp) wy :: blk t 65 [.slice (some ⟨wb, wo, none⟩) M2.length wc] :: row rnE 62 (.slice (some ⟨wb, wo, none⟩) M2.length wc) M2 :: H)) (z := 0) 5 [2, 3] [(2, .int .i64 x2.id), (3, .bool true)] [(⟨wb, wo + i * 7, none⟩, .int .i64 x2.id)] (hasC (rowCell (E := rnE) (xs := M2) 2 rfl (x := x2) hx2 (j := 0) rfl) has0) (fun _ => by kernel_rfl) (endR ?_) : RT _ _ _ _ _ _ 5 _)
        refine retR (by kernel_rfl) ?_
        refine PT.drop ?_
        refine done0 (.tuple #[.int .i64 x2.id, .bool true]) (fun _ => by kernel_rfl) (fun w hs => ?_) .ret (.inr rfl)
        exact ⟨(), by rw [hrn, hx2i], by rw [hrn]; rw [← hM2]; exact Sat.closeRt (List.ne_nil_of_mem (List.mem_of_getElem? hx2)) hs⟩
    | false =>
      have hkx : KX M x.id := (hI.rd x hxM hxt).1 hI.rdy
      have hsrM : (M.map (·.id)).Pairwise (· < ·) := by rw [hI.ids]; exact hsr
      refine condR (b := true) (by kernel_rfl) (fun _ => by kernel_rfl) (fun _ => ?_) (fun h => by cases h)
      refine skipR (by kernel_rfl) ?_
      refine blockR 1 (by kernel_rfl) (by kernel_rfl) ?_
      refine seqR (by kernel_rfl) ?_
      refine regionR 1 (by kernel_rfl) (by kernel_rfl) ?_
      refine (run0 (z := 0) 1 [0, 2, 3, 4, 5, 6] [(0, .pointer (some ⟨t, 0, none⟩)), (2, .int .i64 0), (3, .bool false), (4, .int .i64 (i : Int)), (5, .slice A wy.length cp), (6, .int .i64 (-1))] (fun _ => by kernel_rfl) (endR ?_) : RT _ _ _ _ _ _ 1 _)
      refine seqR (by kernel_rfl) ?_
      refine seqR (by kernel_rfl) ?_
      refine regionR 1 (by kernel_rfl) (by kernel_rfl) ?_
      refine (run0 (z := 0) 1 [0, 2, 3, 4, 5, 6, 7] [(0, .pointer (some ⟨t, 0, none⟩)), (2, .int .i64 0), (3, .bool false), (4, .int .i64 (i : Int)), (5, .slice A wy.length cp), (6, .int .i64 (-1)), (7, .int .i64 0)] (fun _ => by kernel_rfl) (endR ?_) : RT _ _ _ _ _ _ 1 _)
      refine blockR 2 (by kernel_rfl) (by kernel_rfl) ?_
      refine PT.keep (L' := [(0, .pointer (some ⟨t, 0, none⟩)), (2, .int .i64 0), (3, .bool false), (4, .int .i64 (i : Int)), (5, .slice A wy.length cp), (6, .int .i64 (-1)), (7, .int .i64 0)]) [0, 2, 3, 4, 5, 6, 7] rfl ?_
      refine loopG (fun (q : Int × Nat) => [(0, .pointer (some ⟨t, 0, none⟩)), (2, .int .i64 0), (3, .bool false), (4, .int .i64 (i : Int)), (5, .slice A wy.length cp), (6, .int .i64 q.1), (7, .int .i64 (q.2 : Int))]) (fun (q : Int × Nat) => (row (kE .i64) 3 (.slice A wy.length cp) wy :: blk t 65 [.slice (some ⟨wb, wo, none⟩) M.length wc] :: row rnE 62 (.slice (some ⟨wb, wo, none⟩) M.length wc) M :: H)) (fun k (q : Int × Nat) => k + q.2 = M.length ∧ Best M x.id q.2 q.1) M.length (-1, 0) (by kernel_rfl) ⟨by simp, Best.start M x.id⟩ ?_
      rintro k2 ⟨bs, u⟩ ⟨hku, hB⟩
      simp only at hku hB
      refine seqR (by kernel_rfl) ?_
      refine seqR (by kernel_rfl) ?_
      refine regionR 7 (by kernel_rfl) (by kernel_rfl) ?_
      refine (runR (H := (row (kE .i64) 3 (.slice A wy.length cp) wy :: blk t 65 [.slice (some ⟨wb, wo, none⟩) M.length wc] :: row rnE 62 (.slice (some ⟨wb, wo, none⟩) M.length wc) M :: H)) (z := 0) 7 [0, 2, 3, 4, 5, 6, 7, 39] [(0, .pointer (some ⟨t, 0, none⟩)), (2, .int .i64 0), (3, .bool false), (4, .int .i64 (i : Int)), (5, .slice A wy.length cp), (6, .int .i64 bs), (7, .int .i64 (u : Int)), (39, .bool (decide ((u : Int) < (M.length : Int))))] [(⟨t, 0, none⟩, .slice (some ⟨wb, wo, none⟩) M.length wc)] (hasC (blkAt (T := 65) (cs := [.slice (some ⟨wb, wo, none⟩) M.length wc]) 1 rfl rfl) has0) (fun _ => by kernel_rfl) (endR ?_) : RT _ _ _ _ _ _ 7 _)
      refine condR (b := decide ((u : Int) < (M.length : Int))) (by kernel_rfl) (fun _ => by kernel_rfl) (fun h2 => ?_) (fun h2 => ?_)
      · skip
        have hu : u < M.length := by have := of_decide_eq_true h2; omega
        obtain ⟨z, hz⟩ : ∃ z, M[u]? = some z := ⟨_, List.getElem?_eq_getElem hu⟩
        have hB2 := hB; rcases hB2 with ⟨hb1, _⟩ | ⟨m, y, hb1, hmu, hym, _⟩
        · skip
          subst hb1
          refine skipR (by kernel_rfl) ?_
          refine seqR (by kernel_rfl) ?_
          refine blockR 3 (by kernel_rfl) (by kernel_rfl) ?_
          refine seqR (by kernel_rfl) ?_
          refine regionR 10 (by kernel_rfl) (by kernel_rfl) ?_
          refine (runR (H := (row (kE .i64) 3 (.slice A wy.length cp) wy :: blk t 65 [.slice (some ⟨wb, wo, none⟩) M.length wc] :: row rnE 62 (.slice (some ⟨wb, wo, none⟩) M.length wc) M :: H)) (z := 5) 5 [0, 2, 3, 4, 5, 6, 7, 45, 46] [(0, .pointer (some ⟨t, 0, none⟩)), (2, .int .i64 0), (3, .bool false), (4, .int .i64 (i : Int)), (5, .slice A wy.length cp), (6, .int .i64 (-1)), (7, .int .i64 (u : Int)), (45, .slice (some ⟨wb, wo, none⟩) M.length wc), (46, .int .i64 (u : Int))] [(⟨t, 0, none⟩, .slice (some ⟨wb, wo, none⟩) M.length wc)] (hasC (blkAt (T := 65) (cs := [.slice (some ⟨wb, wo, none⟩) M.length wc]) 1 rfl rfl) has0) (fun _ => by kernel_rfl) ?_ : RT _ _ _ _ _ _ 10 _)
          refine (stepR (z := 4) (yldS (idxY 63 (.tmp 45) (.tmp 46) wb wo M.length wc u 7 62 (u : Int) .i64 (some 47) (fun _ => by kernel_rfl) (by kernel_rfl) (by kernel_rfl) (fun _ => by kernel_rfl) (fun _ => by kernel_rfl) Tryz.underlying63 (by kernel_rfl) (by first | rfl | assumption | simp) (by first | omega | (simp; done) | (simp; omega) | (simp at *; omega)))) (fun _ => ?_) : RT _ _ _ _ _ _ 5 _)
          refine (runR (H := (row (kE .i64) 3 (.slice A wy.length cp) wy :: blk t 65 [.slice (some ⟨wb, wo, none⟩) M.length wc] :: row rnE 62 (.slice (some ⟨wb, wo, none⟩) M.length wc) M :: H)) (z := 2) 2 [0, 2, 3, 4, 5, 6, 7, 49] [(0, .pointer (some ⟨t, 0, none⟩)), (2, .int .i64 0), (3, .bool false), (4, .int .i64 (i : Int)), (5, .slice A wy.length cp), (6, .int .i64 (-1)), (7, .int .i64 (u : Int)), (49, .agg #[.int .i64 z.id, .int .i64 z.par, .int .i64 z.wt, .int .i64 z.pass, .bool z.thr, .bool z.rdy])] [(⟨wb, wo + u * 7, none⟩, .int .i64 z.id), (⟨wb, wo + u * 7 + 1, none⟩, .int .i64 z.par), (⟨wb, wo + u * 7 + 2, none⟩, .int .i64 z.wt), (⟨wb, wo + u * 7 + 3, none⟩, .int .i64 z.pass), (⟨wb, wo + u * 7 + 4, none⟩, .bool z.thr), (⟨wb, wo + u * 7 + 5, none⟩, .bool z.rdy)] (hasC (rowCell (E := rnE) (xs := M) 2 rfl (x := z) hz (j := 0) rfl) (hasC (rowCell (E := rnE) (xs := M) 2 rfl (x := z) hz (j := 1) rfl) (hasC (rowCell (E := rnE) (xs := M) 2 rfl (x := z) hz (j := 2) rfl) (hasC (rowCell (E := rnE) (xs := M) 2 rfl (x := z) hz (j := 3) rfl) (hasC (rowCell (E := rnE) (xs := M) 2 rfl (x := z) hz (j := 4) rfl) (hasC (rowCell (E := rnE) (xs := M) 2 rfl (x := z) hz (j := 5) rfl) has0)))))) (fun _ => by kernel_rfl) ?_ : RT _ _ _ _ _ _ 4 _)
          refine (stepR (z := 1) (newS 48 [.int .i64 0, .int .i64 0, .int .i64 0, .int .i64 0, .bool false, .bool false] (some 8) (fun b => .pointer (some ⟨b, 0, none⟩)) (fun _ _ => by kernel_rfl)) (fun b2 => ?_) : RT _ _ _ _ _ _ 2 _)
          refine (stepR (z := 0) (storeS [(0, .int .i64 z.id), (1, .int .i64 z.par), (2, .int .i64 z.wt), (3, .int .i64 z.pass), (4, .bool z.thr), (5, .bool z.rdy)] [.int .i64 z.id, .int .i64 z.par, .int .i64 z.wt, .int .i64 z.pass, .bool z.thr, .bool z.rdy] (fun _ => by kernel_rfl) (by kernel_rfl) (by kernel_rfl)) (fun _ => ?_) : RT _ _ _ _ _ _ 1 _)
          refine endR ?_
          refine seqR (by kernel_rfl) ?_
          refine drawR (fun w => Sat w (blk b2 48 [.int .i64 z.id, .int .i64 z.par, .int .i64 z.wt, .int .i64 z.pass, .bool z.thr, .bool z.rdy] :: row (kE .i64) 3 (.slice A wy.length cp) wy :: blk t 65 [.slice (some ⟨wb, wo, none⟩) M.length wc] :: row rnE 62 (.slice (some ⟨wb, wo, none⟩) M.length wc) M :: H)) [] 34 (by kernel_rfl) (by kernel_rfl) (by kernel_rfl) (fun _ h => by first | exact h | exact h.tail | exact h.tail.tail | exact h.tail.tail.tail | exact h.tail.tail.tail.tail) ?_
          refine takesR [0, 1, 2, 3, 4, 5, 6] [8, 0, 2, 3, 4, 5, 6, 7, 51, 55, 56] 27 [true, true, true, true, true, true, true, false, false, false, false, false, false, false, false, false, false, false, false, false, false, false, false, false, false, false, false, false, false, false, false, false, false, false] [(8, .pointer (some ⟨b2, 0, none⟩)), (0, .pointer (some ⟨t, 0, none⟩)), (2, .int .i64 0), (3, .bool false), (4, .int .i64 (i : Int)), (5, .slice A wy.length cp), (6, .int .i64 (-1)), (7, .int .i64 (u : Int)), (51, .int .i64 z.par), (55, .slice (some ⟨wb, wo, none⟩) M.length wc), (56, .int .i64 (i : Int))] [(⟨b2, 1, none⟩, .int .i64 z.par), (⟨t, 0, none⟩, .slice (some ⟨wb, wo, none⟩) M.length wc)] rfl (fun _ d _ _ _ h => by cases d <;> exact h) (fun _ h => by first | exact h | exact h.tail | exact h.tail.tail | exact h.tail.tail.tail | exact h.tail.tail.tail.tail) (hasC (blkAt (T := 48) (cs := [.int .i64 z.id, .int .i64 z.par, .int .i64 z.wt, .int .i64 z.pass, .bool z.thr, .bool z.rdy]) 0 rfl rfl) (hasC (blkAt (T := 65) (cs := [.slice (some ⟨wb, wo, none⟩) M.length wc]) 2 rfl rfl) has0)) (fun _ => by kernel_rfl) ?_
          refine takeR1 7 26 [true, true, true, true, true, true, true, true, false, false, false, false, false, false, false, false, false, false, false, false, false, false, false, false, false, false, false, false, false, false, false, false, false, false] rfl rfl (by kernel_rfl) (fun _ d _ _ _ h => by cases d <;> exact h) (fun _ h => by first | exact h | exact h.tail | exact h.tail.tail | exact h.tail.tail.tail | exact h.tail.tail.tail.tail) (idxY 63 (.tmp 55) (.tmp 56) wb wo M.length wc i 7 62 (i : Int) .i64 (some 57) (fun _ => by kernel_rfl) (by kernel_rfl) (by kernel_rfl) (fun _ => by kernel_rfl) (fun _ => by kernel_rfl) Tryz.underlying63 (by kernel_rfl) (by first | rfl | assumption | simp) (by first | omega | (simp; done) | (simp; omega) | (simp at *; omega))) ?_
          refine takesR [8, 9, 10, 11, 12] [8, 0, 2, 3, 4, 5, 6, 7, 62] 21 [true, true, true, true, true, true, true, true, true, true, true, true, true, false, false, false, false, false, false, false, false, false, false, false, false, false, false, false, false, false, false, false, false, false] [(8, .pointer (some ⟨b2, 0, none⟩)), (0, .pointer (some ⟨t, 0, none⟩)), (2, .int .i64 0), (3, .bool false), (4, .int .i64 (i : Int)), (5, .slice A wy.length cp), (6, .int .i64 (-1)), (7, .int .i64 (u : Int)), (62, .bool (z.par == x.id))] [(⟨wb, wo + i * 7, none⟩, .int .i64 x.id)] rfl (fun _ d _ _ _ h => by cases d <;> exact h) (fun _ h => by first | exact h | exact h.tail | exact h.tail.tail | exact h.tail.tail.tail | exact h.tail.tail.tail.tail) (hasC (up (rowCell (E := rnE) (xs := M) 2 rfl (x := x) hi (j := 0) rfl)) has0) (fun _ => by kernel_rfl) ?_
          cases c1 : (z.par == x.id) with
          | true =>
            refine takesR [13, 14, 15, 16] [8, 0, 2, 3, 4, 5, 6, 7, 66] 17 [true, true, true, true, true, true, true, true, true, true, true, true, true, true, true, true, true, false, false, false, false, false, false, false, false, false, false, false, false, false, false, false, false, false] [(8, .pointer (some ⟨b2, 0, none⟩)), (0, .pointer (some ⟨t, 0, none⟩)), (2, .int .i64 0), (3, .bool false), (4, .int .i64 (i : Int)), (5, .slice A wy.length cp), (6, .int .i64 (-1)), (7, .int .i64 (u : Int)), (66, .bool z.rdy)] [(⟨b2, 5, none⟩, .bool z.rdy)] rfl (fun _ d _ _ _ h => by cases d <;> exact h) (fun _ h => by first | exact h | exact h.tail | exact h.tail.tail | exact h.tail.tail.tail | exact h.tail.tail.tail.tail) (hasC (blkAt (T := 48) (cs := [.int .i64 z.id, .int .i64 z.par, .int .i64 z.wt, .int .i64 z.pass, .bool z.thr, .bool z.rdy]) 0 rfl rfl) has0) (fun _ => by kernel_rfl) ?_
            cases c2 : (z.rdy) with
            | true =>
              refine takesR [17, 18, 19, 20, 21, 22, 23, 24, 25, 26, 27, 28, 29, 30, 31, 32, 33] [0, 2, 3, 4, 5, 6, 7, 83] 0 [true, true, true, true, true, true, true, true, true, true, true, true, true, true, true, true, true, true, true, true, true, true, true, true, true, true, true, true, true, true, true, true, true, true] [(0, .pointer (some ⟨t, 0, none⟩)), (2, .int .i64 0), (3, .bool false), (4, .int .i64 (i : Int)), (5, .slice A wy.length cp), (6, .int .i64 (-1)), (7, .int .i64 (u : Int)), (83, .bool true)] [] rfl (fun _ d _ _ _ h => by cases d <;> exact h) (fun _ h => by first | exact h | exact h.tail | exact h.tail.tail | exact h.tail.tail.tail | exact h.tail.tail.tail.tail) has0 (fun _ => by kernel_rfl) ?_
              refine drawnR (by kernel_rfl) ?_
              refine condR (b := true) (by kernel_rfl) (fun _ => by kernel_rfl) (fun _ => ?_) (fun h => by cases h)
              refine regionR 2 (by kernel_rfl) (by kernel_rfl) ?_
              refine (run0 (z := 0) 2 [0, 2, 3, 4, 5, 6, 7] [(0, .pointer (some ⟨t, 0, none⟩)), (2, .int .i64 0), (3, .bool false), (4, .int .i64 (i : Int)), (5, .slice A wy.length cp), (6, .int .i64 (u : Int)), (7, .int .i64 (u : Int))] (fun _ => by kernel_rfl) (endR ?_) : RT _ _ _ _ _ _ 2 _)
              refine regionR 3 (by kernel_rfl) (by kernel_rfl) ?_
              refine (run0 (z := 0) 3 [0, 2, 3, 4, 5, 6, 7] [(0, .pointer (some ⟨t, 0, none⟩)), (2, .int .i64 0), (3, .bool false), (4, .int .i64 (i : Int)), (5, .slice A wy.length cp), (6, .int .i64 (u : Int)), (7, .int .i64 (IntKind.i64.wrap ((u : Int) + 1)))] (fun _ => by kernel_rfl) (endR ?_) : RT _ _ _ _ _ _ 3 _)
              rw [show IntKind.i64.wrap ((u : Int) + 1) = ((u : Int) + 1) by rw [w64 (by omega) (by omega)]]
              refine PT.drop ?_
              refine PT.keep (L' := [(0, .pointer (some ⟨t, 0, none⟩)), (2, .int .i64 0), (3, .bool false), (4, .int .i64 (i : Int)), (5, .slice A wy.length cp), (6, .int .i64 (u : Int)), (7, .int .i64 ((u : Int) + 1))]) [0, 2, 3, 4, 5, 6, 7] rfl ?_
              exact againG (k2 - 1) ((u : Int), u + 1) rfl rfl (by omega) ⟨by simp only; omega, hB.new hz (by simpa using c1) c2 (fun m y h => by omega)⟩
            | false =>
              refine takesR [17, 18, 19, 20, 21, 22, 23, 24, 25, 26, 27, 28, 29, 30, 31, 32, 33] [0, 2, 3, 4, 5, 6, 7, 83] 0 [true, true, true, true, true, true, true, true, true, true, true, true, true, true, true, true, true, true, true, true, true, true, true, true, true, true, true, true, true, true, true, true, true, true] [(0, .pointer (some ⟨t, 0, none⟩)), (2, .int .i64 0), (3, .bool false), (4, .int .i64 (i : Int)), (5, .slice A wy.length cp), (6, .int .i64 (-1)), (7, .int .i64 (u : Int)), (83, .bool false)] [] rfl (fun _ d _ _ _ h => by cases d <;> exact h) (fun _ h => by first | exact h | exact h.tail | exact h.tail.tail | exact h.tail.tail.tail | exact h.tail.tail.tail.tail) has0 (fun _ => by kernel_rfl) ?_
              refine drawnR (by kernel_rfl) ?_
              refine condR (b := false) (by kernel_rfl) (fun _ => by kernel_rfl) (fun h => by cases h) (fun _ => ?_)
              refine skipR (by kernel_rfl) ?_
              refine regionR 3 (by kernel_rfl) (by kernel_rfl) ?_
              refine (run0 (z := 0) 3 [0, 2, 3, 4, 5, 6, 7] [(0, .pointer (some ⟨t, 0, none⟩)), (2, .int .i64 0), (3, .bool false), (4, .int .i64 (i : Int)), (5, .slice A wy.length cp), (6, .int .i64 (-1)), (7, .int .i64 (IntKind.i64.wrap ((u : Int) + 1)))] (fun _ => by kernel_rfl) (endR ?_) : RT _ _ _ _ _ _ 3 _)
              rw [show IntKind.i64.wrap ((u : Int) + 1) = ((u : Int) + 1) by rw [w64 (by omega) (by omega)]]
              refine PT.drop ?_
              refine PT.keep (L' := [(0, .pointer (some ⟨t, 0, none⟩)), (2, .int .i64 0), (3, .bool false), (4, .int .i64 (i : Int)), (5, .slice A wy.length cp), (6, .int .i64 (-1)), (7, .int .i64 ((u : Int) + 1))]) [0, 2, 3, 4, 5, 6, 7] rfl ?_
              exact againG (k2 - 1) (-1, u + 1) rfl rfl (by omega) ⟨by simp only; omega, hB.no hz (by simp [c2])⟩
          | false =>
            refine takesR [13, 14, 15, 16, 17, 18, 19, 20, 21, 22, 23, 24, 25, 26, 27, 28, 29, 30, 31, 32, 33] [0, 2, 3, 4, 5, 6, 7, 83] 0 [true, true, true, true, true, true, true, true, true, true, true, true, true, true, true, true, true, true, true, true, true, true, true, true, true, true, true, true, true, true, true, true, true, true] [(0, .pointer (some ⟨t, 0, none⟩)), (2, .int .i64 0), (3, .bool false), (4, .int .i64 (i : Int)), (5, .slice A wy.length cp), (6, .int .i64 (-1)), (7, .int .i64 (u : Int)), (83, .bool false)] [] rfl (fun _ d _ _ _ h => by cases d <;> exact h) (fun _ h => by first | exact h | exact h.tail | exact h.tail.tail | exact h.tail.tail.tail | exact h.tail.tail.tail.tail) has0 (fun _ => by kernel_rfl) ?_
            refine drawnR (by kernel_rfl) ?_
            refine condR (b := false) (by kernel_rfl) (fun _ => by kernel_rfl) (fun h => by cases h) (fun _ => ?_)
            refine skipR (by kernel_rfl) ?_
            refine regionR 3 (by kernel_rfl) (by kernel_rfl) ?_
            refine (run0 (z := 0) 3 [0, 2, 3, 4, 5, 6, 7] [(0, .pointer (some ⟨t, 0, none⟩)), (2, .int .i64 0), (3, .bool false), (4, .int .i64 (i : Int)), (5, .slice A wy.length cp), (6, .int .i64 (-1)), (7, .int .i64 (IntKind.i64.wrap ((u : Int) + 1)))] (fun _ => by kernel_rfl) (endR ?_) : RT _ _ _ _ _ _ 3 _)
            rw [show IntKind.i64.wrap ((u : Int) + 1) = ((u : Int) + 1) by rw [w64 (by omega) (by omega)]]
            refine PT.drop ?_
            refine PT.keep (L' := [(0, .pointer (some ⟨t, 0, none⟩)), (2, .int .i64 0), (3, .bool false), (4, .int .i64 (i : Int)), (5, .slice A wy.length cp), (6, .int .i64 (-1)), (7, .int .i64 ((u : Int) + 1))]) [0, 2, 3, 4, 5, 6, 7] rfl ?_
            exact againG (k2 - 1) (-1, u + 1) rfl rfl (by omega) ⟨by simp only; omega, hB.no hz (by simp only [c1, Bool.false_and])⟩
        · skip
          subst hb1
          have hml := (List.getElem?_eq_some_iff.1 hym).1
          refine skipR (by kernel_rfl) ?_
          refine seqR (by kernel_rfl) ?_
          refine blockR 3 (by kernel_rfl) (by kernel_rfl) ?_
          refine seqR (by kernel_rfl) ?_
          refine regionR 10 (by kernel_rfl) (by kernel_rfl) ?_
          refine (runR (H := (row (kE .i64) 3 (.slice A wy.length cp) wy :: blk t 65 [.slice (some ⟨wb, wo, none⟩) M.length wc] :: row rnE 62 (.slice (some ⟨wb, wo, none⟩) M.length wc) M :: H)) (z := 5) 5 [0, 2, 3, 4, 5, 6, 7, 45, 46] [(0, .pointer (some ⟨t, 0, none⟩)), (2, .int .i64 0), (3, .bool false), (4, .int .i64 (i : Int)), (5, .slice A wy.length cp), (6, .int .i64 (m : Int)), (7, .int .i64 (u : Int)), (45, .slice (some ⟨wb, wo, none⟩) M.length wc), (46, .int .i64 (u : Int))] [(⟨t, 0, none⟩, .slice (some ⟨wb, wo, none⟩) M.length wc)] (hasC (blkAt (T := 65) (cs := [.slice (some ⟨wb, wo, none⟩) M.length wc]) 1 rfl rfl) has0) (fun _ => by kernel_rfl) ?_ : RT _ _ _ _ _ _ 10 _)
          refine (stepR (z := 4) (yldS (idxY 63 (.tmp 45) (.tmp 46) wb wo M.length wc u 7 62 (u : Int) .i64 (some 47) (fun _ => by kernel_rfl) (by kernel_rfl) (by kernel_rfl) (fun _ => by kernel_rfl) (fun _ => by kernel_rfl) Tryz.underlying63 (by kernel_rfl) (by first | rfl | assumption | simp) (by first | omega | (simp; done) | (simp; omega) | (simp at *; omega)))) (fun _ => ?_) : RT _ _ _ _ _ _ 5 _)
          refine (runR (H := (row (kE .i64) 3 (.slice A wy.length cp) wy :: blk t 65 [.slice (some ⟨wb, wo, none⟩) M.length wc] :: row rnE 62 (.slice (some ⟨wb, wo, none⟩) M.length wc) M :: H)) (z := 2) 2 [0, 2, 3, 4, 5, 6, 7, 49] [(0, .pointer (some ⟨t, 0, none⟩)), (2, .int .i64 0), (3, .bool false), (4, .int .i64 (i : Int)), (5, .slice A wy.length cp), (6, .int .i64 (m : Int)), (7, .int .i64 (u : Int)), (49, .agg #[.int .i64 z.id, .int .i64 z.par, .int .i64 z.wt, .int .i64 z.pass, .bool z.thr, .bool z.rdy])] [(⟨wb, wo + u * 7, none⟩, .int .i64 z.id), (⟨wb, wo + u * 7 + 1, none⟩, .int .i64 z.par), (⟨wb, wo + u * 7 + 2, none⟩, .int .i64 z.wt), (⟨wb, wo + u * 7 + 3, none⟩, .int .i64 z.pass), (⟨wb, wo + u * 7 + 4, none⟩, .bool z.thr), (⟨wb, wo + u * 7 + 5, none⟩, .bool z.rdy)] (hasC (rowCell (E := rnE) (xs := M) 2 rfl (x := z) hz (j := 0) rfl) (hasC (rowCell (E := rnE) (xs := M) 2 rfl (x := z) hz (j := 1) rfl) (hasC (rowCell (E := rnE) (xs := M) 2 rfl (x := z) hz (j := 2) rfl) (hasC (rowCell (E := rnE) (xs := M) 2 rfl (x := z) hz (j := 3) rfl) (hasC (rowCell (E := rnE) (xs := M) 2 rfl (x := z) hz (j := 4) rfl) (hasC (rowCell (E := rnE) (xs := M) 2 rfl (x := z) hz (j := 5) rfl) has0)))))) (fun _ => by kernel_rfl) ?_ : RT _ _ _ _ _ _ 4 _)
          refine (stepR (z := 1) (newS 48 [.int .i64 0, .int .i64 0, .int .i64 0, .int .i64 0, .bool false, .bool false] (some 8) (fun b => .pointer (some ⟨b, 0, none⟩)) (fun _ _ => by kernel_rfl)) (fun b2 => ?_) : RT _ _ _ _ _ _ 2 _)
          refine (stepR (z := 0) (storeS [(0, .int .i64 z.id), (1, .int .i64 z.par), (2, .int .i64 z.wt), (3, .int .i64 z.pass), (4, .bool z.thr), (5, .bool z.rdy)] [.int .i64 z.id, .int .i64 z.par, .int .i64 z.wt, .int .i64 z.pass, .bool z.thr, .bool z.rdy] (fun _ => by kernel_rfl) (by kernel_rfl) (by kernel_rfl)) (fun _ => ?_) : RT _ _ _ _ _ _ 1 _)
          refine endR ?_
          refine seqR (by kernel_rfl) ?_
          refine drawR (fun w => Sat w (blk b2 48 [.int .i64 z.id, .int .i64 z.par, .int .i64 z.wt, .int .i64 z.pass, .bool z.thr, .bool z.rdy] :: row (kE .i64) 3 (.slice A wy.length cp) wy :: blk t 65 [.slice (some ⟨wb, wo, none⟩) M.length wc] :: row rnE 62 (.slice (some ⟨wb, wo, none⟩) M.length wc) M :: H)) [] 34 (by kernel_rfl) (by kernel_rfl) (by kernel_rfl) (fun _ h => by first | exact h | exact h.tail | exact h.tail.tail | exact h.tail.tail.tail | exact h.tail.tail.tail.tail) ?_
          refine takesR [0, 1, 2, 3, 4, 5, 6] [8, 0, 2, 3, 4, 5, 6, 7, 51, 55, 56] 27 [true, true, true, true, true, true, true, false, false, false, false, false, false, false, false, false, false, false, false, false, false, false, false, false, false, false, false, false, false, false, false, false, false, false] [(8, .pointer (some ⟨b2, 0, none⟩)), (0, .pointer (some ⟨t, 0, none⟩)), (2, .int .i64 0), (3, .bool false), (4, .int .i64 (i : Int)), (5, .slice A wy.length cp), (6, .int .i64 (m : Int)), (7, .int .i64 (u : Int)), (51, .int .i64 z.par), (55, .slice (some ⟨wb, wo, none⟩) M.length wc), (56, .int .i64 (i : Int))] [(⟨b2, 1, none⟩, .int .i64 z.par), (⟨t, 0, none⟩, .slice (some ⟨wb, wo, none⟩) M.length wc)] rfl (fun _ d _ _ _ h => by cases d <;> exact h) (fun _ h => by first | exact h | exact h.tail | exact h.tail.tail | exact h.tail.tail.tail | exact h.tail.tail.tail.tail) (hasC (blkAt (T := 48) (cs := [.int .i64 z.id, .int .i64 z.par, .int .i64 z.wt, .int .i64 z.pass, .bool z.thr, .bool z.rdy]) 0 rfl rfl) (hasC (blkAt (T := 65) (cs := [.slice (some ⟨wb, wo, none⟩) M.length wc]) 2 rfl rfl) has0)) (fun _ => by kernel_rfl) ?_
          refine takeR1 7 26 [true, true, true, true, true, true, true, true, false, false, false, false, false, false, false, false, false, false, false, false, false, false, false, false, false, false, false, false, false, false, false, false, false, false] rfl rfl (by kernel_rfl) (fun _ d _ _ _ h => by cases d <;> exact h) (fun _ h => by first | exact h | exact h.tail | exact h.tail.tail | exact h.tail.tail.tail | exact h.tail.tail.tail.tail) (idxY 63 (.tmp 55) (.tmp 56) wb wo M.length wc i 7 62 (i : Int) .i64 (some 57) (fun _ => by kernel_rfl) (by kernel_rfl) (by kernel_rfl) (fun _ => by kernel_rfl) (fun _ => by kernel_rfl) Tryz.underlying63 (by kernel_rfl) (by first | rfl | assumption | simp) (by first | omega | (simp; done) | (simp; omega) | (simp at *; omega))) ?_
          refine takesR [8, 9, 10, 11, 12] [8, 0, 2, 3, 4, 5, 6, 7, 62] 21 [true, true, true, true, true, true, true, true, true, true, true, true, true, false, false, false, false, false, false, false, false, false, false, false, false, false, false, false, false, false, false, false, false, false] [(8, .pointer (some ⟨b2, 0, none⟩)), (0, .pointer (some ⟨t, 0, none⟩)), (2, .int .i64 0), (3, .bool false), (4, .int .i64 (i : Int)), (5, .slice A wy.length cp), (6, .int .i64 (m : Int)), (7, .int .i64 (u : Int)), (62, .bool (z.par == x.id))] [(⟨wb, wo + i * 7, none⟩, .int .i64 x.id)] rfl (fun _ d _ _ _ h => by cases d <;> exact h) (fun _ h => by first | exact h | exact h.tail | exact h.tail.tail | exact h.tail.tail.tail | exact h.tail.tail.tail.tail) (hasC (up (rowCell (E := rnE) (xs := M) 2 rfl (x := x) hi (j := 0) rfl)) has0) (fun _ => by kernel_rfl) ?_
          cases c1 : (z.par == x.id) with
          | true =>
            refine takesR [13, 14, 15, 16] [8, 0, 2, 3, 4, 5, 6, 7, 66] 17 [true, true, true, true, true, true, true, true, true, true, true, true, true, true, true, true, true, false, false, false, false, false, false, false, false, false, false, false, false, false, false, false, false, false] [(8, .pointer (some ⟨b2, 0, none⟩)), (0, .pointer (some ⟨t, 0, none⟩)), (2, .int .i64 0), (3, .bool false), (4, .int .i64 (i : Int)), (5, .slice A wy.length cp), (6, .int .i64 (m : Int)), (7, .int .i64 (u : Int)), (66, .bool z.rdy)] [(⟨b2, 5, none⟩, .bool z.rdy)] rfl (fun _ d _ _ _ h => by cases d <;> exact h) (fun _ h => by first | exact h | exact h.tail | exact h.tail.tail | exact h.tail.tail.tail | exact h.tail.tail.tail.tail) (hasC (blkAt (T := 48) (cs := [.int .i64 z.id, .int .i64 z.par, .int .i64 z.wt, .int .i64 z.pass, .bool z.thr, .bool z.rdy]) 0 rfl rfl) has0) (fun _ => by kernel_rfl) ?_
            cases c2 : (z.rdy) with
            | true =>
              refine takesR [17, 18, 19] [8, 0, 2, 3, 4, 5, 6, 7, 66, 69] 14 [true, true, true, true, true, true, true, true, true, true, true, true, true, true, true, true, true, true, true, true, false, false, false, false, false, false, false, false, false, false, false, false, false, false] [(8, .pointer (some ⟨b2, 0, none⟩)), (0, .pointer (some ⟨t, 0, none⟩)), (2, .int .i64 0), (3, .bool false), (4, .int .i64 (i : Int)), (5, .slice A wy.length cp), (6, .int .i64 (m : Int)), (7, .int .i64 (u : Int)), (66, .bool true), (69, .bool (decide ((m : Int) < 0)))] [] rfl (fun _ d _ _ _ h => by cases d <;> exact h) (fun _ h => by first | exact h | exact h.tail | exact h.tail.tail | exact h.tail.tail.tail | exact h.tail.tail.tail.tail) has0 (fun _ => by kernel_rfl) ?_
              rw [show (decide ((m : Int) < 0)) = false from by first | exact decide_eq_false (by omega) | (simp; done) | (simp; omega)]
              refine takesR [20, 21, 22, 23, 24, 25, 26] [0, 2, 3, 4, 5, 6, 7, 66, 69, 71, 75, 76] 7 [true, true, true, true, true, true, true, true, true, true, true, true, true, true, true, true, true, true, true, true, true, true, true, true, true, true, true, false, false, false, false, false, false, false] [(0, .pointer (some ⟨t, 0, none⟩)), (2, .int .i64 0), (3, .bool false), (4, .int .i64 (i : Int)), (5, .slice A wy.length cp), (6, .int .i64 (m : Int)), (7, .int .i64 (u : Int)), (66, .bool true), (69, .bool false), (71, .int .i64 z.pass), (75, .slice (some ⟨wb, wo, none⟩) M.length wc), (76, .int .i64 (m : Int))] [(⟨b2, 3, none⟩, .int .i64 z.pass), (⟨t, 0, none⟩, .slice (some ⟨wb, wo, none⟩) M.length wc)] rfl (fun _ d _ _ _ h => by cases d <;> exact h) (fun _ h => by first | exact h | exact h.tail | exact h.tail.tail | exact h.tail.tail.tail | exact h.tail.tail.tail.tail) (hasC (blkAt (T := 48) (cs := [.int .i64 z.id, .int .i64 z.par, .int .i64 z.wt, .int .i64 z.pass, .bool z.thr, .bool true]) 0 rfl rfl) (hasC (blkAt (T := 65) (cs := [.slice (some ⟨wb, wo, none⟩) M.length wc]) 2 rfl rfl) has0)) (fun _ => by kernel_rfl) ?_
              refine takeR1 27 6 [true, true, true, true, true, true, true, true, true, true, true, true, true, true, true, true, true, true, true, true, true, true, true, true, true, true, true, true, false, false, false, false, false, false] rfl rfl (by kernel_rfl) (fun _ d _ _ _ h => by cases d <;> exact h) (fun _ h => by first | exact h | exact h.tail | exact h.tail.tail | exact h.tail.tail.tail | exact h.tail.tail.tail.tail) (idxY 63 (.tmp 75) (.tmp 76) wb wo M.length wc m 7 62 (m : Int) .i64 (some 77) (fun _ => by kernel_rfl) (by kernel_rfl) (by kernel_rfl) (fun _ => by kernel_rfl) (fun _ => by kernel_rfl) Tryz.underlying63 (by kernel_rfl) (by first | rfl | assumption | simp) (by first | omega | (simp; done) | (simp; omega) | (simp at *; omega))) ?_
              refine takesR [28, 29, 30, 31, 32, 33] [0, 2, 3, 4, 5, 6, 7, 83] 0 [true, true, true, true, true, true, true, true, true, true, true, true, true, true, true, true, true, true, true, true, true, true, true, true, true, true, true, true, true, true, true, true, true, true] [(0, .pointer (some ⟨t, 0, none⟩)), (2, .int .i64 0), (3, .bool false), (4, .int .i64 (i : Int)), (5, .slice A wy.length cp), (6, .int .i64 (m : Int)), (7, .int .i64 (u : Int)), (83, .bool (decide (z.pass < y.pass)))] [(⟨wb, wo + m * 7 + 3, none⟩, .int .i64 y.pass)] rfl (fun _ d _ _ _ h => by cases d <;> exact h) (fun _ h => by first | exact h | exact h.tail | exact h.tail.tail | exact h.tail.tail.tail | exact h.tail.tail.tail.tail) (hasC (up (rowCell (E := rnE) (xs := M) 2 rfl (x := y) hym (j := 3) rfl)) has0) (fun _ => by kernel_rfl) ?_
              refine drawnR (by kernel_rfl) ?_
              refine condR (b := decide (z.pass < y.pass)) (by kernel_rfl) (fun _ => by kernel_rfl) (fun c3 => ?_) (fun c3 => ?_)
              · skip
                have c3 := of_decide_eq_true c3
                refine regionR 2 (by kernel_rfl) (by kernel_rfl) ?_
                refine (run0 (z := 0) 2 [0, 2, 3, 4, 5, 6, 7] [(0, .pointer (some ⟨t, 0, none⟩)), (2, .int .i64 0), (3, .bool false), (4, .int .i64 (i : Int)), (5, .slice A wy.length cp), (6, .int .i64 (u : Int)), (7, .int .i64 (u : Int))] (fun _ => by kernel_rfl) (endR ?_) : RT _ _ _ _ _ _ 2 _)
                refine regionR 3 (by kernel_rfl) (by kernel_rfl) ?_
                refine (run0 (z := 0) 3 [0, 2, 3, 4, 5, 6, 7] [(0, .pointer (some ⟨t, 0, none⟩)), (2, .int .i64 0), (3, .bool false), (4, .int .i64 (i : Int)), (5, .slice A wy.length cp), (6, .int .i64 (u : Int)), (7, .int .i64 (IntKind.i64.wrap ((u : Int) + 1)))] (fun _ => by kernel_rfl) (endR ?_) : RT _ _ _ _ _ _ 3 _)
                rw [show IntKind.i64.wrap ((u : Int) + 1) = ((u : Int) + 1) by rw [w64 (by omega) (by omega)]]
                refine PT.drop ?_
                refine PT.keep (L' := [(0, .pointer (some ⟨t, 0, none⟩)), (2, .int .i64 0), (3, .bool false), (4, .int .i64 (i : Int)), (5, .slice A wy.length cp), (6, .int .i64 (u : Int)), (7, .int .i64 ((u : Int) + 1))]) [0, 2, 3, 4, 5, 6, 7] rfl ?_
                exact againG (k2 - 1) ((u : Int), u + 1) rfl rfl (by omega) ⟨by simp only; omega, hB.new hz (by simpa using c1) c2 (fun m' y' e h => by have e2 : m = m' := (by omega); rw [← e2] at h; exact (Option.some.inj (hym.symm.trans h)) ▸ c3)⟩
              · skip
                have c3 := of_decide_eq_false c3
                refine skipR (by kernel_rfl) ?_
                refine regionR 3 (by kernel_rfl) (by kernel_rfl) ?_
                refine (run0 (z := 0) 3 [0, 2, 3, 4, 5, 6, 7] [(0, .pointer (some ⟨t, 0, none⟩)), (2, .int .i64 0), (3, .bool false), (4, .int .i64 (i : Int)), (5, .slice A wy.length cp), (6, .int .i64 (m : Int)), (7, .int .i64 (IntKind.i64.wrap ((u : Int) + 1)))] (fun _ => by kernel_rfl) (endR ?_) : RT _ _ _ _ _ _ 3 _)
                rw [show IntKind.i64.wrap ((u : Int) + 1) = ((u : Int) + 1) by rw [w64 (by omega) (by omega)]]
                refine PT.drop ?_
                refine PT.keep (L' := [(0, .pointer (some ⟨t, 0, none⟩)), (2, .int .i64 0), (3, .bool false), (4, .int .i64 (i : Int)), (5, .slice A wy.length cp), (6, .int .i64 (m : Int)), (7, .int .i64 ((u : Int) + 1))]) [0, 2, 3, 4, 5, 6, 7] rfl ?_
                exact againG (k2 - 1) ((m : Int), u + 1) rfl rfl (by omega) ⟨by simp only; omega, hB.keep hsrM hym hz c3⟩
            | false =>
              refine takesR [17, 18, 19, 20, 21, 22, 23, 24, 25, 26, 27, 28, 29, 30, 31, 32, 33] [0, 2, 3, 4, 5, 6, 7, 83] 0 [true, true, true, true, true, true, true, true, true, true, true, true, true, true, true, true, true, true, true, true, true, true, true, true, true, true, true, true, true, true, true, true, true, true] [(0, .pointer (some ⟨t, 0, none⟩)), (2, .int .i64 0), (3, .bool false), (4, .int .i64 (i : Int)), (5, .slice A wy.length cp), (6, .int .i64 (m : Int)), (7, .int .i64 (u : Int)), (83, .bool false)] [] rfl (fun _ d _ _ _ h => by cases d <;> exact h) (fun _ h => by first | exact h | exact h.tail | exact h.tail.tail | exact h.tail.tail.tail | exact h.tail.tail.tail.tail) has0 (fun _ => by kernel_rfl) ?_
              refine drawnR (by kernel_rfl) ?_
              refine condR (b := false) (by kernel_rfl) (fun _ => by kernel_rfl) (fun h => by cases h) (fun _ => ?_)
              refine skipR (by kernel_rfl) ?_
              refine regionR 3 (by kernel_rfl) (by kernel_rfl) ?_
              refine (run0 (z := 0) 3 [0, 2, 3, 4, 5, 6, 7] [(0, .pointer (some ⟨t, 0, none⟩)), (2, .int .i64 0), (3, .bool false), (4, .int .i64 (i : Int)), (5, .slice A wy.length cp), (6, .int .i64 (m : Int)), (7, .int .i64 (IntKind.i64.wrap ((u : Int) + 1)))] (fun _ => by kernel_rfl) (endR ?_) : RT _ _ _ _ _ _ 3 _)
              rw [show IntKind.i64.wrap ((u : Int) + 1) = ((u : Int) + 1) by rw [w64 (by omega) (by omega)]]
              refine PT.drop ?_
              refine PT.keep (L' := [(0, .pointer (some ⟨t, 0, none⟩)), (2, .int .i64 0), (3, .bool false), (4, .int .i64 (i : Int)), (5, .slice A wy.length cp), (6, .int .i64 (m : Int)), (7, .int .i64 ((u : Int) + 1))]) [0, 2, 3, 4, 5, 6, 7] rfl ?_
              exact againG (k2 - 1) ((m : Int), u + 1) rfl rfl (by omega) ⟨by simp only; omega, hB.no hz (by simp [c2])⟩
          | false =>
            refine takesR [13, 14, 15, 16, 17, 18, 19, 20, 21, 22, 23, 24, 25, 26, 27, 28, 29, 30, 31, 32, 33] [0, 2, 3, 4, 5, 6, 7, 83] 0 [true, true, true, true, true, true, true, true, true, true, true, true, true, true, true, true, true, true, true, true, true, true, true, true, true, true, true, true, true, true, true, true, true, true] [(0, .pointer (some ⟨t, 0, none⟩)), (2, .int .i64 0), (3, .bool false), (4, .int .i64 (i : Int)), (5, .slice A wy.length cp), (6, .int .i64 (m : Int)), (7, .int .i64 (u : Int)), (83, .bool false)] [] rfl (fun _ d _ _ _ h => by cases d <;> exact h) (fun _ h => by first | exact h | exact h.tail | exact h.tail.tail | exact h.tail.tail.tail | exact h.tail.tail.tail.tail) has0 (fun _ => by kernel_rfl) ?_
            refine drawnR (by kernel_rfl) ?_
            refine condR (b := false) (by kernel_rfl) (fun _ => by kernel_rfl) (fun h => by cases h) (fun _ => ?_)
            refine skipR (by kernel_rfl) ?_
            refine regionR 3 (by kernel_rfl) (by kernel_rfl) ?_
            refine (run0 (z := 0) 3 [0, 2, 3, 4, 5, 6, 7] [(0, .pointer (some ⟨t, 0, none⟩)), (2, .int .i64 0), (3, .bool false), (4, .int .i64 (i : Int)), (5, .slice A wy.length cp), (6, .int .i64 (m : Int)), (7, .int .i64 (IntKind.i64.wrap ((u : Int) + 1)))] (fun _ => by kernel_rfl) (endR ?_) : RT _ _ _ _ _ _ 3 _)
            rw [show IntKind.i64.wrap ((u : Int) + 1) = ((u : Int) + 1) by rw [w64 (by omega) (by omega)]]
            refine PT.drop ?_
            refine PT.keep (L' := [(0, .pointer (some ⟨t, 0, none⟩)), (2, .int .i64 0), (3, .bool false), (4, .int .i64 (i : Int)), (5, .slice A wy.length cp), (6, .int .i64 (m : Int)), (7, .int .i64 ((u : Int) + 1))]) [0, 2, 3, 4, 5, 6, 7] rfl ?_
            exact againG (k2 - 1) ((m : Int), u + 1) rfl rfl (by omega) ⟨by simp only; omega, hB.no hz (by simp only [c1, Bool.false_and])⟩
      · skip
        have hu : u = M.length := by have := of_decide_eq_false h2; omega
        rw [hu] at hB
        obtain ⟨m, y, rfl, hm, hyp, hyr, hly⟩ := hB.done hsM.nd hkx
        have hyM := List.mem_of_getElem? hm
        have hml := (List.getElem?_eq_some_iff.1 hm).1
        have hstp := hI.dn.step hsM hI.rkk hxM hyM hyp hyr (least_some hly).2
        have hyw := hI.dn.wt y hyM
        have hyp0 := hI.dn.pass y hyM
        obtain ⟨hIn, hyx, hff⟩ := hI.next hm hyp hyr hly
        have hm1 := up_at hsM.nd hi hm hyx (nwF y.pass)
        have hl1 : (upN M x.id (nwF y.pass)).length = M.length := by simp [upN]
        refine exitR 2 (by kernel_rfl) (by kernel_rfl) ?_
        refine thenX ?_
        refine thenX ?_
        refine leaveR ?_
        refine seqR (by kernel_rfl) ?_
        refine drawR (fun w => Sat w (row (kE .i64) 3 (.slice A wy.length cp) wy :: blk t 65 [.slice (some ⟨wb, wo, none⟩) M.length wc] :: row rnE 62 (.slice (some ⟨wb, wo, none⟩) M.length wc) M :: H)) [16] 17 (by kernel_rfl) (by kernel_rfl) (by kernel_rfl) (fun _ h => by first | exact h | exact h.tail | exact h.tail.tail | exact h.tail.tail.tail | exact h.tail.tail.tail.tail) ?_
        refine takesR [0, 1, 2, 3, 4, 5, 6, 7, 8, 9] [0, 2, 3, 4, 5, 6, 88, 89, 93, 94] 7 [true, true, true, true, true, true, true, true, true, true, false, false, false, false, false, false, false] [(0, .pointer (some ⟨t, 0, none⟩)), (2, .int .i64 0), (3, .bool false), (4, .int .i64 (i : Int)), (5, .slice A wy.length cp), (6, .int .i64 (m : Int)), (88, .slice (some ⟨wb, wo, none⟩) M.length wc), (89, .int .i64 (i : Int)), (93, .slice (some ⟨wb, wo, none⟩) M.length wc), (94, .int .i64 (m : Int))] [(⟨t, 0, none⟩, .slice (some ⟨wb, wo, none⟩) M.length wc), (⟨t, 0, none⟩, .slice (some ⟨wb, wo, none⟩) M.length wc)] rfl (fun _ d _ _ _ h => by cases d <;> exact h) (fun _ h => by first | exact h | exact h.tail | exact h.tail.tail | exact h.tail.tail.tail | exact h.tail.tail.tail.tail) (hasC (blkAt (T := 65) (cs := [.slice (some ⟨wb, wo, none⟩) M.length wc]) 1 rfl rfl) (hasC (blkAt (T := 65) (cs := [.slice (some ⟨wb, wo, none⟩) M.length wc]) 1 rfl rfl) has0)) (fun _ => by kernel_rfl) ?_
        refine takeR1 10 6 [true, true, true, true, true, true, true, true, true, true, true, false, false, false, false, false, false] rfl rfl (by kernel_rfl) (fun _ d _ _ _ h => by cases d <;> exact h) (fun _ h => by first | exact h | exact h.tail | exact h.tail.tail | exact h.tail.tail.tail | exact h.tail.tail.tail.tail) (idxY 63 (.tmp 93) (.tmp 94) wb wo M.length wc m 7 62 (m : Int) .i64 (some 95) (fun _ => by kernel_rfl) (by kernel_rfl) (by kernel_rfl) (fun _ => by kernel_rfl) (fun _ => by kernel_rfl) Tryz.underlying63 (by kernel_rfl) (by first | rfl | assumption | simp) (by first | omega | (simp; done) | (simp; omega) | (simp at *; omega))) ?_
        refine takesR [11, 12, 13] [0, 2, 3, 4, 5, 6, 88, 89, 98] 3 [true, true, true, true, true, true, true, true, true, true, true, true, true, true, false, false, false] [(0, .pointer (some ⟨t, 0, none⟩)), (2, .int .i64 0), (3, .bool false), (4, .int .i64 (i : Int)), (5, .slice A wy.length cp), (6, .int .i64 (m : Int)), (88, .slice (some ⟨wb, wo, none⟩) M.length wc), (89, .int .i64 (i : Int)), (98, .int .i64 y.pass)] [(⟨wb, wo + m * 7 + 3, none⟩, .int .i64 y.pass)] rfl (fun _ d _ _ _ h => by cases d <;> exact h) (fun _ h => by first | exact h | exact h.tail | exact h.tail.tail | exact h.tail.tail.tail | exact h.tail.tail.tail.tail) (hasC (rowCell (E := rnE) (xs := M) 2 rfl (x := y) hm (j := 3) rfl) has0) (fun _ => by kernel_rfl) ?_
        refine takeR1 14 2 [true, true, true, true, true, true, true, true, true, true, true, true, true, true, true, false, false] rfl rfl (by kernel_rfl) (fun _ d _ _ _ h => by cases d <;> exact h) (fun _ h => by first | exact h | exact h.tail | exact h.tail.tail | exact h.tail.tail.tail | exact h.tail.tail.tail.tail) (idxY 63 (.tmp 88) (.tmp 89) wb wo M.length wc i 7 62 (i : Int) .i64 (some 99) (fun _ => by kernel_rfl) (by kernel_rfl) (by kernel_rfl) (fun _ => by kernel_rfl) (fun _ => by kernel_rfl) Tryz.underlying63 (by kernel_rfl) (by first | rfl | assumption | simp) (by first | omega | (simp; done) | (simp; omega) | (simp at *; omega))) ?_
        refine takesR [15] [0, 2, 3, 4, 5, 6, 98, 100] 1 [true, true, true, true, true, true, true, true, true, true, true, true, true, true, true, true, false] [(0, .pointer (some ⟨t, 0, none⟩)), (2, .int .i64 0), (3, .bool false), (4, .int .i64 (i : Int)), (5, .slice A wy.length cp), (6, .int .i64 (m : Int)), (98, .int .i64 y.pass), (100, .pointer (some ⟨wb, wo + i * 7 + 6, none⟩))] [] rfl (fun _ d _ _ _ h => by cases d <;> exact h) (fun _ h => by first | exact h | exact h.tail | exact h.tail.tail | exact h.tail.tail.tail | exact h.tail.tail.tail.tail) has0 (fun _ => by kernel_rfl) ?_
        refine DT.pick 2 rfl ?_
        refine oneR 16 0 [true, true, true, true, true, true, true, true, true, true, true, true, true, true, true, true, true] rfl rfl (by kernel_rfl) (setS (E := rnE) (J := i) (j := 6) x (nwF y.pass x) (.int .i64 y.pass) ⟨wb, wo + i * 7 + 6, none⟩ (fun _ => by kernel_rfl) (by first | rfl | simp) (hi) (rfl) (by decide)) (fun _ _ h hn => by first | exact h | exact h.tail | exact h.tail.tail | exact h.tail.tail.tail | exact h.tail.tail.tail.tail | exact absurd hn (by decide)) (fun _ => ?_)
        refine drawnR (by kernel_rfl) ?_
        rw [show M.length = (upN M x.id (nwF y.pass)).length by exact hl1.symm]
        rw [show (M.set i (nwF y.pass x)) = (upN M x.id (nwF y.pass)) by exact set_at hsM.nd hi (nwF y.pass)]
        obtain ⟨M1, hM1⟩ : ∃ M1, M1 = upN M x.id (nwF y.pass) := ⟨_, rfl⟩
        rw [← hM1] at hm1 hl1 hIn ⊢
        have hnd1 : (M1.map (·.id)).Nodup := by rw [hM1]; exact (hsM.upN (nwF_skel _)).nd
        refine seqR (by kernel_rfl) ?_
        refine drawR (fun w => Sat w (row rnE 62 (.slice (some ⟨wb, wo, none⟩) (M1.length) wc) M1 :: row (kE .i64) 3 (.slice A wy.length cp) wy :: blk t 65 [.slice (some ⟨wb, wo, none⟩) M1.length wc] :: H)) [27] 28 (by kernel_rfl) (by kernel_rfl) (by kernel_rfl) (fun _ h => by first | exact h | exact h.tail | exact h.tail.tail | exact h.tail.tail.tail | exact h.tail.tail.tail.tail) ?_
        refine takesR [0, 1, 2, 3, 4, 5, 6, 7, 8, 9, 14, 15, 16, 17, 18] [0, 2, 3, 4, 5, 6, 104, 105, 109, 110, 118, 119] 13 [true, true, true, true, true, true, true, true, true, true, false, false, false, false, true, true, true, true, true, false, false, false, false, false, false, false, false, false] [(0, .pointer (some ⟨t, 0, none⟩)), (2, .int .i64 0), (3, .bool false), (4, .int .i64 (i : Int)), (5, .slice A wy.length cp), (6, .int .i64 (m : Int)), (104, .slice (some ⟨wb, wo, none⟩) M1.length wc), (105, .int .i64 (m : Int)), (109, .slice (some ⟨wb, wo, none⟩) M1.length wc), (110, .int .i64 (m : Int)), (118, .slice (some ⟨wb, wo, none⟩) M1.length wc), (119, .int .i64 (m : Int))] [(⟨t, 0, none⟩, .slice (some ⟨wb, wo, none⟩) M1.length wc), (⟨t, 0, none⟩, .slice (some ⟨wb, wo, none⟩) M1.length wc), (⟨t, 0, none⟩, .slice (some ⟨wb, wo, none⟩) M1.length wc)] rfl (fun _ d _ _ _ h => by cases d <;> exact h) (fun _ h => by first | exact h | exact h.tail | exact h.tail.tail | exact h.tail.tail.tail | exact h.tail.tail.tail.tail) (hasC (blkAt (T := 65) (cs := [.slice (some ⟨wb, wo, none⟩) M1.length wc]) 2 rfl rfl) (hasC (blkAt (T := 65) (cs := [.slice (some ⟨wb, wo, none⟩) M1.length wc]) 2 rfl rfl) (hasC (blkAt (T := 65) (cs := [.slice (some ⟨wb, wo, none⟩) M1.length wc]) 2 rfl rfl) has0))) (fun _ => by kernel_rfl) ?_
        refine takeR1 10 12 [true, true, true, true, true, true, true, true, true, true, true, false, false, false, true, true, true, true, true, false, false, false, false, false, false, false, false, false] rfl rfl (by kernel_rfl) (fun _ d _ _ _ h => by cases d <;> exact h) (fun _ h => by first | exact h | exact h.tail | exact h.tail.tail | exact h.tail.tail.tail | exact h.tail.tail.tail.tail) (idxY 63 (.tmp 109) (.tmp 110) wb wo M1.length wc m 7 62 (m : Int) .i64 (some 111) (fun _ => by kernel_rfl) (by kernel_rfl) (by kernel_rfl) (fun _ => by kernel_rfl) (fun _ => by kernel_rfl) Tryz.underlying63 (by kernel_rfl) (by first | rfl | assumption | simp) (by first | omega | (simp; done) | (simp; omega) | (simp at *; omega))) ?_
        refine takesR [11, 12, 13] [0, 2, 3, 4, 5, 6, 104, 105, 118, 119, 114] 9 [true, true, true, true, true, true, true, true, true, true, true, true, true, true, true, true, true, true, true, false, false, false, false, false, false, false, false, false] [(0, .pointer (some ⟨t, 0, none⟩)), (2, .int .i64 0), (3, .bool false), (4, .int .i64 (i : Int)), (5, .slice A wy.length cp), (6, .int .i64 (m : Int)), (104, .slice (some ⟨wb, wo, none⟩) M1.length wc), (105, .int .i64 (m : Int)), (118, .slice (some ⟨wb, wo, none⟩) M1.length wc), (119, .int .i64 (m : Int)), (114, .int .i64 y.pass)] [(⟨wb, wo + m * 7 + 3, none⟩, .int .i64 y.pass)] rfl (fun _ d _ _ _ h => by cases d <;> exact h) (fun _ h => by first | exact h | exact h.tail | exact h.tail.tail | exact h.tail.tail.tail | exact h.tail.tail.tail.tail) (hasC (rowCell (E := rnE) (xs := M1) 0 rfl (x := y) hm1 (j := 3) rfl) has0) (fun _ => by kernel_rfl) ?_
        refine takeR1 19 8 [true, true, true, true, true, true, true, true, true, true, true, true, true, true, true, true, true, true, true, true, false, false, false, false, false, false, false, false] rfl rfl (by kernel_rfl) (fun _ d _ _ _ h => by cases d <;> exact h) (fun _ h => by first | exact h | exact h.tail | exact h.tail.tail | exact h.tail.tail.tail | exact h.tail.tail.tail.tail) (idxY 63 (.tmp 118) (.tmp 119) wb wo M1.length wc m 7 62 (m : Int) .i64 (some 120) (fun _ => by kernel_rfl) (by kernel_rfl) (by kernel_rfl) (fun _ => by kernel_rfl) (fun _ => by kernel_rfl) Tryz.underlying63 (by kernel_rfl) (by first | rfl | assumption | simp) (by first | omega | (simp; done) | (simp; omega) | (simp at *; omega))) ?_
        refine takesR [20, 21, 22] [0, 2, 3, 4, 5, 6, 104, 105, 114, 123] 5 [true, true, true, true, true, true, true, true, true, true, true, true, true, true, true, true, true, true, true, true, true, true, true, false, false, false, false, false] [(0, .pointer (some ⟨t, 0, none⟩)), (2, .int .i64 0), (3, .bool false), (4, .int .i64 (i : Int)), (5, .slice A wy.length cp), (6, .int .i64 (m : Int)), (104, .slice (some ⟨wb, wo, none⟩) M1.length wc), (105, .int .i64 (m : Int)), (114, .int .i64 y.pass), (123, .int .i64 y.wt)] [(⟨wb, wo + m * 7 + 2, none⟩, .int .i64 y.wt)] rfl (fun _ d _ _ _ h => by cases d <;> exact h) (fun _ h => by first | exact h | exact h.tail | exact h.tail.tail | exact h.tail.tail.tail | exact h.tail.tail.tail.tail) (hasC (rowCell (E := rnE) (xs := M1) 0 rfl (x := y) hm1 (j := 2) rfl) has0) (fun _ => by kernel_rfl) ?_
        refine oneR 23 4 [true, true, true, true, true, true, true, true, true, true, true, true, true, true, true, true, true, true, true, true, true, true, true, true, false, false, false, false] rfl rfl (by kernel_rfl) (callS 40 [.int .i64 y.pass, .int .i64 y.wt] (some 124) (fun _ => .int .i64 (y.pass + strd y.wt)) (fun _ => (row rnE 62 (.slice (some ⟨wb, wo, none⟩) (M1.length) wc) M1 :: row (kE .i64) 3 (.slice A wy.length cp) wy :: blk t 65 [.slice (some ⟨wb, wo, none⟩) M1.length wc] :: H)) (fun _ => by kernel_rfl) (rnext_walk _ (by omega) hyw)) (fun _ _ h hn => by first | exact h | exact h.tail | exact h.tail.tail | exact h.tail.tail.tail | exact h.tail.tail.tail.tail | exact absurd hn (by decide)) (fun _ => ?_)
        refine takeR1 24 3 [true, true, true, true, true, true, true, true, true, true, true, true, true, true, true, true, true, true, true, true, true, true, true, true, true, false, false, false] rfl rfl (by kernel_rfl) (fun _ d _ _ _ h => by cases d <;> exact h) (fun _ h => by first | exact h | exact h.tail | exact h.tail.tail | exact h.tail.tail.tail | exact h.tail.tail.tail.tail) (idxY 63 (.tmp 104) (.tmp 105) wb wo M1.length wc m 7 62 (m : Int) .i64 (some 125) (fun _ => by kernel_rfl) (by kernel_rfl) (by kernel_rfl) (fun _ => by kernel_rfl) (fun _ => by kernel_rfl) Tryz.underlying63 (by kernel_rfl) (by first | rfl | assumption | simp) (by first | omega | (simp; done) | (simp; omega) | (simp at *; omega))) ?_
        refine takesR [25, 26] [124, 0, 2, 3, 4, 5, 6, 127] 1 [true, true, true, true, true, true, true, true, true, true, true, true, true, true, true, true, true, true, true, true, true, true, true, true, true, true, true, false] [(124, .int .i64 (y.pass + strd y.wt)), (0, .pointer (some ⟨t, 0, none⟩)), (2, .int .i64 0), (3, .bool false), (4, .int .i64 (i : Int)), (5, .slice A wy.length cp), (6, .int .i64 (m : Int)), (127, .pointer (some ⟨wb, wo + m * 7 + 3, none⟩))] [] rfl (fun _ d _ _ _ h => by cases d <;> exact h) (fun _ h => by first | exact h | exact h.tail | exact h.tail.tail | exact h.tail.tail.tail | exact h.tail.tail.tail.tail) has0 (fun _ => by kernel_rfl) ?_
        refine oneR 27 0 [true, true, true, true, true, true, true, true, true, true, true, true, true, true, true, true, true, true, true, true, true, true, true, true, true, true, true, true] rfl rfl (by kernel_rfl) (setS (E := rnE) (J := m) (j := 3) y (psF (y.pass + strd y.wt) y) (.int .i64 (y.pass + strd y.wt)) ⟨wb, wo + m * 7 + 3, none⟩ (fun _ => by kernel_rfl) (by first | rfl | simp) (hm1) (rfl) (by decide)) (fun _ _ h hn => by first | exact h | exact h.tail | exact h.tail.tail | exact h.tail.tail.tail | exact h.tail.tail.tail.tail | exact absurd hn (by decide)) (fun _ => ?_)
        refine drawnR (by kernel_rfl) ?_
        rw [show M1.length = (upN M1 y.id (psF (y.pass + strd y.wt))).length by simp [upN]]
        rw [show (M1.set m (psF (y.pass + strd y.wt) y)) = (upN M1 y.id (psF (y.pass + strd y.wt))) by exact set_at hnd1 hm1 (psF (y.pass + strd y.wt))]
        refine seqR (by kernel_rfl) ?_
        refine regionR 5 (by kernel_rfl) (by kernel_rfl) ?_
        refine (run0 (z := 3) 2 [0, 2, 3, 4, 5, 6, 128, 129] [(0, .pointer (some ⟨t, 0, none⟩)), (2, .int .i64 0), (3, .bool false), (4, .int .i64 (i : Int)), (5, .slice A wy.length cp), (6, .int .i64 (m : Int)), (128, .slice A wy.length cp), (129, .int .i64 (i : Int))] (fun _ => by kernel_rfl) ?_ : RT _ _ _ _ _ _ 5 _)
        refine (stepR (z := 2) (newS 3 [.int .i64 (i : Int)] (some 130) (fun b => .slice (some ⟨b, 0, none⟩) 1 1) (fun _ _ => by kernel_rfl)) (fun b2 => ?_) : RT _ _ _ _ _ _ 3 _)
        refine (RT.pick 2 rfl ?_ : RT _ _ _ (blk b2 3 [.int .i64 (i : Int)] :: row rnE 62 (.slice (some ⟨wb, wo, none⟩) ((upN M1 y.id (psF (y.pass + strd y.wt))).length) wc) (upN M1 y.id (psF (y.pass + strd y.wt))) :: row (kE .i64) 3 (.slice A wy.length cp) wy :: blk t 65 [.slice (some ⟨wb, wo, none⟩) ((upN M1 y.id (psF (y.pass + strd y.wt))).length) wc] :: H) _ _ 2 _)
        refine (stepR (z := 1) (appS (E := (kE .i64)) 79 (.tmp 128) (.tmp 130) A cp wy [(i : Int)] (.slice (some ⟨b2, 0, none⟩) 1 1) (some 131) (fun _ => by kernel_rfl) (by kernel_rfl) (by kernel_rfl) (fun _ => by kernel_rfl) (fun _ => by kernel_rfl) Tryz.underlying79 (kI_ety) (blkRd (x := (i : Int)) 1 rfl) (by simp; omega)) (fun r3 => ?_) : RT _ _ _ (row (kE .i64) 3 (.slice A wy.length cp) wy :: blk b2 3 [.int .i64 (i : Int)] :: row rnE 62 (.slice (some ⟨wb, wo, none⟩) ((upN M1 y.id (psF (y.pass + strd y.wt))).length) wc) (upN M1 y.id (psF (y.pass + strd y.wt))) :: blk t 65 [.slice (some ⟨wb, wo, none⟩) ((upN M1 y.id (psF (y.pass + strd y.wt))).length) wc] :: H) _ _ 2 _)
        refine (run0 (z := 0) 1 [0, 2, 3, 4, 5, 6] [(0, .pointer (some ⟨t, 0, none⟩)), (2, .int .i64 0), (3, .bool false), (4, .int .i64 (i : Int)), (5, .slice r3.1 ((wy ++ [(i : Int)]).length) r3.2), (6, .int .i64 (m : Int))] (fun _ => by kernel_rfl) (endR ?_) : RT _ _ _ _ _ _ 1 _)
        refine regionR 2 (by kernel_rfl) (by kernel_rfl) ?_
        refine (run0 (z := 0) 2 [0, 2, 3, 4, 5] [(0, .pointer (some ⟨t, 0, none⟩)), (2, .int .i64 0), (3, .bool false), (4, .int .i64 (m : Int)), (5, .slice r3.1 ((wy ++ [(i : Int)]).length) r3.2)] (fun _ => by kernel_rfl) (endR ?_) : RT _ _ _ _ _ _ 2 _)
        refine PT.pick 1 rfl ?_
        refine PT.drop ?_
        refine PT.pick 1 rfl ?_
        refine PT.pick 2 rfl ?_
        refine PT.pick 2 rfl ?_
        refine PT.keep (L' := [(0, .pointer (some ⟨t, 0, none⟩)), (2, .int .i64 0), (3, .bool false), (4, .int .i64 (m : Int)), (5, .slice r3.1 ((wy ++ [(i : Int)]).length) r3.2)]) [0, 2, 3, 4, 5] rfl ?_
        exact againG (k - 1) ⟨upN M1 y.id (psF (y.pass + strd y.wt)), m, wy ++ [(i : Int)], r3.1, r3.2⟩ rfl rfl (by omega) ⟨_, hIn⟩
end Go.Proofs.YtjbjngikaiggdaaGreatDoor
set_option linter.unusedVariables false
set_option linter.unusedSimpArgs false
namespace Go.Proofs.YtjbjngikaiggdaaGreatDoor
open Go.RowKit G
section
variable {N L : List Nr}
theorem nd_perm (h : N.Perm L) (hn : (N.map (·.id)).Nodup) : (L.map (·.id)).Nodup := ((h.map (·.id)).nodup_iff).1 hn
theorem gt_perm (h : N.Perm L) (hn : (N.map (·.id)).Nodup) (k : Int) : gt N k = gt L k := by
  cases hg : gt N k with
  | none => exact (gt_none.2 fun x hx => gt_none.1 hg x (h.mem_iff.2 hx)).symm
  | some x => obtain ⟨h1, rfl⟩ := gt_mem hg; exact (gt_of (nd_perm h hn) (h.mem_iff.1 h1)).symm
theorem up_perm (h : N.Perm L) (k : Int) (f : Nr → Nr) : (upN N k f).Perm (upN L k f) := h.map _
theorem kid_perm (h : N.Perm L) (k : Int) : (kidR N k).Perm (kidR L k) := h.filter _
theorem kid_nil (h : N.Perm L) (k : Int) : kidR N k = [] ↔ kidR L k = [] := by
  constructor
  · intro e; have := kid_perm h k; rw [e] at this; exact this.nil_eq.symm
  · intro e; have := (kid_perm h k).symm; rw [e] at this; exact this.nil_eq.symm
theorem WFN.perm (h : N.Perm L) (hw : WFN N) : WFN L := by
  have hm : ∀ {x}, x ∈ L → x ∈ N := fun hx => h.mem_iff.2 hx
  have hm' : ∀ {x}, x ∈ N → x ∈ L := fun hx => h.mem_iff.1 hx
  refine ⟨⟨nd_perm h hw.sk.nd, ?_, fun x hx => hw.sk.rt x (hm hx), fun x hx h0 => ?_, by rw [← h.length_eq]; exact hw.sk.len, ?_⟩, fun x hx => hw.wt x (hm hx), fun x hx => hw.now x (hm hx), fun x hx => hw.pass x (hm hx), fun x hx p hp => hw.pn x (hm hx) p (hm hp), fun x hx ht => ?_⟩
  · obtain ⟨r, hr, e⟩ := hw.sk.root; exact ⟨r, hm' hr, e⟩
  · obtain ⟨a, p, hp, b⟩ := hw.sk.pa x (hm hx) h0; exact ⟨a, p, hm' hp, b⟩
  · obtain ⟨rk, hk⟩ := hw.sk.rk; exact ⟨rk, fun x hx => hk x (hm hx)⟩
  · rw [hw.rd x (hm hx) ht]
    exact ⟨fun ⟨y, hy, a⟩ => ⟨y, hm' hy, a⟩, fun ⟨y, hy, a⟩ => ⟨y, hm hy, a⟩⟩
theorem deep_perm (h : N.Perm L) (hn : (N.map (·.id)).Nodup) : ∀ (f : Nat) (k : Int), deepN f N k = deepN f L k
  | 0, _ => rfl
  | f + 1, k => by
    rw [deepN, deepN, gt_perm h hn]
    cases gt L k with
    | none => rfl
    | some x => simp only; rw [deep_perm h hn f]
theorem any_perm (h : N.Perm L) (p : Nr → Bool) : N.any p = L.any p := by
  cases hb : L.any p with
  | true => obtain ⟨y, hy, e⟩ := List.any_eq_true.1 hb; exact List.any_eq_true.2 ⟨y, h.mem_iff.2 hy, e⟩
  | false => exact List.any_eq_false.2 fun y hy => List.any_eq_false.1 hb y (h.mem_iff.1 hy)
end
theorem wake_perm : ∀ (f : Nat) {N L : List Nr} (k : Int), N.Perm L → (N.map (·.id)).Nodup → (wakeN f N k).Perm (wakeN f L k)
  | 0, _, _, _, h, _ => h
  | f + 1, N, L, k, h, hn => by
    rw [wakeN, wakeN, gt_perm h hn]
    cases gt L k with
    | none => exact h
    | some x =>
      simp only
      split
      · exact h
      · rw [gt_perm h hn]
        cases gt L x.par with
        | none => exact up_perm h _ _
        | some p => exact wake_perm f _ (up_perm h _ _) (by rw [upN_id]; exact hn; exact fun _ => rfl)
theorem rest_perm : ∀ (f : Nat) {N L : List Nr} (k : Int), N.Perm L → (N.map (·.id)).Nodup → (restN f N k).Perm (restN f L k)
  | 0, _, _, _, h, _ => h
  | f + 1, N, L, k, h, hn => by
    rw [restN, restN, gt_perm h hn]
    cases gt L k with
    | none => exact h
    | some x =>
      simp only [ne_eq, kid_nil h]
      split
      · exact h
      · rw [gt_perm h hn]
        cases gt L x.par with
        | none => exact up_perm h _ _
        | some p => exact rest_perm f _ (up_perm h _ _) (by rw [upN_id]; exact hn; exact fun _ => rfl)
theorem ready_perm {N L : List Nr} (h : N.Perm L) (hn : (N.map (·.id)).Nodup) (k : Int) (r : Bool) : (readyN N k r).1 = (readyN L k r).1 ∧ (readyN N k r).2.Perm (readyN L k r).2 := by
  rw [readyN, readyN, gt_perm h hn]
  cases gt L k with
  | none => exact ⟨rfl, h⟩
  | some x =>
    simp only
    split
    · cases r
      · exact ⟨rfl, rest_perm 6 k h hn⟩
      · exact ⟨rfl, wake_perm 6 k h hn⟩
    · exact ⟨rfl, h⟩
theorem weight_perm {N L : List Nr} (h : N.Perm L) (hn : (N.map (·.id)).Nodup) (k W : Int) : (weightN N k W).1 = (weightN L k W).1 ∧ (weightN N k W).2.Perm (weightN L k W).2 := by
  rw [weightN, weightN, gt_perm h hn]
  split
  · exact ⟨rfl, h⟩
  · cases gt L k with
    | none => exact ⟨rfl, h⟩
    | some x =>
      simp only
      split
      · exact ⟨rfl, h⟩
      · rw [gt_perm h hn]
        cases gt L x.par with
        | none => exact ⟨rfl, h⟩
        | some p => exact ⟨rfl, up_perm h _ _⟩
theorem remove_perm {N L : List Nr} (h : N.Perm L) (hn : (N.map (·.id)).Nodup) (k : Int) : (removeN N k).1 = (removeN L k).1 ∧ (removeN N k).2.Perm (removeN L k).2 := by
  rw [removeN, removeN, gt_perm h hn, any_perm h]
  split
  · exact ⟨rfl, h⟩
  · split
    · exact ⟨rfl, h⟩
    · exact ⟨rfl, (rest_perm 6 k h hn).filter _⟩
theorem add_perm {N L : List Nr} (h : N.Perm L) (hn : (N.map (·.id)).Nodup) (par id wt : Int) (thr : Bool) : (addN N par id wt thr).1 = (raddN L par id wt thr).1 ∧ (addN N par id wt thr).2.Perm (raddN L par id wt thr).2 := by
  rw [addN, raddN, gt_perm h hn, gt_perm h hn, deep_perm h hn, h.length_eq]
  split
  · exact ⟨rfl, h⟩
  · cases gt L par with
    | none => exact ⟨rfl, h⟩
    | some p =>
      simp only
      split
      · exact ⟨rfl, h⟩
      · split
        · exact ⟨rfl, h⟩
        · split
          · exact ⟨rfl, h⟩
          · split
            · exact ⟨rfl, h⟩
            · exact ⟨rfl, (h.append_right _).trans (insN_perm _ L).symm⟩
theorem least_perm {l m : List Nr} (h : l.Perm m) (hn : (l.map (·.id)).Nodup) : least l = least m := by
  cases hl : least m with
  | none => have := least_none.1 hl; subst this; rw [h.eq_nil]; rfl
  | some y =>
    obtain ⟨h1, h2⟩ := least_some hl
    exact least_is hn (h.mem_iff.2 h1) fun z hz => h2 z (h.mem_iff.1 hz)
theorem shift_perm {N L : List Nr} (h : N.Perm L) (hn : (N.map (·.id)).Nodup) (k : Int) : (shiftN N k).Perm (shiftN L k) ∧ ((shiftN N k).map (·.id)) = N.map (·.id) := by
  rw [shiftN, shiftN, gt_perm h hn]
  cases gt L k with
  | none => exact ⟨h, rfl⟩
  | some g =>
    simp only
    split
    · exact ⟨h, rfl⟩
    · refine ⟨up_perm (h.map _) _ _, ?_⟩
      rw [upN_id, List.map_map]
      · exact List.map_congr_left fun x _ => by simp only [Function.comp]; split <;> rfl
      · exact fun _ => rfl
theorem fold_perm : ∀ (way : List Int) {N L : List Nr}, N.Perm L → (N.map (·.id)).Nodup → (way.foldl shiftN N).Perm (way.foldl shiftN L) ∧ (way.foldl shiftN N).map (·.id) = N.map (·.id)
  | [], _, _, h, _ => ⟨h, rfl⟩
  | k :: way, N, L, h, hn => by
    obtain ⟨h1, h2⟩ := shift_perm h hn k
    obtain ⟨h3, h4⟩ := fold_perm way h1 (by rw [h2]; exact hn)
    exact ⟨h3, h4.trans h2⟩
theorem down_perm : ∀ (f : Nat) {N L : List Nr} (k : Int) (way : List Int), N.Perm L → (N.map (·.id)).Nodup → (downN f N k way).1 = (downN f L k way).1 ∧ (downN f N k way).2.Perm (downN f L k way).2 ∧ (downN f N k way).2.map (·.id) = N.map (·.id)
  | 0, _, _, _, _, h, _ => ⟨rfl, h, rfl⟩
  | f + 1, N, L, k, way, h, hn => by
    rw [downN, downN, least_perm (kid_perm h k) (kidR_nd hn k)]
    cases least (kidR L k) with
    | none => exact ⟨rfl, fold_perm way h hn⟩
    | some y =>
      simp only
      have e : (upN (upN N k fun x => { x with now := y.pass }) y.id fun x => { x with pass := y.pass + strd y.wt }).map (·.id) = N.map (·.id) := by rw [upN_id, upN_id] <;> exact fun _ => rfl
      obtain ⟨h1, h2, h3⟩ := down_perm f y.id (way ++ [k]) (up_perm (up_perm h k (fun x => { x with now := y.pass })) y.id (fun x => { x with pass := y.pass + strd y.wt })) (by rw [e]; exact hn)
      exact ⟨h1, h2, h3.trans e⟩
theorem run_perm {N L : List Nr} (h : N.Perm L) (hn : (N.map (·.id)).Nodup) : (runN N).1 = (runN L).1 ∧ (runN N).2.Perm (runN L).2 ∧ (runN N).2.map (·.id) = N.map (·.id) := by
  rw [runN, runN, gt_perm h hn]
  cases gt L 0 with
  | none => exact ⟨rfl, h, rfl⟩
  | some r =>
    simp only
    split
    · obtain ⟨h1, h2, h3⟩ := down_perm 6 0 [] h hn
      exact ⟨by rw [h1], h2, h3⟩
    · exact ⟨rfl, h, rfl⟩
/-! ## the document's nodes go by number -/
/-- The document's nodes: the program's, by number. -/
structure TRel (N L : List Nr) : Prop where
  perm : N.Perm L
  srt : (L.map (·.id)).Pairwise (· < ·)
theorem TRel.start : TRel [rootN] [rootN] := ⟨.refl _, by simp⟩
theorem insN_srt {n : Nr} : ∀ {L : List Nr}, (L.map (·.id)).Pairwise (· < ·) → (∀ y ∈ L, y.id ≠ n.id) → ((insN n L).map (·.id)).Pairwise (· < ·)
  | [], _, _ => by simp [insN]
  | y :: r, h, hno => by
    simp only [List.map_cons, List.pairwise_cons, List.mem_map, forall_exists_index, and_imp, forall_apply_eq_imp_iff₂] at h
    unfold insN
    split
    · rename_i hlt
      simp only [List.map_cons, List.pairwise_cons, List.mem_map, forall_exists_index, and_imp, forall_apply_eq_imp_iff₂]
      refine ⟨fun z hz => ?_, insN_srt h.2 fun z hz => hno z (by simp [hz])⟩
      rcases insN_mem.1 hz with rfl | hz
      · exact hlt
      · exact h.1 z hz
    · rename_i hlt
      have := hno y (by simp)
      simp only [List.map_cons, List.pairwise_cons, List.mem_cons, List.mem_map, forall_eq_or_imp, forall_exists_index, and_imp, forall_apply_eq_imp_iff₂]
      exact ⟨⟨by omega, fun z hz => by have := h.1 z hz; omega⟩, h.1, h.2⟩
theorem TRel.ready {N L : List Nr} (h : TRel N L) (hw : WFN N) (k : Int) (r : Bool) : (readyN N k r).1 = (readyN L k r).1 ∧ TRel (readyN N k r).2 (readyN L k r).2 := by
  obtain ⟨h1, h2⟩ := ready_perm h.perm hw.sk.nd k r
  obtain ⟨g, h3, h4⟩ := readyN_map L k r
  exact ⟨h1, h2, by rw [h4, List.map_map, show ((·.id) ∘ g : Nr → Int) = (·.id) from funext h3.id]; exact h.srt⟩
theorem TRel.weight {N L : List Nr} (h : TRel N L) (hw : WFN N) (k W : Int) : (weightN N k W).1 = (weightN L k W).1 ∧ TRel (weightN N k W).2 (weightN L k W).2 := by
  obtain ⟨h1, h2⟩ := weight_perm h.perm hw.sk.nd k W
  refine ⟨h1, h2, ?_⟩
  rw [weightN]
  split
  · exact h.srt
  · split
    · exact h.srt
    · split
      · exact h.srt
      · split
        · exact h.srt
        · show ((upN L k _).map (·.id)).Pairwise (· < ·)
          rw [upN_id]; exact h.srt; exact fun _ => rfl
theorem TRel.remove {N L : List Nr} (h : TRel N L) (hw : WFN N) (k : Int) : (removeN N k).1 = (removeN L k).1 ∧ TRel (removeN N k).2 (removeN L k).2 := by
  obtain ⟨h1, h2⟩ := remove_perm h.perm hw.sk.nd k
  refine ⟨h1, h2, ?_⟩
  rw [removeN]
  split
  · exact h.srt
  · split
    · exact h.srt
    · obtain ⟨g, h3, _, h4⟩ := restN_map 6 L k
      have : ((restN 6 L k).map (·.id)).Pairwise (· < ·) := by rw [h4, List.map_map, show ((·.id) ∘ g : Nr → Int) = (·.id) from funext h3.id]; exact h.srt
      exact this.sublist (List.Sublist.map _ List.filter_sublist)
theorem TRel.add {N L : List Nr} (h : TRel N L) (hw : WFN N) (par id wt : Int) (thr : Bool) : (addN N par id wt thr).1 = (raddN L par id wt thr).1 ∧ TRel (addN N par id wt thr).2 (raddN L par id wt thr).2 := by
  obtain ⟨h1, h2⟩ := add_perm h.perm hw.sk.nd par id wt thr
  refine ⟨h1, h2, ?_⟩
  rw [raddN]
  split
  · exact h.srt
  · split
    · exact h.srt
    · split
      · exact h.srt
      · split
        · exact h.srt
        · rename_i hno
          split
          · exact h.srt
          · split
            · exact h.srt
            · refine insN_srt h.srt fun y hy e => hno ?_
              have : gt L id ≠ none := fun hn => gt_none.1 hn y hy e
              cases hg : gt L id with
              | none => exact absurd hg this
              | some _ => rfl
theorem TRel.run {N L : List Nr} (h : TRel N L) (hw : WFN N) : (runN N).1 = (runN L).1 ∧ TRel (runN N).2 (runN L).2 := by
  obtain ⟨h1, h2, _⟩ := run_perm h.perm hw.sk.nd
  obtain ⟨_, _, h3⟩ := run_perm (.refl L) (nd_perm h.perm hw.sk.nd)
  exact ⟨h1, h2, by rw [h3]; exact h.srt⟩
theorem TRel.deep {N L : List Nr} (h : TRel N L) (hw : WFN N) (k : Int) : deepN 6 N k = deepN 6 L k := deep_perm h.perm hw.sk.nd 6 k
theorem TRel.wf {N L : List Nr} (h : TRel N L) (hw : WFN N) : WFN L := hw.perm h.perm
/-- What is told of both is the same. -/
theorem TRel.nodes {N L : List Nr} (h : TRel N L) (hw : WFN N) : nodesN N = L := by
  have hn := hw.sk.nd
  have e : sortI (N.map (·.id)) = L.map (·.id) := by
    refine List.Perm.eq_of_pairwise (le := fun a b => a ≤ b) (fun a b _ _ h1 h2 => Int.le_antisymm h1 h2) ?_ (h.srt.imp fun h => Int.le_of_lt h) ((List.mergeSort_perm _ _).trans (h.perm.map _))
    exact (List.pairwise_mergeSort (le := fun a b : Int => decide (a ≤ b)) (fun a b c h1 h2 => by simp at *; omega) (fun a b => by simp; omega) _).imp fun h => of_decide_eq_true h
  rw [nodesN, e, List.map_map]
  have : ∀ x ∈ L, (((fun k => (gt N k).getD zeroN) ∘ (·.id)) x) = x := fun x hx => by
    simp only [Function.comp]; rw [gt_of hn (h.perm.mem_iff.2 hx)]; rfl
  rw [List.map_congr_left this]; simp
end Go.Proofs.YtjbjngikaiggdaaGreatDoor
set_option linter.unusedVariables false
set_option linter.unusedSimpArgs false
namespace Go.Proofs.YtjbjngikaiggdaaGreatDoor
open Go.RowKit G Go.Extern.Stop Go.Stop Go.Extern
theorem asValueOfP (t : Addr) (w : World) : (ReflectliteValue.unpack (.iface 67 (.pointer (some t)))).run Tryz.prog w
    = .ok (.agg #[.pointer (some ⟨1, 67, none⟩), .pointer (some ⟨w.heap.size, 0, none⟩), .int .u64 150]) (w.alloc (.cells #[.pointer (some t)] 67)) := by kernel_rfl
theorem asTypeP (a : Addr) (w : World) : (ReflectliteValue.methodAny (ReflectliteValue.valueError "reflectlite.Value.Type" 0) (fun t _ _ _ => ReflectliteType.toType t) #[.agg #[.pointer (some ⟨1, 67, none⟩), .pointer (some a), .int .u64 150]]).run Tryz.prog w
    = .ok (.iface 108 (.agg #[.pointer (some ⟨1, 67, none⟩)])) w := by kernel_rfl
theorem asMethKind (k : Nat) (h : Value) (w : World) : (Go.method (k + 2) 108 (.agg #[h]) "Kind").run Tryz.prog w = .ok (125, h) w := by kernel_rfl
theorem asMethElem (k : Nat) (h : Value) (w : World) : (Go.method (k + 1) 108 (.agg #[h]) "Elem").run Tryz.prog w = .ok (135, .agg #[h]) w := by kernel_rfl
theorem asMethImpl (k : Nat) (h : Value) (w : World) : (Go.method (k + 1) 108 (.agg #[h]) "Implements").run Tryz.prog w = .ok (136, .agg #[h]) w := by kernel_rfl
theorem asMethAsgn (k : Nat) (h : Value) (w : World) : (Go.method (k + 1) 108 (.agg #[h]) "AssignableTo").run Tryz.prog w = .ok (133, .agg #[h]) w := by kernel_rfl
theorem asKindP (w : World) : ((ReflectliteType.abiMethod fun t => (fun a : Nat => Value.int IntKind.u8 (a : Int)) <$> Rtype.kind t) #[.pointer (some ⟨1, 67, none⟩)]).run Tryz.prog w = .ok (.int .u8 22) w := by kernel_rfl
theorem asKindE (w : World) : ((ReflectliteType.abiMethod fun t => (fun a : Nat => Value.int IntKind.u8 (a : Int)) <$> Rtype.kind t) #[.pointer (some ⟨1, 52, none⟩)]).run Tryz.prog w = .ok (.int .u8 2) w := by kernel_rfl
theorem asRlm (z : Sem Value) (f : TypeId → Addr → Nat → Nat → Sem Value) (v : Value) :
    ReflectliteValue.method z f #[v] = (do match ← ReflectliteValue.parts v with | none => z | some (t, a, fl) => f t a fl (fl % 32)) := rfl
theorem asPartsP (a : Addr) (w : World) : (ReflectliteValue.parts (.agg #[.pointer (some ⟨1, 67, none⟩), .pointer (some a), .int .u64 150])).run Tryz.prog w = .ok (some (67, a, 150)) w := by kernel_rfl
theorem asIsNilP (a p : Addr) (W : World) (ha : W.cell? a = some (.pointer (some p))) :
    (ReflectliteValue.method (ReflectliteValue.valueError "reflectlite.Value.IsNil" 0) ReflectliteValue.isNil #[.agg #[.pointer (some ⟨1, 67, none⟩), .pointer (some a), .int .u64 150]]).run Tryz.prog W = .ok (.bool false) W := by
  rw [asRlm]
  simp only [Sem.run_bind, asPartsP, Result.andThen]
  simp [ReflectliteValue.isNil, loadVar, isAgg, underlying, Tryz.underlying67, ha, Result.andThen]
theorem asElemP (w : World) : (ReflectliteType.method ReflectliteType.elem #[.agg #[.pointer (some ⟨1, 67, none⟩)]]).run Tryz.prog w = .ok (.iface 108 (.agg #[.pointer (some ⟨1, 52, none⟩)])) w := by kernel_rfl
theorem asImplE (w : World) : (ReflectliteType.relation "Implements" ReflectliteType.implements_ #[.agg #[.pointer (some ⟨1, 52, none⟩)], .iface 108 (.agg #[.pointer (some ⟨1, 32, none⟩)])]).run Tryz.prog w = .ok (.bool true) w := by kernel_rfl
theorem asTypeOfE (v : Value) (w : World) : (ReflectliteType.typeOf #[.iface 52 v]).run Tryz.prog w = .ok (.iface 108 (.agg #[.pointer (some ⟨1, 52, none⟩)])) w := by kernel_rfl
theorem asAsgnE (w : World) : (ReflectliteType.relation "AssignableTo" ReflectliteType.assignableTo #[.agg #[.pointer (some ⟨1, 52, none⟩)], .iface 108 (.agg #[.pointer (some ⟨1, 52, none⟩)])]).run Tryz.prog w = .ok (.bool true) w := by kernel_rfl
theorem asValueOfE (e : Int) (w : World) : (ReflectliteValue.unpack (.iface 52 (.int .i64 e))).run Tryz.prog w
    = .ok (.agg #[.pointer (some ⟨1, 52, none⟩), .pointer (some ⟨w.heap.size, 0, none⟩), .int .u64 130]) (w.alloc (.cells #[.int .i64 e] 52)) := by kernel_rfl
theorem asElemOfP (w : World) : (Rtype.elem? 67).run Tryz.prog w = .ok (some 52) w := by kernel_rfl
theorem asMkE (p : Addr) (w : World) : (ReflectliteValue.mk 52 p ReflectliteValue.flagAddr).run Tryz.prog w = .ok (.agg #[.pointer (some ⟨1, 52, none⟩), .pointer (some p), .int .u64 386]) w := by kernel_rfl
theorem asElemVP (a p : Addr) (W : World) (ha : W.cell? a = some (.pointer (some p))) :
    (ReflectliteValue.method (ReflectliteValue.valueError "reflectlite.Value.Elem" 0) ReflectliteValue.elem #[.agg #[.pointer (some ⟨1, 67, none⟩), .pointer (some a), .int .u64 150]]).run Tryz.prog W
      = .ok (.agg #[.pointer (some ⟨1, 52, none⟩), .pointer (some p), .int .u64 386]) W := by
  rw [asRlm]
  simp only [Sem.run_bind, asPartsP, Result.andThen]
  simp [ReflectliteValue.elem, loadVar, isAgg, underlying, Tryz.underlying67, ha, Result.andThen, asElemOfP, asMkE]
theorem asRls (v x : Value) : ReflectliteValue.set #[v, x] = (do
    let (some (dst, a, fl), some (src, b, _)) := (← ReflectliteValue.parts v, ← ReflectliteValue.parts x)
      | unsupported (.noEntry "extern/(internal/reflectlite.Value).Set.zeroValue")
    if fl / ReflectliteValue.flagAddr % 2 == 0 then unsupported (.noEntry "extern/(internal/reflectlite.Value).Set.unaddressable")
    let val ← loadVar src b
    if ← Rtype.directlyAssignable dst src then storeVar dst a val
    else if ← Rtype.implements dst src then
      if (← Rtype.kind src) == 20 then
        match val with
        | .nilIface => unsupported (.noEntry "extern/reflectlite: a nil value of one interface type handed on as a value of another")
        | _ => storeVar dst a val
      else storeVar dst a (.iface src val)
    else panicString ("reflectlite.Set: value of type " ++ (← Rtype.spelt src) ++ " is not assignable to type " ++ (← Rtype.spelt dst))
    pure (.tuple #[])) := rfl
theorem asPartsEa (a : Addr) (w : World) : (ReflectliteValue.parts (.agg #[.pointer (some ⟨1, 52, none⟩), .pointer (some a), .int .u64 386])).run Tryz.prog w = .ok (some (52, a, 386)) w := by kernel_rfl
theorem asPartsE (a : Addr) (w : World) : (ReflectliteValue.parts (.agg #[.pointer (some ⟨1, 52, none⟩), .pointer (some a), .int .u64 130])).run Tryz.prog w = .ok (some (52, a, 130)) w := by kernel_rfl
theorem asDirect (w : World) : (Rtype.directlyAssignable 52 52).run Tryz.prog w = .ok true w := by kernel_rfl
theorem asSet (ta b : Addr) (e : Int) (old : Value) (W : World) (hb : W.cell? b = some (.int .i64 e)) (ht : W.cell? ta = some old) (hf : W.frozen? ta = false) :
    (ReflectliteValue.set #[.agg #[.pointer (some ⟨1, 52, none⟩), .pointer (some ta), .int .u64 386], .agg #[.pointer (some ⟨1, 52, none⟩), .pointer (some b), .int .u64 130]]).run Tryz.prog W
      = .ok (.tuple #[]) (W.setCell ta (.int .i64 e)) := by
  rw [asRls]
  simp only [Sem.run_bind, asPartsEa, asPartsE, Result.andThen]
  simp [ReflectliteValue.flagAddr, loadVar, isAgg, underlying, Tryz.underlying52, hb, Result.andThen, asDirect, storeVar, Value.cells, storeCells, Addr.add]
  rw [run_store Tryz.prog W ta _ _ (by rfl)]
  simp [ht, hf]
/-- What the package errors keeps: the type of errors. -/
def errT : Value := .iface 108 (.agg #[.pointer (some ⟨1, 32, none⟩)])
set_option maxHeartbeats 4000000 in
set_option maxRecDepth 100000 in
theorem as_errno_w (e : Int) (t : Addr) (old : Value) (w : World) (hg : w.cell? ⟨0, 0, none⟩ = some (.iface 108 (.agg #[.pointer (some ⟨1, 32, none⟩)]))) (ht0 : w.cell? t = some old) (hf0 : w.frozen? t = false) :
    Calls Tryz.prog 26 #[.iface 52 (.int .i64 e), .iface 67 (.pointer (some t))] w fun ev w' => ev = .returned (.bool true) ∧ w' = ((((w.alloc (.cells #[.pointer (some t)] 67)).alloc (.cells #[.pointer (some ⟨1, 67, none⟩), .pointer (some ⟨w.heap.size, 0, none⟩), .int .u64 150] 94)).alloc (.cells #[.pointer (some ⟨1, 67, none⟩), .pointer (some ⟨w.heap.size, 0, none⟩), .int .u64 150] 94)).alloc (.cells #[.int .i64 e] 52)).setCell t (.int .i64 e) := by
  have h6 := @run_callFunc_extern Tryz.prog 45 _ (fun args => ReflectliteValue.unpack (args.getD 0 (.tuple #[]))) Tryz.func45 (by kernel_rfl) (by kernel_rfl) (by kernel_rfl) (by kernel_rfl)
  have h7 := @run_callFunc_extern Tryz.prog 46 _ (ReflectliteValue.methodAny (ReflectliteValue.valueError "reflectlite.Value.Type" 0) (fun t _ _ _ => ReflectliteType.toType t)) Tryz.func46 (by kernel_rfl) (by kernel_rfl) (by kernel_rfl) (by kernel_rfl)
  have h8 := @run_callFunc_extern Tryz.prog 47 _ (ReflectliteValue.method (ReflectliteValue.valueError "reflectlite.Value.IsNil" 0) ReflectliteValue.isNil) Tryz.func47 (by kernel_rfl) (by kernel_rfl) (by kernel_rfl) (by kernel_rfl)
  have h27 := @run_callFunc_extern Tryz.prog 125 _ (ReflectliteType.abiMethod fun t => do pure (.int .u8 (← Rtype.kind t))) Tryz.func125 (by kernel_rfl) (by kernel_rfl) (by kernel_rfl) (by kernel_rfl)
  have h37 := @run_callFunc_extern Tryz.prog 135 _ (ReflectliteType.method ReflectliteType.elem) Tryz.func135 (by kernel_rfl) (by kernel_rfl) (by kernel_rfl) (by kernel_rfl)
  have h38 := @run_callFunc_extern Tryz.prog 136 _ (ReflectliteType.relation "Implements" ReflectliteType.implements_) Tryz.func136 (by kernel_rfl) (by kernel_rfl) (by kernel_rfl) (by kernel_rfl)
  have h10 := @run_callFunc_extern Tryz.prog 43 _ ReflectliteType.typeOf Tryz.func43 (by kernel_rfl) (by kernel_rfl) (by kernel_rfl) (by kernel_rfl)
  have h35 := @run_callFunc_extern Tryz.prog 133 _ (ReflectliteType.relation "AssignableTo" ReflectliteType.assignableTo) Tryz.func133 (by kernel_rfl) (by kernel_rfl) (by kernel_rfl) (by kernel_rfl)
  have h11 := @run_callFunc_extern Tryz.prog 61 _ (ReflectliteValue.method (ReflectliteValue.valueError "reflectlite.Value.Elem" 0) ReflectliteValue.elem) Tryz.func61 (by kernel_rfl) (by kernel_rfl) (by kernel_rfl) (by kernel_rfl)
  have h12 := @run_callFunc_extern Tryz.prog 62 _ ReflectliteValue.set Tryz.func62 (by kernel_rfl) (by kernel_rfl) (by kernel_rfl) (by kernel_rfl)
  have tO := asTypeOfE
  have mA := asMethAsgn
  have a25 := asAsgnE
  have v25 := asValueOfE
  have f6 := asValueOfP
  have f7 := asTypeP
  have mK := asMethKind
  have mE := asMethElem
  have mI := asMethImpl
  have k27 := asKindP
  have k25 := asKindE
  have e27 := asElemP
  have i25 := asImplE
  have n8 := asIsNilP ⟨w.heap.size, 0, none⟩ t ((w.alloc (.cells #[.pointer (some t)] 67)).alloc (.cells #[.pointer (some ⟨1, 67, none⟩), .pointer (some ⟨w.heap.size, 0, none⟩), .int .u64 150] 94)) (by simp)
  have hlt : 0 < w.heap.size := by
    rcases Nat.lt_or_ge 0 w.heap.size with h | h
    · exact h
    · simp [World.cell?, Array.getElem?_eq_none h] at hg
  have hg2 : ((w.alloc (.cells #[.pointer (some t)] 67)).alloc (.cells #[.pointer (some ⟨1, 67, none⟩), .pointer (some ⟨w.heap.size, 0, none⟩), .int .u64 150] 94)).cell? ⟨0, 0, none⟩ = some (.iface 108 (.agg #[.pointer (some ⟨1, 32, none⟩)])) := by
    rw [World.cell?_alloc_lt _ _ ⟨0, 0, none⟩ (by first | (simp; done) | (simp; omega)), World.cell?_alloc_lt _ _ ⟨0, 0, none⟩ hlt]; exact hg
  have htl : t.block < w.heap.size := by
    rcases Nat.lt_or_ge t.block w.heap.size with h | h
    · exact h
    · simp [World.cell?, Array.getElem?_eq_none h] at ht0
  have el := asElemVP ⟨w.heap.size, 0, none⟩ t (((w.alloc (.cells #[.pointer (some t)] 67)).alloc (.cells #[.pointer (some ⟨1, 67, none⟩), .pointer (some ⟨w.heap.size, 0, none⟩), .int .u64 150] 94)).alloc (.cells #[.pointer (some ⟨1, 67, none⟩), .pointer (some ⟨w.heap.size, 0, none⟩), .int .u64 150] 94)) (by rw [World.cell?_alloc_lt _ _ ⟨w.heap.size, 0, none⟩ (by simp; omega)]; simp)
  have st := asSet t ⟨w.heap.size + 1 + 1 + 1, 0, none⟩ e old ((((w.alloc (.cells #[.pointer (some t)] 67)).alloc (.cells #[.pointer (some ⟨1, 67, none⟩), .pointer (some ⟨w.heap.size, 0, none⟩), .int .u64 150] 94)).alloc (.cells #[.pointer (some ⟨1, 67, none⟩), .pointer (some ⟨w.heap.size, 0, none⟩), .int .u64 150] 94)).alloc (.cells #[.int .i64 e] 52))
    (by rw [World.cell?_alloc_at _ _ _ _ (by simp)]; rfl)
    (by rw [World.cell?_alloc_lt _ _ t (by simp; omega), World.cell?_alloc_lt _ _ t (by simp; omega), World.cell?_alloc_lt _ _ t (by simp; omega), World.cell?_alloc_lt _ _ t htl]; exact ht0)
    (by rw [World.frozen?_alloc_old _ _ t (by simp; omega), World.frozen?_alloc_old _ _ t (by simp; omega), World.frozen?_alloc_old _ _ t (by simp; omega), World.frozen?_alloc_old _ _ t (Nat.ne_of_lt htl)]; exact hf0)
  go_enter Tryz.func26, Tryz.ntmps26
  go_wp2
  refine wp_loop_rounds 1 ?_
  rw [rounds_succ]
  go_wp2
  go_ret
  exact ⟨rfl, rfl⟩
/-- The memory tells what the package errors keeps. -/
def EK (H : List SP) : Prop := ∀ w, Sat w H → w.cell? ⟨0, 0, none⟩ = some errT
theorem EK.up {X : SP} {H : List SP} (h : EK H) : EK (X :: H) := fun w hs => h w hs.tail
theorem EK.old {W : World} {H : List SP} (i : Nat) (hi : H[i]? = some (old W)) (h : W.cell? ⟨0, 0, none⟩ = some errT) : EK H := fun w hs => by
  obtain ⟨G, ⟨h1, h2⟩, _⟩ := Sat.pick i hi hs
  have hlt : 0 < W.heap.size := by
    rcases Nat.lt_or_ge 0 W.heap.size with c | c
    · exact c
    · simp [World.cell?, Array.getElem?_eq_none c] at h
  rw [← h]
  have e := h1.2.2.2.2 _ hlt
  unfold World.cell?
  rw [e]
theorem as_errno (H : List SP) (hE : EK H) (e old : Int) (b : Nat) : ∀ w, Sat w (blk b 52 [.int .i64 old] :: H) → Calls Tryz.prog 26 #[.iface 52 (.int .i64 e), .iface 67 (.pointer (some ⟨b, 0, none⟩))] w (Ret (ι := Unit) (fun _ => .bool true) fun _ => blk b 52 [.int .i64 e] :: H) := fun w hs => by
  have h1 := blkAt (b := b) (T := 52) (cs := [.int .i64 old]) (H := blk b 52 [.int .i64 old] :: H) 0 rfl (j := 0) rfl w hs
  have h2 : w.frozen? ⟨b, 0, none⟩ = false := by obtain ⟨G, hG⟩ := hs.head; exact hG.1.frozen 0
  refine (as_errno_w e ⟨b, 0, none⟩ (.int .i64 old) w (hE.up w hs) h1 h2).mono ?_
  rintro ev w' ⟨rfl, rfl⟩
  refine ⟨(), rfl, ?_⟩
  exact Sat.change ((((hs.stay (Upd.alloc _ _ _)).stay (Upd.alloc _ _ _)).stay (Upd.alloc _ _ _)).stay (Upd.alloc _ _ _)) fun G hG => ⟨Upd.setCell _ ⟨b, 0, none⟩ _ ((hG.2 b).2 rfl), G, ⟨hG.1.set 0 _, hG.2⟩, fun x hx => .inl hx⟩
end Go.Proofs.YtjbjngikaiggdaaGreatDoor
set_option linter.unusedVariables false
set_option linter.unusedSimpArgs false
namespace Go.Proofs.YtjbjngikaiggdaaGreatDoor
open Go.RowKit G
theorem eqFields_bool {P : Program} (w : World) (d : Nat) (xs ys : Array Value) (f : Field) (fs : List Field) (a b : Bool) (hn : (f.name == "_") = false) (hu : P.underlying f.type = some .bool) (hp : P.plainKey f.type = true) (hx : xs[f.offset]? = some (.bool a)) (hy : ys[f.offset]? = some (.bool b)) :
    (Op.eqFields (d + 1) xs ys (f :: fs)).run P w = if (a == b) = true then (Op.eqFields (d + 1) xs ys fs).run P w else .ok false w := by
  have hn' : f.name ≠ "_" := by simpa using hn
  rw [Op.eqFields, if_pos hn']
  simp only [Sem.run_bind, run_part_plain w hp hx, run_part_plain w hp hy, Result.andThen_ok, run_equalIn_bool w d f.type a b hu]
  cases h : (a == b) <;> simp
def ndEq (a b : Nr) : Bool := ((((a.id == b.id && a.par == b.par) && a.wt == b.wt) && a.pass == b.pass) && a.thr == b.thr) && a.rdy == b.rdy
theorem ndEq_self (a : Nr) : ndEq a a = true := by simp [ndEq]
theorem nd_eqv (a b : Nr) (w : World) : (Op.equalIn 10000 48 (ndV a) (ndV b)).run Tryz.prog w = .ok (ndEq a b) w := by
  unfold ndEq ndV
  rw [run_equalIn_struct w 9999 _ _ _ (by kernel_rfl) (by kernel_rfl)]
  have hl : (Tryz.prog.fieldsOf 48).toList = [(Tryz.prog.fieldsOf 48).toList.getD 0 default, (Tryz.prog.fieldsOf 48).toList.getD 1 default, (Tryz.prog.fieldsOf 48).toList.getD 2 default, (Tryz.prog.fieldsOf 48).toList.getD 3 default, (Tryz.prog.fieldsOf 48).toList.getD 4 default, (Tryz.prog.fieldsOf 48).toList.getD 5 default] := by kernel_rfl
  rw [hl, eqFields_int w 9998 _ _ _ _ .i64 .i64 a.id b.id (by kernel_rfl) (by kernel_rfl) (by kernel_rfl) (by kernel_rfl) (by kernel_rfl), eqFields_int w 9998 _ _ _ _ .i64 .i64 a.par b.par (by kernel_rfl) (by kernel_rfl) (by kernel_rfl) (by kernel_rfl) (by kernel_rfl),
    eqFields_int w 9998 _ _ _ _ .i64 .i64 a.wt b.wt (by kernel_rfl) (by kernel_rfl) (by kernel_rfl) (by kernel_rfl) (by kernel_rfl), eqFields_int w 9998 _ _ _ _ .i64 .i64 a.pass b.pass (by kernel_rfl) (by kernel_rfl) (by kernel_rfl) (by kernel_rfl) (by kernel_rfl),
    eqFields_bool w 9998 _ _ _ _ a.thr b.thr (by kernel_rfl) (by kernel_rfl) (by kernel_rfl) (by kernel_rfl) (by kernel_rfl), eqFields_bool w 9998 _ _ _ _ a.rdy b.rdy (by kernel_rfl) (by kernel_rfl) (by kernel_rfl) (by kernel_rfl) (by kernel_rfl)]
  cases a.id == b.id <;> cases a.par == b.par <;> cases a.wt == b.wt <;> cases a.pass == b.pass <;> cases a.thr == b.thr <;> cases a.rdy == b.rdy <;> simp [Op.eqFields]
theorem nd_neq (a b : Nr) (x y : Operand) (w : World) : (do eqGuard .neq 48 x y (ndV a) (ndV b); binOp .neq 48 (ndV a) (ndV b) : Sem Value).run Tryz.prog w = .ok (.bool (!ndEq a b)) w := by
  have h := nd_eqv a b w
  unfold ndV at h ⊢
  rw [Sem.run_bind, run_eqGuard_agg w _ _ _ _ _ _ (by kernel_rfl)]
  simp only [Result.andThen_ok]
  rw [run_neq_struct, h]
  rfl
set_option maxHeartbeats 1000000 in
set_option maxRecDepth 100000 in
theorem sameNodes_walk (H : List SP) (s1 s2 : SV Nr) (h1 : KR H nE s1) (h2 : KR H nE s2) (hl : s1.l.length ≤ 1000000) (hlen : s1.l.length = s2.l.length) (heq : ∀ (i : Nat) x y, s1.l[i]? = some x → s2.l[i]? = some y → ndEq x y = true) : ∀ w, Sat w H → Calls Tryz.prog 18 #[.slice s1.a s1.l.length s1.c, .slice s2.a s2.l.length s2.c] w (Ret (ι := Unit) (fun _ => .bool true) fun _ => H) := by
  refine enterG (fn := Tryz.f18) 26 [.slice s1.a s1.l.length s1.c, .slice s2.a s2.l.length s2.c] Tryz.func18 (by kernel_rfl) (by kernel_rfl) (by kernel_rfl) ?_
  refine seqR (by kernel_rfl) ?_
  refine regionR 1 (by kernel_rfl) (by kernel_rfl) ?_
  refine (run0 (z := 0) 1 [0, 1, 4] [(0, .slice s1.a s1.l.length s1.c), (1, .slice s2.a s2.l.length s2.c), (4, .bool false)] (fun _ => by kernel_rfl) (endR ?_) : RT _ _ _ _ _ _ 1 _)
  refine seqR (by kernel_rfl) ?_
  refine seqR (by kernel_rfl) ?_
  refine regionR 5 (by kernel_rfl) (by kernel_rfl) ?_
  refine (run0 (z := 0) 5 [0, 1, 4, 10] [(0, .slice s1.a s1.l.length s1.c), (1, .slice s2.a s2.l.length s2.c), (4, .bool false), (10, .bool ((s1.l.length : Int) != (s2.l.length : Int)))] (fun _ => by kernel_rfl) (endR ?_) : RT _ _ _ _ _ _ 5 _)
  refine condR (b := (s1.l.length : Int) != (s2.l.length : Int)) (by kernel_rfl) (fun _ => by kernel_rfl) (fun h0 => ?_) (fun h0 => ?_)
  · skip
    exact absurd h0 (by rw [hlen]; simp)
  · skip
    refine skipR (by kernel_rfl) ?_
    refine seqR (by kernel_rfl) ?_
    refine seqR (by kernel_rfl) ?_
    refine regionR 1 (by kernel_rfl) (by kernel_rfl) ?_
    refine (run0 (z := 0) 1 [0, 1, 4, 5] [(0, .slice s1.a s1.l.length s1.c), (1, .slice s2.a s2.l.length s2.c), (4, .bool false), (5, .int .i64 0)] (fun _ => by kernel_rfl) (endR ?_) : RT _ _ _ _ _ _ 1 _)
    refine blockR 0 (by kernel_rfl) (by kernel_rfl) ?_
    refine PT.keep (L' := [(0, .slice s1.a s1.l.length s1.c), (1, .slice s2.a s2.l.length s2.c), (4, .bool false), (5, .int .i64 0)]) [0, 1, 4, 5] rfl ?_
    refine loopG (fun (u : Nat) => [(0, .slice s1.a s1.l.length s1.c), (1, .slice s2.a s2.l.length s2.c), (4, .bool false), (5, .int .i64 (u : Int))]) (fun (u : Nat) => (H)) (fun k (u : Nat) => k + u = s1.l.length) s1.l.length 0 (by kernel_rfl) rfl ?_
    rintro k u hku
    refine seqR (by kernel_rfl) ?_
    refine seqR (by kernel_rfl) ?_
    refine regionR 4 (by kernel_rfl) (by kernel_rfl) ?_
    refine (run0 (z := 0) 4 [0, 1, 4, 5, 14] [(0, .slice s1.a s1.l.length s1.c), (1, .slice s2.a s2.l.length s2.c), (4, .bool false), (5, .int .i64 (u : Int)), (14, .bool (decide ((u : Int) < (s1.l.length : Int))))] (fun _ => by kernel_rfl) (endR ?_) : RT _ _ _ _ _ _ 4 _)
    refine condR (b := decide ((u : Int) < (s1.l.length : Int))) (by kernel_rfl) (fun _ => by kernel_rfl) (fun h3 => ?_) (fun h3 => ?_)
    · skip
      have hu : u < s1.l.length := by have := of_decide_eq_true h3; omega
      obtain ⟨x, hx⟩ : ∃ x, s1.l[u]? = some x := ⟨_, List.getElem?_eq_getElem hu⟩
      obtain ⟨y, hy⟩ : ∃ y, s2.l[u]? = some y := ⟨_, List.getElem?_eq_getElem (by omega)⟩
      have hxy := heq u x y hx hy
      refine PT.know ((h1).isSome (List.ne_nil_of_length_pos (by omega))) ?_
      rintro ⟨b1, o1, hA1⟩
      try rw [hA1]
      refine PT.know ((h2).isSome (List.ne_nil_of_length_pos (by omega))) ?_
      rintro ⟨b2, o2, hA2⟩
      try rw [hA2]
      refine skipR (by kernel_rfl) ?_
      refine seqR (by kernel_rfl) ?_
      refine blockR 1 (by kernel_rfl) (by kernel_rfl) ?_
      refine seqR (by kernel_rfl) ?_
      refine drawR (fun w => Sat w (H)) [] 9 (by kernel_rfl) (by kernel_rfl) (by kernel_rfl) (fun _ h => by first | exact h | exact h.tail | exact h.tail.tail | exact h.tail.tail.tail | exact h.tail.tail.tail.tail) ?_
      refine takesR [0, 1, 4, 5] [0, 1, 4, 5, 17, 18, 21, 22] 5 [true, true, false, false, true, true, false, false, false] [(0, .slice (some ⟨b1, o1, none⟩) s1.l.length s1.c), (1, .slice (some ⟨b2, o2, none⟩) s2.l.length s2.c), (4, .bool false), (5, .int .i64 (u : Int)), (17, .slice (some ⟨b1, o1, none⟩) s1.l.length s1.c), (18, .int .i64 (u : Int)), (21, .slice (some ⟨b2, o2, none⟩) s2.l.length s2.c), (22, .int .i64 (u : Int))] [] rfl (fun _ d _ _ _ h => by cases d <;> exact h) (fun _ h => by first | exact h | exact h.tail | exact h.tail.tail | exact h.tail.tail.tail | exact h.tail.tail.tail.tail) has0 (fun _ => by kernel_rfl) ?_
      refine takeR1 2 4 [true, true, true, false, true, true, false, false, false] rfl rfl (by kernel_rfl) (fun _ d _ _ _ h => by cases d <;> exact h) (fun _ h => by first | exact h | exact h.tail | exact h.tail.tail | exact h.tail.tail.tail | exact h.tail.tail.tail.tail) (idxY 44 (.tmp 17) (.tmp 18) b1 o1 s1.l.length s1.c u 6 48 (u : Int) .i64 (some 19) (fun _ => by kernel_rfl) (by kernel_rfl) (by kernel_rfl) (fun _ => by kernel_rfl) (fun _ => by kernel_rfl) Tryz.underlying44 (by kernel_rfl) (by first | rfl | assumption | simp) (by first | omega | (simp; done) | (simp; omega) | (simp at *; omega))) ?_
      refine takesR [3] [0, 1, 4, 5, 21, 22, 20] 3 [true, true, true, true, true, true, false, false, false] [(0, .slice (some ⟨b1, o1, none⟩) s1.l.length s1.c), (1, .slice (some ⟨b2, o2, none⟩) s2.l.length s2.c), (4, .bool false), (5, .int .i64 (u : Int)), (21, .slice (some ⟨b2, o2, none⟩) s2.l.length s2.c), (22, .int .i64 (u : Int)), (20, .agg #[.int .i64 x.id, .int .i64 x.par, .int .i64 x.wt, .int .i64 x.pass, .bool x.thr, .bool x.rdy])] [(⟨b1, o1 + u * 6, none⟩, .int .i64 x.id), (⟨b1, o1 + u * 6 + 1, none⟩, .int .i64 x.par), (⟨b1, o1 + u * 6 + 2, none⟩, .int .i64 x.wt), (⟨b1, o1 + u * 6 + 3, none⟩, .int .i64 x.pass), (⟨b1, o1 + u * 6 + 4, none⟩, .bool x.thr), (⟨b1, o1 + u * 6 + 5, none⟩, .bool x.rdy)] rfl (fun _ d _ _ _ h => by cases d <;> exact h) (fun _ h => by first | exact h | exact h.tail | exact h.tail.tail | exact h.tail.tail.tail | exact h.tail.tail.tail.tail) (hasC (h1.cell hA1 (i := u) (x := x) hx (j := 0) rfl) (hasC (h1.cell hA1 (i := u) (x := x) hx (j := 1) rfl) (hasC (h1.cell hA1 (i := u) (x := x) hx (j := 2) rfl) (hasC (h1.cell hA1 (i := u) (x := x) hx (j := 3) rfl) (hasC (h1.cell hA1 (i := u) (x := x) hx (j := 4) rfl) (hasC (h1.cell hA1 (i := u) (x := x) hx (j := 5) rfl) has0)))))) (fun _ => by kernel_rfl) ?_
      refine takeR1 6 2 [true, true, true, true, true, true, true, false, false] rfl rfl (by kernel_rfl) (fun _ d _ _ _ h => by cases d <;> exact h) (fun _ h => by first | exact h | exact h.tail | exact h.tail.tail | exact h.tail.tail.tail | exact h.tail.tail.tail.tail) (idxY 44 (.tmp 21) (.tmp 22) b2 o2 s2.l.length s2.c u 6 48 (u : Int) .i64 (some 23) (fun _ => by kernel_rfl) (by kernel_rfl) (by kernel_rfl) (fun _ => by kernel_rfl) (fun _ => by kernel_rfl) Tryz.underlying44 (by kernel_rfl) (by first | rfl | assumption | simp) (by first | omega | (simp; done) | (simp; omega) | (simp at *; omega))) ?_
      refine takesR [7] [0, 1, 4, 5, 20, 24] 1 [true, true, true, true, true, true, true, true, false] [(0, .slice (some ⟨b1, o1, none⟩) s1.l.length s1.c), (1, .slice (some ⟨b2, o2, none⟩) s2.l.length s2.c), (4, .bool false), (5, .int .i64 (u : Int)), (20, .agg #[.int .i64 x.id, .int .i64 x.par, .int .i64 x.wt, .int .i64 x.pass, .bool x.thr, .bool x.rdy]), (24, .agg #[.int .i64 y.id, .int .i64 y.par, .int .i64 y.wt, .int .i64 y.pass, .bool y.thr, .bool y.rdy])] [(⟨b2, o2 + u * 6, none⟩, .int .i64 y.id), (⟨b2, o2 + u * 6 + 1, none⟩, .int .i64 y.par), (⟨b2, o2 + u * 6 + 2, none⟩, .int .i64 y.wt), (⟨b2, o2 + u * 6 + 3, none⟩, .int .i64 y.pass), (⟨b2, o2 + u * 6 + 4, none⟩, .bool y.thr), (⟨b2, o2 + u * 6 + 5, none⟩, .bool y.rdy)] rfl (fun _ d _ _ _ h => by cases d <;> exact h) (fun _ h => by first | exact h | exact h.tail | exact h.tail.tail | exact h.tail.tail.tail | exact h.tail.tail.tail.tail) (hasC (h2.cell hA2 (i := u) (x := y) hy (j := 0) rfl) (hasC (h2.cell hA2 (i := u) (x := y) hy (j := 1) rfl) (hasC (h2.cell hA2 (i := u) (x := y) hy (j := 2) rfl) (hasC (h2.cell hA2 (i := u) (x := y) hy (j := 3) rfl) (hasC (h2.cell hA2 (i := u) (x := y) hy (j := 4) rfl) (hasC (h2.cell hA2 (i := u) (x := y) hy (j := 5) rfl) has0)))))) (fun _ => by kernel_rfl) ?_
      refine takeR1 8 0 [true, true, true, true, true, true, true, true, true] rfl rfl (by kernel_rfl) (fun _ d _ _ _ h => by cases d <;> exact h) (fun _ h => by first | exact h | exact h.tail | exact h.tail.tail | exact h.tail.tail.tail | exact h.tail.tail.tail.tail) (binY .neq 48 48 (.tmp 20) (.tmp 24) (.agg #[.int .i64 x.id, .int .i64 x.par, .int .i64 x.wt, .int .i64 x.pass, .bool x.thr, .bool x.rdy]) (.agg #[.int .i64 y.id, .int .i64 y.par, .int .i64 y.wt, .int .i64 y.pass, .bool y.thr, .bool y.rdy]) (.bool (!ndEq x y)) (some 25) (fun _ => by kernel_rfl) (by kernel_rfl) (by kernel_rfl) (fun _ => by kernel_rfl) (fun _ => by kernel_rfl) ((nd_neq x y _ _))) ?_
      rw [show ndEq x y = true by rw [hxy]]
      refine drawnR (by kernel_rfl) ?_
      refine condR (b := false) (by kernel_rfl) (fun _ => by kernel_rfl) (fun h => by cases h) (fun _ => ?_)
      refine skipR (by kernel_rfl) ?_
      refine regionR 3 (by kernel_rfl) (by kernel_rfl) ?_
      refine (run0 (z := 0) 3 [0, 1, 4, 5] [(0, .slice (some ⟨b1, o1, none⟩) s1.l.length s1.c), (1, .slice (some ⟨b2, o2, none⟩) s2.l.length s2.c), (4, .bool false), (5, .int .i64 (IntKind.i64.wrap ((u : Int) + 1)))] (fun _ => by kernel_rfl) (endR ?_) : RT _ _ _ _ _ _ 3 _)
      rw [show IntKind.i64.wrap ((u : Int) + 1) = ((u + 1 : Nat) : Int) by rw [w64 (by omega) (by omega)]; rfl]
      try rw [← hA1]
      try rw [← hA2]
      refine PT.keep (L' := [(0, .slice s1.a s1.l.length s1.c), (1, .slice s2.a s2.l.length s2.c), (4, .bool false), (5, .int .i64 ((u + 1 : Nat) : Int))]) [0, 1, 4, 5] rfl ?_
      exact againG (k - 1) (u + 1) rfl rfl (by omega) (by omega)
    · skip
      refine exitR 0 (by kernel_rfl) (by kernel_rfl) ?_
      refine thenX ?_
      refine thenX ?_
      refine leaveR ?_
      refine seqR (by kernel_rfl) ?_
      refine regionR 1 (by kernel_rfl) (by kernel_rfl) ?_
      refine (run0 (z := 0) 1 [4] [(4, .bool true)] (fun _ => by kernel_rfl) (endR ?_) : RT _ _ _ _ _ _ 1 _)
      refine retR (by kernel_rfl) ?_
      refine done0 (.bool true) (fun _ => by kernel_rfl) (fun w hs => ?_) .ret (.inr rfl)
      exact ⟨(), rfl, hs⟩
end Go.Proofs.YtjbjngikaiggdaaGreatDoor
set_option linter.unusedVariables false
set_option linter.unusedSimpArgs false
namespace Go.Proofs.YtjbjngikaiggdaaGreatDoor
open Go.RowKit G
theorem rtNodes (H : List SP) (t : Nat) (L : List Nr) (hl : L.length ≤ 1000) (hne : L ≠ []) : ∀ w, Sat w (rtS t L :: H) → Calls Tryz.prog 20 #[.pointer (some ⟨t, 0, none⟩)] w (Ret (ι := Option Addr × Nat) (fun x => .slice x.1 L.length x.2) fun x => row nE 48 (.slice x.1 L.length x.2) L :: rtS t L :: H) := fun w hs => by
  obtain ⟨b, o, c, hs⟩ := Sat.openRt hs
  refine (rnodes_walk H t b o c L hl w hs).mono fun e w' ⟨x, he, hx⟩ => ⟨x, he, ?_⟩
  exact Sat.perm (List.Perm.swap _ _ _) (Sat.closeRt hne (Sat.perm ((List.Perm.swap _ _ _).trans ((List.Perm.swap _ _ _).cons _)) hx))
theorem trNodes_is (H : List SP) (t : Nat) {N M : List Nr} (h : nodesN N = M) (hid : ∀ x ∈ N, x.id ≤ 9223372036854775807) : ∀ w, Sat w (treeS t N :: H) → Calls Tryz.prog 19 #[.pointer (some ⟨t, 0, none⟩)] w (Ret (ι := Option Addr × Nat) (fun x => .slice x.1 M.length x.2) fun x => row nE 48 (.slice x.1 M.length x.2) M :: treeS t N :: H) := by
  subst h; exact trNodes H t N hid
theorem rtDeep (H : List SP) (t : Nat) (L : List Nr) (hsk : SK L) (k : Int) : ∀ w, Sat w (rtS t L :: H) → Calls Tryz.prog 22 #[.pointer (some ⟨t, 0, none⟩), .int .i64 k] w (Ret (ι := Unit) (fun _ => .int .i64 (deepN 6 L k : Int)) fun _ => rtS t L :: H) := fun w hs => by
  obtain ⟨b, o, c, hs⟩ := Sat.openRt hs
  have hne : L ≠ [] := by obtain ⟨r, hr, _⟩ := hsk.root; exact List.ne_nil_of_mem hr
  exact (rdeep_walk H t b o c L hsk k w hs).mono fun e w' ⟨_, he, hx⟩ => ⟨(), he, Sat.closeRt hne hx⟩
theorem code_nil (H : List SP) : ∀ w, Sat w H → Calls Tryz.prog 7 #[.nilIface] w (Ret (ι := Unit) (fun _ => .int .i64 0) fun _ => H) := by
  refine enterG (fn := Tryz.f7) 11 [.nilIface] Tryz.func7 (by kernel_rfl) (by kernel_rfl) (by kernel_rfl) ?_
  refine seqR (by kernel_rfl) ?_
  refine regionR 1 (by kernel_rfl) (by kernel_rfl) ?_
  refine (run0 (z := 0) 1 [0, 2] [(0, .nilIface), (2, .int .i64 0)] (fun _ => by kernel_rfl) (endR ?_) : RT _ _ _ _ _ _ 1 _)
  refine seqR (by kernel_rfl) ?_
  refine regionR 1 (by kernel_rfl) (by kernel_rfl) ?_
  refine (stepR (z := 0) (newS 52 [.int .i64 0] (some 3) (fun b => .pointer (some ⟨b, 0, none⟩)) (fun _ _ => by kernel_rfl)) (fun b1 => ?_) : RT _ _ _ _ _ _ 1 _)
  refine endR ?_
  refine seqR (by kernel_rfl) ?_
  refine seqR (by kernel_rfl) ?_
  refine regionR 2 (by kernel_rfl) (by kernel_rfl) ?_
  refine (run0 (z := 0) 2 [3, 0, 2, 5] [(3, .pointer (some ⟨b1, 0, none⟩)), (0, .nilIface), (2, .int .i64 0), (5, .bool true)] (fun _ => by kernel_rfl) (endR ?_) : RT _ _ _ _ _ _ 2 _)
  refine condR (b := true) (by kernel_rfl) (fun _ => by kernel_rfl) (fun _ => ?_) (fun h => by cases h)
  refine seqR (by kernel_rfl) ?_
  refine regionR 1 (by kernel_rfl) (by kernel_rfl) ?_
  refine (run0 (z := 0) 1 [3, 0, 2] [(3, .pointer (some ⟨b1, 0, none⟩)), (0, .nilIface), (2, .int .i64 0)] (fun _ => by kernel_rfl) (endR ?_) : RT _ _ _ _ _ _ 1 _)
  refine retR (by kernel_rfl) ?_
  refine thenV ?_
  refine done0 (.int .i64 0) (fun _ => by kernel_rfl) (fun w hs => ?_) .ret (.inr rfl)
  exact ⟨(), rfl, hs.tail⟩
set_option maxRecDepth 100000 in
theorem code_err (H : List SP) (hE : EK H) (e : Int) : ∀ w, Sat w H → Calls Tryz.prog 7 #[.iface 52 (.int .i64 e)] w (Ret (ι := Unit) (fun _ => .int .i64 e) fun _ => H) := by
  refine enterG (fn := Tryz.f7) 11 [.iface 52 (.int .i64 e)] Tryz.func7 (by kernel_rfl) (by kernel_rfl) (by kernel_rfl) ?_
  refine seqR (by kernel_rfl) ?_
  refine regionR 1 (by kernel_rfl) (by kernel_rfl) ?_
  refine (run0 (z := 0) 1 [0, 2] [(0, .iface 52 (.int .i64 e)), (2, .int .i64 0)] (fun _ => by kernel_rfl) (endR ?_) : RT _ _ _ _ _ _ 1 _)
  refine seqR (by kernel_rfl) ?_
  refine regionR 1 (by kernel_rfl) (by kernel_rfl) ?_
  refine (stepR (z := 0) (newS 52 [.int .i64 0] (some 3) (fun b => .pointer (some ⟨b, 0, none⟩)) (fun _ _ => by kernel_rfl)) (fun b1 => ?_) : RT _ _ _ _ _ _ 1 _)
  refine endR ?_
  refine seqR (by kernel_rfl) ?_
  refine seqR (by kernel_rfl) ?_
  refine regionR 2 (by kernel_rfl) (by kernel_rfl) ?_
  refine (run0 (z := 0) 2 [3, 0, 2, 5] [(3, .pointer (some ⟨b1, 0, none⟩)), (0, .iface 52 (.int .i64 e)), (2, .int .i64 0), (5, .bool false)] (fun _ => by kernel_rfl) (endR ?_) : RT _ _ _ _ _ _ 2 _)
  refine condR (b := false) (by kernel_rfl) (fun _ => by kernel_rfl) (fun h => by cases h) (fun _ => ?_)
  refine skipR (by kernel_rfl) ?_
  refine seqR (by kernel_rfl) ?_
  refine seqR (by kernel_rfl) ?_
  refine regionR 4 (by kernel_rfl) (by kernel_rfl) ?_
  refine (run0 (z := 2) 2 [3, 2, 6, 7] [(3, .pointer (some ⟨b1, 0, none⟩)), (2, .int .i64 0), (6, .iface 52 (.int .i64 e)), (7, .iface 67 (.pointer (some ⟨b1, 0, none⟩)))] (fun _ => by kernel_rfl) ?_ : RT _ _ _ _ _ _ 4 _)
  refine (stepR (z := 1) (callS 26 [.iface 52 (.int .i64 e), .iface 67 (.pointer (some ⟨b1, 0, none⟩))] (some 8) (fun _ => .bool true) (fun _ => (blk b1 52 [.int .i64 e] :: H)) (fun _ => by kernel_rfl) (as_errno _ hE e 0 b1)) (fun _ => ?_) : RT _ _ _ _ _ _ 2 _)
  refine (run0 (z := 0) 1 [3, 2, 9] [(3, .pointer (some ⟨b1, 0, none⟩)), (2, .int .i64 0), (9, .bool false)] (fun _ => by kernel_rfl) (endR ?_) : RT _ _ _ _ _ _ 1 _)
  refine condR (b := false) (by kernel_rfl) (fun _ => by kernel_rfl) (fun h => by cases h) (fun _ => ?_)
  refine skipR (by kernel_rfl) ?_
  refine seqR (by kernel_rfl) ?_
  refine regionR 2 (by kernel_rfl) (by kernel_rfl) ?_
  refine (runR (H := (blk b1 52 [.int .i64 e] :: H)) (z := 0) 2 [2] [(2, .int .i64 e)] [(⟨b1, 0, none⟩, .int .i64 e)] (hasC (blkAt (T := 52) (cs := [.int .i64 e]) 0 rfl rfl) has0) (fun _ => by kernel_rfl) (endR ?_) : RT _ _ _ _ _ _ 2 _)
  refine retR (by kernel_rfl) ?_
  refine done0 (.int .i64 e) (fun _ => by kernel_rfl) (fun w hs => ?_) .ret (.inr rfl)
  exact ⟨(), rfl, hs.tail⟩
theorem code_walk (H : List SP) (hE : EK H) (e : Int) : ∀ w, Sat w H → Calls Tryz.prog 7 #[pqErr e] w (Ret (ι := Unit) (fun _ => .int .i64 e) fun _ => H) := by
  by_cases h0 : e = 0
  · subst h0; exact code_nil H
  · rw [pqErr, if_neg h0]; exact code_err H hE e
def p7E : Enc (Int × Int × Int × Int × Bool) := prE (kE .i64) (prE (kE .i64) (prE (kE .i64) (prE (kE .i64) boE)))
theorem step_opens (W : World) : Opens Tryz.prog W 29 p7E (fun x => x.2.1 ≤ 9223372036854775807) :=
  (Opens.struct Tryz.underlying29 (by kernel_rfl) (OpensFs.cons rfl (Opens.int (k := .i64) Tryz.underlying3 (by kernel_rfl)) (OpensFs.cons rfl (Opens.int (k := .i64) Tryz.underlying3 (by kernel_rfl)) (OpensFs.cons rfl (Opens.int (k := .i64) Tryz.underlying3 (by kernel_rfl)) (OpensFs.cons rfl (Opens.int (k := .i64) Tryz.underlying3 (by kernel_rfl)) (OpensFs.one rfl (Opens.bool Tryz.underlying4 (by kernel_rfl)))))))).mono (fun x h => (wf_bounds h.2.1).2)
structure PlI (q : List Nr × List Nr) : Prop where
  id : IdB q.1
  wf : WFN q.1
  rt : TRel q.1 q.2
set_option maxHeartbeats 1000000 in
set_option maxRecDepth 100000 in
theorem plays7_walk (H : List SP) (hE : EK H) (s : SV (Int × Int × Int × Int × Bool)) (hk : KR H p7E s) (hids : ∀ x ∈ s.l, x.2.1 ≤ 9223372036854775807) : ∀ w, Sat w H → Calls Tryz.prog 3 #[.slice s.a s.l.length s.c] w (Ret (ι := Unit) (fun _ => .bool true) fun _ => H) := by
  refine enterG (fn := Tryz.f3) 142 [.slice s.a s.l.length s.c] Tryz.func3 (by kernel_rfl) (by kernel_rfl) (by kernel_rfl) ?_
  refine seqR (by kernel_rfl) ?_
  refine regionR 1 (by kernel_rfl) (by kernel_rfl) ?_
  refine (run0 (z := 0) 1 [0, 2] [(0, .slice s.a s.l.length s.c), (2, .bool false)] (fun _ => by kernel_rfl) (endR ?_) : RT _ _ _ _ _ _ 1 _)
  refine seqR (by kernel_rfl) ?_
  refine seqR (by kernel_rfl) ?_
  refine regionR 2 (by kernel_rfl) (by kernel_rfl) ?_
  refine (stepR (z := 1) (callS 4 [] (some 13) (fun _ => .bool true) (fun (_ : Unit) => (H)) (fun _ => by kernel_rfl) (known_true _)) (fun _ => ?_) : RT _ _ _ _ _ _ 2 _)
  refine (run0 (z := 0) 1 [0, 2, 14] [(0, .slice s.a s.l.length s.c), (2, .bool false), (14, .bool false)] (fun _ => by kernel_rfl) (endR ?_) : RT _ _ _ _ _ _ 1 _)
  refine condR (b := false) (by kernel_rfl) (fun _ => by kernel_rfl) (fun h => by cases h) (fun _ => ?_)
  refine skipR (by kernel_rfl) ?_
  refine seqR (by kernel_rfl) ?_
  refine seqR (by kernel_rfl) ?_
  refine regionR 3 (by kernel_rfl) (by kernel_rfl) ?_
  refine (run0 (z := 0) 3 [0, 2, 17] [(0, .slice s.a s.l.length s.c), (2, .bool false), (17, .bool (decide ((s.l.length : Int) > 90)))] (fun _ => by kernel_rfl) (endR ?_) : RT _ _ _ _ _ _ 3 _)
  refine condR (b := decide ((s.l.length : Int) > 90)) (by kernel_rfl) (fun _ => by kernel_rfl) (fun h0 => ?_) (fun h0 => ?_)
  · skip
    refine seqR (by kernel_rfl) ?_
    refine regionR 1 (by kernel_rfl) (by kernel_rfl) ?_
    refine (run0 (z := 0) 1 [0, 2] [(0, .slice s.a s.l.length s.c), (2, .bool true)] (fun _ => by kernel_rfl) (endR ?_) : RT _ _ _ _ _ _ 1 _)
    refine retR (by kernel_rfl) ?_
    refine thenV ?_
    refine done0 (.bool true) (fun _ => by kernel_rfl) (fun w hs => ?_) .ret (.inr rfl)
    exact ⟨(), rfl, hs⟩
  · skip
    have hl : s.l.length ≤ 90 := by have := of_decide_eq_false h0; omega
    refine skipR (by kernel_rfl) ?_
    refine seqR (by kernel_rfl) ?_
    refine regionR 4 (by kernel_rfl) (by kernel_rfl) ?_
    refine (stepR (z := 3) (callS 5 [] (some 18) (fun (t : Nat) => .pointer (some ⟨t, 0, none⟩)) (fun (t : Nat) => (treeS t [rootN] :: H)) (fun _ => by kernel_rfl) (trNew _)) (fun (t : Nat) => ?_) : RT _ _ _ _ _ _ 4 _)
    refine (stepR (z := 2) (callS 6 [] (some 19) (fun (rt : Nat) => .pointer (some ⟨rt, 0, none⟩)) (fun (rt : Nat) => (rtS rt [rootN] :: treeS t [rootN] :: H)) (fun _ => by kernel_rfl) (rnew_walk _)) (fun (rt : Nat) => ?_) : RT _ _ _ _ _ _ 3 _)
    refine (RT.pick 0 rfl ?_ : RT _ _ _ (rtS rt [rootN] :: treeS t [rootN] :: H) _ _ 2 _)
    refine (RT.pick 1 rfl ?_ : RT _ _ _ (rtS rt [rootN] :: treeS t [rootN] :: H) _ _ 2 _)
    refine (run0 (z := 0) 2 [0, 2, 3, 4] [(0, .slice s.a s.l.length s.c), (2, .bool false), (3, .pointer (some ⟨t, 0, none⟩)), (4, .pointer (some ⟨rt, 0, none⟩))] (fun _ => by kernel_rfl) (endR ?_) : RT _ _ _ _ _ _ 2 _)
    refine seqR (by kernel_rfl) ?_
    refine seqR (by kernel_rfl) ?_
    refine regionR 1 (by kernel_rfl) (by kernel_rfl) ?_
    refine (run0 (z := 0) 1 [0, 2, 3, 4, 5] [(0, .slice s.a s.l.length s.c), (2, .bool false), (3, .pointer (some ⟨t, 0, none⟩)), (4, .pointer (some ⟨rt, 0, none⟩)), (5, .int .i64 0)] (fun _ => by kernel_rfl) (endR ?_) : RT _ _ _ _ _ _ 1 _)
    refine blockR 0 (by kernel_rfl) (by kernel_rfl) ?_
    refine PT.keep (L' := [(0, .slice s.a s.l.length s.c), (3, .pointer (some ⟨t, 0, none⟩)), (4, .pointer (some ⟨rt, 0, none⟩)), (5, .int .i64 0)]) [0, 3, 4, 5] rfl ?_
    refine loopG (fun (q : (List Nr × List Nr) × Nat) => [(0, .slice s.a s.l.length s.c), (3, .pointer (some ⟨t, 0, none⟩)), (4, .pointer (some ⟨rt, 0, none⟩)), (5, .int .i64 (q.2 : Int))]) (fun (q : (List Nr × List Nr) × Nat) => (treeS t q.1.1 :: rtS rt q.1.2 :: H)) (fun k (q : (List Nr × List Nr) × Nat) => k + q.2 = s.l.length ∧ PlI q.1) s.l.length (([rootN], [rootN]), 0) (by kernel_rfl) ⟨by simp, fun x hx => by simp at hx; subst hx; decide, root_wf, TRel.start⟩ ?_
    rintro k ⟨⟨N, L⟩, u⟩ ⟨hku, hI⟩
    simp only at hku hI
    refine seqR (by kernel_rfl) ?_
    refine seqR (by kernel_rfl) ?_
    refine regionR 4 (by kernel_rfl) (by kernel_rfl) ?_
    refine (run0 (z := 0) 4 [0, 3, 4, 5, 23] [(0, .slice s.a s.l.length s.c), (3, .pointer (some ⟨t, 0, none⟩)), (4, .pointer (some ⟨rt, 0, none⟩)), (5, .int .i64 (u : Int)), (23, .bool (decide ((u : Int) < (s.l.length : Int))))] (fun _ => by kernel_rfl) (endR ?_) : RT _ _ _ _ _ _ 4 _)
    refine condR (b := decide ((u : Int) < (s.l.length : Int))) (by kernel_rfl) (fun _ => by kernel_rfl) (fun h1 => ?_) (fun h1 => ?_)
    · skip
      have hu : u < s.l.length := by have := of_decide_eq_true h1; omega
      obtain ⟨⟨zw, zi, za, zb, zt⟩, hz⟩ : ∃ v, s.l[u]? = some v := ⟨_, List.getElem?_eq_getElem hu⟩
      have hzi := hids _ (List.mem_of_getElem? hz)
      simp only at hzi
      refine PT.know ((hk).up.up.isSome (List.ne_nil_of_length_pos (by omega))) ?_
      rintro ⟨sb, so, hA'⟩
      try rw [hA']
      refine skipR (by kernel_rfl) ?_
      refine seqR (by kernel_rfl) ?_
      refine blockR 1 (by kernel_rfl) (by kernel_rfl) ?_
      refine seqR (by kernel_rfl) ?_
      refine regionR 6 (by kernel_rfl) (by kernel_rfl) ?_
      refine (run0 (z := 4) 2 [0, 3, 4, 5, 26, 27] [(0, .slice (some ⟨sb, so, none⟩) s.l.length s.c), (3, .pointer (some ⟨t, 0, none⟩)), (4, .pointer (some ⟨rt, 0, none⟩)), (5, .int .i64 (u : Int)), (26, .slice (some ⟨sb, so, none⟩) s.l.length s.c), (27, .int .i64 (u : Int))] (fun _ => by kernel_rfl) ?_ : RT _ _ _ _ _ _ 6 _)
      refine (stepR (z := 3) (yldS (idxY 22 (.tmp 26) (.tmp 27) sb so s.l.length s.c u 5 29 (u : Int) .i64 (some 28) (fun _ => by kernel_rfl) (by kernel_rfl) (by kernel_rfl) (fun _ => by kernel_rfl) (fun _ => by kernel_rfl) Tryz.underlying22 (by kernel_rfl) (by first | rfl | assumption | simp) (by first | omega | (simp; done) | (simp; omega) | (simp at *; omega)))) (fun _ => ?_) : RT _ _ _ _ _ _ 4 _)
      refine (runR (H := (treeS t N :: rtS rt L :: H)) (z := 2) 1 [0, 3, 4, 5, 29] [(0, .slice (some ⟨sb, so, none⟩) s.l.length s.c), (3, .pointer (some ⟨t, 0, none⟩)), (4, .pointer (some ⟨rt, 0, none⟩)), (5, .int .i64 (u : Int)), (29, .agg #[.int .i64 zw, .int .i64 zi, .int .i64 za, .int .i64 zb, .bool zt])] [(⟨sb, so + u * 5, none⟩, .int .i64 zw), (⟨sb, so + u * 5 + 1, none⟩, .int .i64 zi), (⟨sb, so + u * 5 + 2, none⟩, .int .i64 za), (⟨sb, so + u * 5 + 3, none⟩, .int .i64 zb), (⟨sb, so + u * 5 + 4, none⟩, .bool zt)] (hasC (up (up (hk.cell hA' (i := u) (x := (zw, zi, za, zb, zt)) hz (j := 0) rfl))) (hasC (up (up (hk.cell hA' (i := u) (x := (zw, zi, za, zb, zt)) hz (j := 1) rfl))) (hasC (up (up (hk.cell hA' (i := u) (x := (zw, zi, za, zb, zt)) hz (j := 2) rfl))) (hasC (up (up (hk.cell hA' (i := u) (x := (zw, zi, za, zb, zt)) hz (j := 3) rfl))) (hasC (up (up (hk.cell hA' (i := u) (x := (zw, zi, za, zb, zt)) hz (j := 4) rfl))) has0))))) (fun _ => by kernel_rfl) ?_ : RT _ _ _ _ _ _ 3 _)
      refine (stepR (z := 1) (newS 29 [.int .i64 0, .int .i64 0, .int .i64 0, .int .i64 0, .bool false] (some 6) (fun b => .pointer (some ⟨b, 0, none⟩)) (fun _ _ => by kernel_rfl)) (fun b1 => ?_) : RT _ _ _ _ _ _ 2 _)
      refine (stepR (z := 0) (storeS [(0, .int .i64 zw), (1, .int .i64 zi), (2, .int .i64 za), (3, .int .i64 zb), (4, .bool zt)] [.int .i64 zw, .int .i64 zi, .int .i64 za, .int .i64 zb, .bool zt] (fun _ => by kernel_rfl) (by kernel_rfl) (by kernel_rfl)) (fun _ => ?_) : RT _ _ _ _ _ _ 1 _)
      refine endR ?_
      refine seqR (by kernel_rfl) ?_
      refine regionR 2 (by kernel_rfl) (by kernel_rfl) ?_
      refine (run0 (z := 0) 2 [6, 0, 3, 4, 5, 7, 8] [(6, .pointer (some ⟨b1, 0, none⟩)), (0, .slice (some ⟨sb, so, none⟩) s.l.length s.c), (3, .pointer (some ⟨t, 0, none⟩)), (4, .pointer (some ⟨rt, 0, none⟩)), (5, .int .i64 (u : Int)), (7, .int .i64 0), (8, .int .i64 0)] (fun _ => by kernel_rfl) (endR ?_) : RT _ _ _ _ _ _ 2 _)
      try rw [← hA']
      refine PT.pick 0 rfl ?_
      refine PT.pick 2 rfl ?_
      refine PT.pick 2 rfl ?_
      have hw := hI.wf
      have hR := hI.rt
      refine seqR (by kernel_rfl) ?_
      refine joinR (fun (q : { q : (List Nr × List Nr) × Int // PlI q.1 }) => [(0, .slice s.a s.l.length s.c), (3, .pointer (some ⟨t, 0, none⟩)), (4, .pointer (some ⟨rt, 0, none⟩)), (5, .int .i64 (u : Int)), (6, .pointer (some ⟨b1, 0, none⟩)), (7, .int .i64 q.1.2), (8, .int .i64 q.1.2)]) (fun (q : { q : (List Nr × List Nr) × Int // PlI q.1 }) => (treeS t q.1.1.1 :: rtS rt q.1.1.2 :: blk b1 29 [.int .i64 zw, .int .i64 zi, .int .i64 za, .int .i64 zb, .bool zt] :: H)) ?_ (fun q => ?_)
      · skip
        refine blockR 2 (by kernel_rfl) (by kernel_rfl) ?_
        refine seqR (by kernel_rfl) ?_
        refine regionR 4 (by kernel_rfl) (by kernel_rfl) ?_
        refine (runR (H := (treeS t N :: rtS rt L :: blk b1 29 [.int .i64 zw, .int .i64 zi, .int .i64 za, .int .i64 zb, .bool zt] :: H)) (z := 0) 4 [6, 0, 3, 4, 5, 7, 8, 48] [(6, .pointer (some ⟨b1, 0, none⟩)), (0, .slice s.a s.l.length s.c), (3, .pointer (some ⟨t, 0, none⟩)), (4, .pointer (some ⟨rt, 0, none⟩)), (5, .int .i64 (u : Int)), (7, .int .i64 0), (8, .int .i64 0), (48, .bool (decide (zw ≤ 1)))] [(⟨b1, 0, none⟩, .int .i64 zw)] (hasC (blkAt (T := 29) (cs := [.int .i64 zw, .int .i64 zi, .int .i64 za, .int .i64 zb, .bool zt]) 2 rfl rfl) has0) (fun _ => by kernel_rfl) (endR ?_) : RT _ _ _ _ _ _ 4 _)
        refine condR (b := decide (zw ≤ 1)) (by kernel_rfl) (fun _ => by kernel_rfl) (fun c1 => ?_) (fun c1 => ?_)
        · skip
          refine drawR (fun w => Sat w (blk b1 29 [.int .i64 zw, .int .i64 zi, .int .i64 za, .int .i64 zb, .bool zt] :: H)) [] 23 (by kernel_rfl) (by kernel_rfl) (by kernel_rfl) (fun _ h => by first | exact h | exact h.tail | exact h.tail.tail | exact h.tail.tail.tail | exact h.tail.tail.tail.tail) ?_
          refine takesR [0, 1, 2, 3, 4, 5, 6, 7, 8, 11, 12, 13, 14, 15, 16, 17, 18, 19] [6, 0, 3, 4, 5, 7, 8, 52, 54, 56, 58, 60, 63, 65, 67, 69, 71] 5 [true, true, true, true, true, true, true, true, true, false, false, true, true, true, true, true, true, true, true, true, false, false, false] [(6, .pointer (some ⟨b1, 0, none⟩)), (0, .slice s.a s.l.length s.c), (3, .pointer (some ⟨t, 0, none⟩)), (4, .pointer (some ⟨rt, 0, none⟩)), (5, .int .i64 (u : Int)), (7, .int .i64 0), (8, .int .i64 0), (52, .pointer (some ⟨t, 0, none⟩)), (54, .int .i64 za), (56, .int .i64 zi), (58, .int .i64 zb), (60, .bool zt), (63, .pointer (some ⟨rt, 0, none⟩)), (65, .int .i64 za), (67, .int .i64 zi), (69, .int .i64 zb), (71, .bool zt)] [(⟨b1, 2, none⟩, .int .i64 za), (⟨b1, 1, none⟩, .int .i64 zi), (⟨b1, 3, none⟩, .int .i64 zb), (⟨b1, 4, none⟩, .bool zt), (⟨b1, 2, none⟩, .int .i64 za), (⟨b1, 1, none⟩, .int .i64 zi), (⟨b1, 3, none⟩, .int .i64 zb), (⟨b1, 4, none⟩, .bool zt)] rfl (fun _ d _ _ _ h => by cases d <;> exact h) (fun _ h => by first | exact h | exact h.tail | exact h.tail.tail | exact h.tail.tail.tail | exact h.tail.tail.tail.tail) (hasC (blkAt (T := 29) (cs := [.int .i64 zw, .int .i64 zi, .int .i64 za, .int .i64 zb, .bool zt]) 0 rfl rfl) (hasC (blkAt (T := 29) (cs := [.int .i64 zw, .int .i64 zi, .int .i64 za, .int .i64 zb, .bool zt]) 0 rfl rfl) (hasC (blkAt (T := 29) (cs := [.int .i64 zw, .int .i64 zi, .int .i64 za, .int .i64 zb, .bool zt]) 0 rfl rfl) (hasC (blkAt (T := 29) (cs := [.int .i64 zw, .int .i64 zi, .int .i64 za, .int .i64 zb, .bool zt]) 0 rfl rfl) (hasC (blkAt (T := 29) (cs := [.int .i64 zw, .int .i64 zi, .int .i64 za, .int .i64 zb, .bool zt]) 0 rfl rfl) (hasC (blkAt (T := 29) (cs := [.int .i64 zw, .int .i64 zi, .int .i64 za, .int .i64 zb, .bool zt]) 0 rfl rfl) (hasC (blkAt (T := 29) (cs := [.int .i64 zw, .int .i64 zi, .int .i64 za, .int .i64 zb, .bool zt]) 0 rfl rfl) (hasC (blkAt (T := 29) (cs := [.int .i64 zw, .int .i64 zi, .int .i64 za, .int .i64 zb, .bool zt]) 0 rfl rfl) has0)))))))) (fun _ => by kernel_rfl) ?_
          refine oneR 9 4 [true, true, true, true, true, true, true, true, true, true, false, true, true, true, true, true, true, true, true, true, false, false, false] rfl rfl (by kernel_rfl) (callS 8 [.pointer (some ⟨t, 0, none⟩), .int .i64 za, .int .i64 zi, .int .i64 zb, .bool zt] (some 61) (fun _ => pqErr (addN N za zi zb zt).1) (fun _ => (treeS t (addN N za zi zb zt).2 :: rtS rt L :: blk b1 29 [.int .i64 zw, .int .i64 zi, .int .i64 za, .int .i64 zb, .bool zt] :: H)) (fun _ => by kernel_rfl) (trAdd _ t N za zi zb zt)) (fun _ _ h hn => by first | exact h | exact h.tail | exact h.tail.tail | exact h.tail.tail.tail | exact h.tail.tail.tail.tail | exact absurd hn (by decide)) (fun _ => ?_)
          refine oneR 10 3 [true, true, true, true, true, true, true, true, true, true, true, true, true, true, true, true, true, true, true, true, false, false, false] rfl rfl (by kernel_rfl) (callS 7 [pqErr (addN N za zi zb zt).1] (some 62) (fun _ => .int .i64 (addN N za zi zb zt).1) (fun _ => (treeS t (addN N za zi zb zt).2 :: rtS rt L :: blk b1 29 [.int .i64 zw, .int .i64 zi, .int .i64 za, .int .i64 zb, .bool zt] :: H)) (fun _ => by kernel_rfl) (code_walk _ hE.up.up.up (addN N za zi zb zt).1)) (fun _ _ h hn => by first | exact h | exact h.tail | exact h.tail.tail | exact h.tail.tail.tail | exact h.tail.tail.tail.tail | exact absurd hn (by decide)) (fun _ => ?_)
          refine oneR 20 2 [true, true, true, true, true, true, true, true, true, true, true, true, true, true, true, true, true, true, true, true, true, false, false] rfl rfl (by kernel_rfl) (callS 9 [.pointer (some ⟨rt, 0, none⟩), .int .i64 za, .int .i64 zi, .int .i64 zb, .bool zt] (some 72) (fun _ => .int .i64 (raddN L za zi zb zt).1) (fun _ => (treeS t (addN N za zi zb zt).2 :: rtS rt (raddN L za zi zb zt).2 :: blk b1 29 [.int .i64 zw, .int .i64 zi, .int .i64 za, .int .i64 zb, .bool zt] :: H)) (fun _ => by kernel_rfl) (chg_at (H := (treeS t (addN N za zi zb zt).2 :: rtS rt L :: blk b1 29 [.int .i64 zw, .int .i64 zi, .int .i64 za, .int .i64 zb, .bool zt] :: H)) 1 rfl (radd_walk _ rt L (hR.wf hw) za zi zb zt))) (fun _ _ h hn => by first | exact h | exact h.tail | exact h.tail.tail | exact h.tail.tail.tail | exact h.tail.tail.tail.tail | exact absurd hn (by decide)) (fun _ => ?_)
          rw [show (raddN L za zi zb zt).1 = (addN N za zi zb zt).1 by exact (hR.add hw za zi zb zt).1.symm]
          refine takesR [21, 22] [6, 0, 3, 4, 5, 7, 8] 0 [true, true, true, true, true, true, true, true, true, true, true, true, true, true, true, true, true, true, true, true, true, true, true] [(6, .pointer (some ⟨b1, 0, none⟩)), (0, .slice s.a s.l.length s.c), (3, .pointer (some ⟨t, 0, none⟩)), (4, .pointer (some ⟨rt, 0, none⟩)), (5, .int .i64 (u : Int)), (7, .int .i64 ((addN N za zi zb zt).1)), (8, .int .i64 ((addN N za zi zb zt).1))] [] rfl (fun _ d _ _ _ h => by cases d <;> exact h) (fun _ h => by first | exact h | exact h.tail | exact h.tail.tail | exact h.tail.tail.tail | exact h.tail.tail.tail.tail) has0 (fun _ => by kernel_rfl) ?_
          refine drawnR (by kernel_rfl) ?_
          refine PT.keep (L' := [(0, .slice s.a s.l.length s.c), (3, .pointer (some ⟨t, 0, none⟩)), (4, .pointer (some ⟨rt, 0, none⟩)), (5, .int .i64 (u : Int)), (6, .pointer (some ⟨b1, 0, none⟩)), (7, .int .i64 ((addN N za zi zb zt).1)), (8, .int .i64 ((addN N za zi zb zt).1))]) [0, 3, 4, 5, 6, 7, 8] rfl ?_
          exact midR (⟨(((addN N za zi zb zt).2, (raddN L za zi zb zt).2), (addN N za zi zb zt).1), hI.id.add za zi zb zt hzi, add_wf hw za zi zb zt, (hR.add hw za zi zb zt).2⟩) rfl rfl
        · skip
          refine seqR (by kernel_rfl) ?_
          refine regionR 4 (by kernel_rfl) (by kernel_rfl) ?_
          refine (runR (H := (treeS t N :: rtS rt L :: blk b1 29 [.int .i64 zw, .int .i64 zi, .int .i64 za, .int .i64 zb, .bool zt] :: H)) (z := 0) 4 [6, 0, 3, 4, 5, 7, 8, 73] [(6, .pointer (some ⟨b1, 0, none⟩)), (0, .slice s.a s.l.length s.c), (3, .pointer (some ⟨t, 0, none⟩)), (4, .pointer (some ⟨rt, 0, none⟩)), (5, .int .i64 (u : Int)), (7, .int .i64 0), (8, .int .i64 0), (73, .bool (zw == 2))] [(⟨b1, 0, none⟩, .int .i64 zw)] (hasC (blkAt (T := 29) (cs := [.int .i64 zw, .int .i64 zi, .int .i64 za, .int .i64 zb, .bool zt]) 2 rfl rfl) has0) (fun _ => by kernel_rfl) (endR ?_) : RT _ _ _ _ _ _ 4 _)
          refine condR (b := zw == 2) (by kernel_rfl) (fun _ => by kernel_rfl) (fun c2 => ?_) (fun c2 => ?_)
          · skip
            refine drawR (fun w => Sat w (blk b1 29 [.int .i64 zw, .int .i64 zi, .int .i64 za, .int .i64 zb, .bool zt] :: H)) [] 11 (by kernel_rfl) (by kernel_rfl) (by kernel_rfl) (fun _ h => by first | exact h | exact h.tail | exact h.tail.tail | exact h.tail.tail.tail | exact h.tail.tail.tail.tail) ?_
            refine takesR [0, 1, 2, 5, 6, 7] [6, 0, 3, 4, 5, 7, 8, 77, 79, 82, 84] 5 [true, true, true, false, false, true, true, true, false, false, false] [(6, .pointer (some ⟨b1, 0, none⟩)), (0, .slice s.a s.l.length s.c), (3, .pointer (some ⟨t, 0, none⟩)), (4, .pointer (some ⟨rt, 0, none⟩)), (5, .int .i64 (u : Int)), (7, .int .i64 0), (8, .int .i64 0), (77, .pointer (some ⟨t, 0, none⟩)), (79, .int .i64 zi), (82, .pointer (some ⟨rt, 0, none⟩)), (84, .int .i64 zi)] [(⟨b1, 1, none⟩, .int .i64 zi), (⟨b1, 1, none⟩, .int .i64 zi)] rfl (fun _ d _ _ _ h => by cases d <;> exact h) (fun _ h => by first | exact h | exact h.tail | exact h.tail.tail | exact h.tail.tail.tail | exact h.tail.tail.tail.tail) (hasC (blkAt (T := 29) (cs := [.int .i64 zw, .int .i64 zi, .int .i64 za, .int .i64 zb, .bool zt]) 0 rfl rfl) (hasC (blkAt (T := 29) (cs := [.int .i64 zw, .int .i64 zi, .int .i64 za, .int .i64 zb, .bool zt]) 0 rfl rfl) has0)) (fun _ => by kernel_rfl) ?_
            refine oneR 3 4 [true, true, true, true, false, true, true, true, false, false, false] rfl rfl (by kernel_rfl) (callS 10 [.pointer (some ⟨t, 0, none⟩), .int .i64 zi] (some 80) (fun _ => pqErr (removeN N zi).1) (fun _ => (treeS t (removeN N zi).2 :: rtS rt L :: blk b1 29 [.int .i64 zw, .int .i64 zi, .int .i64 za, .int .i64 zb, .bool zt] :: H)) (fun _ => by kernel_rfl) (trRemove _ t N zi)) (fun _ _ h hn => by first | exact h | exact h.tail | exact h.tail.tail | exact h.tail.tail.tail | exact h.tail.tail.tail.tail | exact absurd hn (by decide)) (fun _ => ?_)
            refine oneR 4 3 [true, true, true, true, true, true, true, true, false, false, false] rfl rfl (by kernel_rfl) (callS 7 [pqErr (removeN N zi).1] (some 81) (fun _ => .int .i64 (removeN N zi).1) (fun _ => (treeS t (removeN N zi).2 :: rtS rt L :: blk b1 29 [.int .i64 zw, .int .i64 zi, .int .i64 za, .int .i64 zb, .bool zt] :: H)) (fun _ => by kernel_rfl) (code_walk _ hE.up.up.up (removeN N zi).1)) (fun _ _ h hn => by first | exact h | exact h.tail | exact h.tail.tail | exact h.tail.tail.tail | exact h.tail.tail.tail.tail | exact absurd hn (by decide)) (fun _ => ?_)
            refine oneR 8 2 [true, true, true, true, true, true, true, true, true, false, false] rfl rfl (by kernel_rfl) (callS 11 [.pointer (some ⟨rt, 0, none⟩), .int .i64 zi] (some 85) (fun _ => .int .i64 (removeN L zi).1) (fun _ => (treeS t (removeN N zi).2 :: rtS rt (removeN L zi).2 :: blk b1 29 [.int .i64 zw, .int .i64 zi, .int .i64 za, .int .i64 zb, .bool zt] :: H)) (fun _ => by kernel_rfl) (chg_at (H := (treeS t (removeN N zi).2 :: rtS rt L :: blk b1 29 [.int .i64 zw, .int .i64 zi, .int .i64 za, .int .i64 zb, .bool zt] :: H)) 1 rfl (rremove_walk _ rt L (hR.wf hw) zi))) (fun _ _ h hn => by first | exact h | exact h.tail | exact h.tail.tail | exact h.tail.tail.tail | exact h.tail.tail.tail.tail | exact absurd hn (by decide)) (fun _ => ?_)
            rw [show (removeN L zi).1 = (removeN N zi).1 by exact (hR.remove hw zi).1.symm]
            refine takesR [9, 10] [6, 0, 3, 4, 5, 7, 8] 0 [true, true, true, true, true, true, true, true, true, true, true] [(6, .pointer (some ⟨b1, 0, none⟩)), (0, .slice s.a s.l.length s.c), (3, .pointer (some ⟨t, 0, none⟩)), (4, .pointer (some ⟨rt, 0, none⟩)), (5, .int .i64 (u : Int)), (7, .int .i64 ((removeN N zi).1)), (8, .int .i64 ((removeN N zi).1))] [] rfl (fun _ d _ _ _ h => by cases d <;> exact h) (fun _ h => by first | exact h | exact h.tail | exact h.tail.tail | exact h.tail.tail.tail | exact h.tail.tail.tail.tail) has0 (fun _ => by kernel_rfl) ?_
            refine drawnR (by kernel_rfl) ?_
            refine PT.keep (L' := [(0, .slice s.a s.l.length s.c), (3, .pointer (some ⟨t, 0, none⟩)), (4, .pointer (some ⟨rt, 0, none⟩)), (5, .int .i64 (u : Int)), (6, .pointer (some ⟨b1, 0, none⟩)), (7, .int .i64 ((removeN N zi).1)), (8, .int .i64 ((removeN N zi).1))]) [0, 3, 4, 5, 6, 7, 8] rfl ?_
            exact midR (⟨(((removeN N zi).2, (removeN L zi).2), (removeN N zi).1), hI.id.remove zi, remove_wf hw zi, (hR.remove hw zi).2⟩) rfl rfl
          · skip
            refine seqR (by kernel_rfl) ?_
            refine regionR 4 (by kernel_rfl) (by kernel_rfl) ?_
            refine (runR (H := (treeS t N :: rtS rt L :: blk b1 29 [.int .i64 zw, .int .i64 zi, .int .i64 za, .int .i64 zb, .bool zt] :: H)) (z := 0) 4 [6, 0, 3, 4, 5, 7, 8, 86] [(6, .pointer (some ⟨b1, 0, none⟩)), (0, .slice s.a s.l.length s.c), (3, .pointer (some ⟨t, 0, none⟩)), (4, .pointer (some ⟨rt, 0, none⟩)), (5, .int .i64 (u : Int)), (7, .int .i64 0), (8, .int .i64 0), (86, .bool (decide (zw ≤ 4)))] [(⟨b1, 0, none⟩, .int .i64 zw)] (hasC (blkAt (T := 29) (cs := [.int .i64 zw, .int .i64 zi, .int .i64 za, .int .i64 zb, .bool zt]) 2 rfl rfl) has0) (fun _ => by kernel_rfl) (endR ?_) : RT _ _ _ _ _ _ 4 _)
            refine condR (b := decide (zw ≤ 4)) (by kernel_rfl) (fun _ => by kernel_rfl) (fun c3 => ?_) (fun c3 => ?_)
            · skip
              refine drawR (fun w => Sat w (blk b1 29 [.int .i64 zw, .int .i64 zi, .int .i64 za, .int .i64 zb, .bool zt] :: H)) [] 15 (by kernel_rfl) (by kernel_rfl) (by kernel_rfl) (fun _ h => by first | exact h | exact h.tail | exact h.tail.tail | exact h.tail.tail.tail | exact h.tail.tail.tail.tail) ?_
              refine takesR [0, 1, 2, 3, 4, 7, 8, 9, 10, 11] [6, 0, 3, 4, 5, 7, 8, 90, 92, 94, 97, 99, 101] 5 [true, true, true, true, true, false, false, true, true, true, true, true, false, false, false] [(6, .pointer (some ⟨b1, 0, none⟩)), (0, .slice s.a s.l.length s.c), (3, .pointer (some ⟨t, 0, none⟩)), (4, .pointer (some ⟨rt, 0, none⟩)), (5, .int .i64 (u : Int)), (7, .int .i64 0), (8, .int .i64 0), (90, .pointer (some ⟨t, 0, none⟩)), (92, .int .i64 zi), (94, .bool zt), (97, .pointer (some ⟨rt, 0, none⟩)), (99, .int .i64 zi), (101, .bool zt)] [(⟨b1, 1, none⟩, .int .i64 zi), (⟨b1, 4, none⟩, .bool zt), (⟨b1, 1, none⟩, .int .i64 zi), (⟨b1, 4, none⟩, .bool zt)] rfl (fun _ d _ _ _ h => by cases d <;> exact h) (fun _ h => by first | exact h | exact h.tail | exact h.tail.tail | exact h.tail.tail.tail | exact h.tail.tail.tail.tail) (hasC (blkAt (T := 29) (cs := [.int .i64 zw, .int .i64 zi, .int .i64 za, .int .i64 zb, .bool zt]) 0 rfl rfl) (hasC (blkAt (T := 29) (cs := [.int .i64 zw, .int .i64 zi, .int .i64 za, .int .i64 zb, .bool zt]) 0 rfl rfl) (hasC (blkAt (T := 29) (cs := [.int .i64 zw, .int .i64 zi, .int .i64 za, .int .i64 zb, .bool zt]) 0 rfl rfl) (hasC (blkAt (T := 29) (cs := [.int .i64 zw, .int .i64 zi, .int .i64 za, .int .i64 zb, .bool zt]) 0 rfl rfl) has0)))) (fun _ => by kernel_rfl) ?_
              refine oneR 5 4 [true, true, true, true, true, true, false, true, true, true, true, true, false, false, false] rfl rfl (by kernel_rfl) (callS 12 [.pointer (some ⟨t, 0, none⟩), .int .i64 zi, .bool zt] (some 95) (fun _ => pqErr (readyN N zi zt).1) (fun _ => (treeS t (readyN N zi zt).2 :: rtS rt L :: blk b1 29 [.int .i64 zw, .int .i64 zi, .int .i64 za, .int .i64 zb, .bool zt] :: H)) (fun _ => by kernel_rfl) (trReady _ t N zi zt)) (fun _ _ h hn => by first | exact h | exact h.tail | exact h.tail.tail | exact h.tail.tail.tail | exact h.tail.tail.tail.tail | exact absurd hn (by decide)) (fun _ => ?_)
              refine oneR 6 3 [true, true, true, true, true, true, true, true, true, true, true, true, false, false, false] rfl rfl (by kernel_rfl) (callS 7 [pqErr (readyN N zi zt).1] (some 96) (fun _ => .int .i64 (readyN N zi zt).1) (fun _ => (treeS t (readyN N zi zt).2 :: rtS rt L :: blk b1 29 [.int .i64 zw, .int .i64 zi, .int .i64 za, .int .i64 zb, .bool zt] :: H)) (fun _ => by kernel_rfl) (code_walk _ hE.up.up.up (readyN N zi zt).1)) (fun _ _ h hn => by first | exact h | exact h.tail | exact h.tail.tail | exact h.tail.tail.tail | exact h.tail.tail.tail.tail | exact absurd hn (by decide)) (fun _ => ?_)
              refine oneR 12 2 [true, true, true, true, true, true, true, true, true, true, true, true, true, false, false] rfl rfl (by kernel_rfl) (callS 13 [.pointer (some ⟨rt, 0, none⟩), .int .i64 zi, .bool zt] (some 102) (fun _ => .int .i64 (readyN L zi zt).1) (fun _ => (treeS t (readyN N zi zt).2 :: rtS rt (readyN L zi zt).2 :: blk b1 29 [.int .i64 zw, .int .i64 zi, .int .i64 za, .int .i64 zb, .bool zt] :: H)) (fun _ => by kernel_rfl) (chg_at (H := (treeS t (readyN N zi zt).2 :: rtS rt L :: blk b1 29 [.int .i64 zw, .int .i64 zi, .int .i64 za, .int .i64 zb, .bool zt] :: H)) 1 rfl (rready_walk _ rt L (hR.wf hw) zi zt))) (fun _ _ h hn => by first | exact h | exact h.tail | exact h.tail.tail | exact h.tail.tail.tail | exact h.tail.tail.tail.tail | exact absurd hn (by decide)) (fun _ => ?_)
              rw [show (readyN L zi zt).1 = (readyN N zi zt).1 by exact (hR.ready hw zi zt).1.symm]
              refine takesR [13, 14] [6, 0, 3, 4, 5, 7, 8] 0 [true, true, true, true, true, true, true, true, true, true, true, true, true, true, true] [(6, .pointer (some ⟨b1, 0, none⟩)), (0, .slice s.a s.l.length s.c), (3, .pointer (some ⟨t, 0, none⟩)), (4, .pointer (some ⟨rt, 0, none⟩)), (5, .int .i64 (u : Int)), (7, .int .i64 ((readyN N zi zt).1)), (8, .int .i64 ((readyN N zi zt).1))] [] rfl (fun _ d _ _ _ h => by cases d <;> exact h) (fun _ h => by first | exact h | exact h.tail | exact h.tail.tail | exact h.tail.tail.tail | exact h.tail.tail.tail.tail) has0 (fun _ => by kernel_rfl) ?_
              refine drawnR (by kernel_rfl) ?_
              refine PT.keep (L' := [(0, .slice s.a s.l.length s.c), (3, .pointer (some ⟨t, 0, none⟩)), (4, .pointer (some ⟨rt, 0, none⟩)), (5, .int .i64 (u : Int)), (6, .pointer (some ⟨b1, 0, none⟩)), (7, .int .i64 ((readyN N zi zt).1)), (8, .int .i64 ((readyN N zi zt).1))]) [0, 3, 4, 5, 6, 7, 8] rfl ?_
              exact midR (⟨(((readyN N zi zt).2, (readyN L zi zt).2), (readyN N zi zt).1), hI.id.ready zi zt, ready_wf hw zi zt, (hR.ready hw zi zt).2⟩) rfl rfl
            · skip
              refine seqR (by kernel_rfl) ?_
              refine regionR 4 (by kernel_rfl) (by kernel_rfl) ?_
              refine (runR (H := (treeS t N :: rtS rt L :: blk b1 29 [.int .i64 zw, .int .i64 zi, .int .i64 za, .int .i64 zb, .bool zt] :: H)) (z := 0) 4 [6, 0, 3, 4, 5, 7, 8, 103] [(6, .pointer (some ⟨b1, 0, none⟩)), (0, .slice s.a s.l.length s.c), (3, .pointer (some ⟨t, 0, none⟩)), (4, .pointer (some ⟨rt, 0, none⟩)), (5, .int .i64 (u : Int)), (7, .int .i64 0), (8, .int .i64 0), (103, .bool (zw == 5))] [(⟨b1, 0, none⟩, .int .i64 zw)] (hasC (blkAt (T := 29) (cs := [.int .i64 zw, .int .i64 zi, .int .i64 za, .int .i64 zb, .bool zt]) 2 rfl rfl) has0) (fun _ => by kernel_rfl) (endR ?_) : RT _ _ _ _ _ _ 4 _)
              refine condR (b := zw == 5) (by kernel_rfl) (fun _ => by kernel_rfl) (fun c4 => ?_) (fun c4 => ?_)
              · skip
                refine drawR (fun w => Sat w (blk b1 29 [.int .i64 zw, .int .i64 zi, .int .i64 za, .int .i64 zb, .bool zt] :: H)) [] 15 (by kernel_rfl) (by kernel_rfl) (by kernel_rfl) (fun _ h => by first | exact h | exact h.tail | exact h.tail.tail | exact h.tail.tail.tail | exact h.tail.tail.tail.tail) ?_
                refine takesR [0, 1, 2, 3, 4, 7, 8, 9, 10, 11] [6, 0, 3, 4, 5, 7, 8, 107, 109, 111, 114, 116, 118] 5 [true, true, true, true, true, false, false, true, true, true, true, true, false, false, false] [(6, .pointer (some ⟨b1, 0, none⟩)), (0, .slice s.a s.l.length s.c), (3, .pointer (some ⟨t, 0, none⟩)), (4, .pointer (some ⟨rt, 0, none⟩)), (5, .int .i64 (u : Int)), (7, .int .i64 0), (8, .int .i64 0), (107, .pointer (some ⟨t, 0, none⟩)), (109, .int .i64 zi), (111, .int .i64 zb), (114, .pointer (some ⟨rt, 0, none⟩)), (116, .int .i64 zi), (118, .int .i64 zb)] [(⟨b1, 1, none⟩, .int .i64 zi), (⟨b1, 3, none⟩, .int .i64 zb), (⟨b1, 1, none⟩, .int .i64 zi), (⟨b1, 3, none⟩, .int .i64 zb)] rfl (fun _ d _ _ _ h => by cases d <;> exact h) (fun _ h => by first | exact h | exact h.tail | exact h.tail.tail | exact h.tail.tail.tail | exact h.tail.tail.tail.tail) (hasC (blkAt (T := 29) (cs := [.int .i64 zw, .int .i64 zi, .int .i64 za, .int .i64 zb, .bool zt]) 0 rfl rfl) (hasC (blkAt (T := 29) (cs := [.int .i64 zw, .int .i64 zi, .int .i64 za, .int .i64 zb, .bool zt]) 0 rfl rfl) (hasC (blkAt (T := 29) (cs := [.int .i64 zw, .int .i64 zi, .int .i64 za, .int .i64 zb, .bool zt]) 0 rfl rfl) (hasC (blkAt (T := 29) (cs := [.int .i64 zw, .int .i64 zi, .int .i64 za, .int .i64 zb, .bool zt]) 0 rfl rfl) has0)))) (fun _ => by kernel_rfl) ?_
                refine oneR 5 4 [true, true, true, true, true, true, false, true, true, true, true, true, false, false, false] rfl rfl (by kernel_rfl) (callS 14 [.pointer (some ⟨t, 0, none⟩), .int .i64 zi, .int .i64 zb] (some 112) (fun _ => pqErr (weightN N zi zb).1) (fun _ => (treeS t (weightN N zi zb).2 :: rtS rt L :: blk b1 29 [.int .i64 zw, .int .i64 zi, .int .i64 za, .int .i64 zb, .bool zt] :: H)) (fun _ => by kernel_rfl) (trWeight _ t N zi zb)) (fun _ _ h hn => by first | exact h | exact h.tail | exact h.tail.tail | exact h.tail.tail.tail | exact h.tail.tail.tail.tail | exact absurd hn (by decide)) (fun _ => ?_)
                refine oneR 6 3 [true, true, true, true, true, true, true, true, true, true, true, true, false, false, false] rfl rfl (by kernel_rfl) (callS 7 [pqErr (weightN N zi zb).1] (some 113) (fun _ => .int .i64 (weightN N zi zb).1) (fun _ => (treeS t (weightN N zi zb).2 :: rtS rt L :: blk b1 29 [.int .i64 zw, .int .i64 zi, .int .i64 za, .int .i64 zb, .bool zt] :: H)) (fun _ => by kernel_rfl) (code_walk _ hE.up.up.up (weightN N zi zb).1)) (fun _ _ h hn => by first | exact h | exact h.tail | exact h.tail.tail | exact h.tail.tail.tail | exact h.tail.tail.tail.tail | exact absurd hn (by decide)) (fun _ => ?_)
                refine oneR 12 2 [true, true, true, true, true, true, true, true, true, true, true, true, true, false, false] rfl rfl (by kernel_rfl) (callS 15 [.pointer (some ⟨rt, 0, none⟩), .int .i64 zi, .int .i64 zb] (some 119) (fun _ => .int .i64 (weightN L zi zb).1) (fun _ => (treeS t (weightN N zi zb).2 :: rtS rt (weightN L zi zb).2 :: blk b1 29 [.int .i64 zw, .int .i64 zi, .int .i64 za, .int .i64 zb, .bool zt] :: H)) (fun _ => by kernel_rfl) (chg_at (H := (treeS t (weightN N zi zb).2 :: rtS rt L :: blk b1 29 [.int .i64 zw, .int .i64 zi, .int .i64 za, .int .i64 zb, .bool zt] :: H)) 1 rfl (rweight_walk _ rt L (hR.wf hw) zi zb))) (fun _ _ h hn => by first | exact h | exact h.tail | exact h.tail.tail | exact h.tail.tail.tail | exact h.tail.tail.tail.tail | exact absurd hn (by decide)) (fun _ => ?_)
                rw [show (weightN L zi zb).1 = (weightN N zi zb).1 by exact (hR.weight hw zi zb).1.symm]
                refine takesR [13, 14] [6, 0, 3, 4, 5, 7, 8] 0 [true, true, true, true, true, true, true, true, true, true, true, true, true, true, true] [(6, .pointer (some ⟨b1, 0, none⟩)), (0, .slice s.a s.l.length s.c), (3, .pointer (some ⟨t, 0, none⟩)), (4, .pointer (some ⟨rt, 0, none⟩)), (5, .int .i64 (u : Int)), (7, .int .i64 ((weightN N zi zb).1)), (8, .int .i64 ((weightN N zi zb).1))] [] rfl (fun _ d _ _ _ h => by cases d <;> exact h) (fun _ h => by first | exact h | exact h.tail | exact h.tail.tail | exact h.tail.tail.tail | exact h.tail.tail.tail.tail) has0 (fun _ => by kernel_rfl) ?_
                refine drawnR (by kernel_rfl) ?_
                refine PT.keep (L' := [(0, .slice s.a s.l.length s.c), (3, .pointer (some ⟨t, 0, none⟩)), (4, .pointer (some ⟨rt, 0, none⟩)), (5, .int .i64 (u : Int)), (6, .pointer (some ⟨b1, 0, none⟩)), (7, .int .i64 ((weightN N zi zb).1)), (8, .int .i64 ((weightN N zi zb).1))]) [0, 3, 4, 5, 6, 7, 8] rfl ?_
                exact midR (⟨(((weightN N zi zb).2, (weightN L zi zb).2), (weightN N zi zb).1), hI.id.weight zi zb, weight_wf hw zi zb, (hR.weight hw zi zb).2⟩) rfl rfl
              · skip
                refine seqR (by kernel_rfl) ?_
                refine regionR 7 (by kernel_rfl) (by kernel_rfl) ?_
                refine (run0 (z := 6) 1 [6, 0, 3, 4, 5, 7, 8, 31] [(6, .pointer (some ⟨b1, 0, none⟩)), (0, .slice s.a s.l.length s.c), (3, .pointer (some ⟨t, 0, none⟩)), (4, .pointer (some ⟨rt, 0, none⟩)), (5, .int .i64 (u : Int)), (7, .int .i64 0), (8, .int .i64 0), (31, .pointer (some ⟨t, 0, none⟩))] (fun _ => by kernel_rfl) ?_ : RT _ _ _ _ _ _ 7 _)
                refine (stepR (z := 5) (callS 16 [.pointer (some ⟨t, 0, none⟩)] (some 32) (fun _ => .tuple #[.int .i64 (runN N).1.1, .bool (runN N).1.2]) (fun _ => (treeS t (runN N).2 :: rtS rt L :: blk b1 29 [.int .i64 zw, .int .i64 zi, .int .i64 za, .int .i64 zb, .bool zt] :: H)) (fun _ => by kernel_rfl) (trRun _ t N)) (fun _ => ?_) : RT _ _ _ _ _ _ 6 _)
                refine (run0 (z := 0) 5 [6, 0, 3, 4, 5, 7, 8, 9, 10] [(6, .pointer (some ⟨b1, 0, none⟩)), (0, .slice s.a s.l.length s.c), (3, .pointer (some ⟨t, 0, none⟩)), (4, .pointer (some ⟨rt, 0, none⟩)), (5, .int .i64 (u : Int)), (7, .int .i64 0), (8, .int .i64 0), (9, .int .i64 ((runN N).1.1)), (10, .bool ((runN N).1.2))] (fun _ => by kernel_rfl) (endR ?_) : RT _ _ _ _ _ _ 5 _)
                refine seqR (by kernel_rfl) ?_
                refine regionR 7 (by kernel_rfl) (by kernel_rfl) ?_
                refine (run0 (z := 6) 1 [6, 0, 3, 4, 5, 7, 8, 9, 10, 36] [(6, .pointer (some ⟨b1, 0, none⟩)), (0, .slice s.a s.l.length s.c), (3, .pointer (some ⟨t, 0, none⟩)), (4, .pointer (some ⟨rt, 0, none⟩)), (5, .int .i64 (u : Int)), (7, .int .i64 0), (8, .int .i64 0), (9, .int .i64 ((runN N).1.1)), (10, .bool ((runN N).1.2)), (36, .pointer (some ⟨rt, 0, none⟩))] (fun _ => by kernel_rfl) ?_ : RT _ _ _ _ _ _ 7 _)
                refine (stepR (z := 5) (callS 17 [.pointer (some ⟨rt, 0, none⟩)] (some 37) (fun _ => .tuple #[.int .i64 (runN L).1.1, .bool (runN L).1.2]) (fun _ => (treeS t (runN N).2 :: rtS rt (runN L).2 :: blk b1 29 [.int .i64 zw, .int .i64 zi, .int .i64 za, .int .i64 zb, .bool zt] :: H)) (fun _ => by kernel_rfl) (chg_at (H := (treeS t (runN N).2 :: rtS rt L :: blk b1 29 [.int .i64 zw, .int .i64 zi, .int .i64 za, .int .i64 zb, .bool zt] :: H)) 1 rfl (rrun_walk _ rt L (hR.wf hw) hR.srt))) (fun _ => ?_) : RT _ _ _ _ _ _ 6 _)
                rw [show (runN L).1 = (runN N).1 by exact (hR.run hw).1.symm]
                refine (run0 (z := 0) 5 [6, 0, 3, 4, 5, 7, 8, 9, 10, 11, 12] [(6, .pointer (some ⟨b1, 0, none⟩)), (0, .slice s.a s.l.length s.c), (3, .pointer (some ⟨t, 0, none⟩)), (4, .pointer (some ⟨rt, 0, none⟩)), (5, .int .i64 (u : Int)), (7, .int .i64 0), (8, .int .i64 0), (9, .int .i64 ((runN N).1.1)), (10, .bool ((runN N).1.2)), (11, .int .i64 (((runN N).1).1)), (12, .bool (((runN N).1).2))] (fun _ => by kernel_rfl) (endR ?_) : RT _ _ _ _ _ _ 5 _)
                refine seqR (by kernel_rfl) ?_
                refine regionR 8 (by kernel_rfl) (by kernel_rfl) ?_
                refine (run0 (z := 4) 4 [6, 0, 3, 4, 5, 7, 8, 10, 12, 43] [(6, .pointer (some ⟨b1, 0, none⟩)), (0, .slice s.a s.l.length s.c), (3, .pointer (some ⟨t, 0, none⟩)), (4, .pointer (some ⟨rt, 0, none⟩)), (5, .int .i64 (u : Int)), (7, .int .i64 0), (8, .int .i64 0), (10, .bool ((runN N).1.2)), (12, .bool (((runN N).1).2)), (43, .bool (((runN N).1.1) != (((runN N).1).1)))] (fun _ => by kernel_rfl) ?_ : RT _ _ _ _ _ _ 8 _)
                refine (segR (ι := Unit) (z := 0) 4 (fun _ => [(6, .pointer (some ⟨b1, 0, none⟩)), (0, .slice s.a s.l.length s.c), (3, .pointer (some ⟨t, 0, none⟩)), (4, .pointer (some ⟨rt, 0, none⟩)), (5, .int .i64 (u : Int)), (7, .int .i64 0), (8, .int .i64 0), (47, .bool ((((runN N).1.1) != (((runN N).1).1)) || (((runN N).1.2) != (((runN N).1).2))))]) (fun _ => (treeS t (runN N).2 :: rtS rt (runN L).2 :: blk b1 29 [.int .i64 zw, .int .i64 zi, .int .i64 za, .int .i64 zb, .bool zt] :: H)) ?_ (fun _ => ?_) : RT _ _ _ _ _ _ 4 _)
                · cases hg4 : (((runN N).1.1) != (((runN N).1).1)) with
                  | true =>
                    refine (run0 (z := 0) 4 [6, 0, 3, 4, 5, 7, 8, 47] [(6, .pointer (some ⟨b1, 0, none⟩)), (0, .slice s.a s.l.length s.c), (3, .pointer (some ⟨t, 0, none⟩)), (4, .pointer (some ⟨rt, 0, none⟩)), (5, .int .i64 (u : Int)), (7, .int .i64 0), (8, .int .i64 0), (47, .bool true)] (fun _ => by kernel_rfl) (endR ?_) : RT _ _ _ _ _ _ 4 _)
                    refine PT.keep (L' := [(6, .pointer (some ⟨b1, 0, none⟩)), (0, .slice s.a s.l.length s.c), (3, .pointer (some ⟨t, 0, none⟩)), (4, .pointer (some ⟨rt, 0, none⟩)), (5, .int .i64 (u : Int)), (7, .int .i64 0), (8, .int .i64 0), (47, .bool (true || (((runN N).1.2) != (((runN N).1).2))))]) [6, 0, 3, 4, 5, 7, 8, 47] rfl ?_
                    exact midR () rfl rfl
                  | false =>
                    refine (run0 (z := 0) 4 [6, 0, 3, 4, 5, 7, 8, 47] [(6, .pointer (some ⟨b1, 0, none⟩)), (0, .slice s.a s.l.length s.c), (3, .pointer (some ⟨t, 0, none⟩)), (4, .pointer (some ⟨rt, 0, none⟩)), (5, .int .i64 (u : Int)), (7, .int .i64 0), (8, .int .i64 0), (47, .bool (((runN N).1.2) != (((runN N).1).2)))] (fun _ => by kernel_rfl) (endR ?_) : RT _ _ _ _ _ _ 4 _)
                    refine PT.keep (L' := [(6, .pointer (some ⟨b1, 0, none⟩)), (0, .slice s.a s.l.length s.c), (3, .pointer (some ⟨t, 0, none⟩)), (4, .pointer (some ⟨rt, 0, none⟩)), (5, .int .i64 (u : Int)), (7, .int .i64 0), (8, .int .i64 0), (47, .bool (false || (((runN N).1.2) != (((runN N).1).2))))]) [6, 0, 3, 4, 5, 7, 8, 47] rfl ?_
                    exact midR () rfl rfl
                refine endR ?_
                rw [show ((((runN N).1.1) != (((runN N).1).1)) || (((runN N).1.2) != (((runN N).1).2))) = false from by simp]
                refine condR (b := false) (by kernel_rfl) (fun _ => by kernel_rfl) (fun h => by cases h) (fun _ => ?_)
                refine skipR (by kernel_rfl) ?_
                refine PT.keep (L' := [(0, .slice s.a s.l.length s.c), (3, .pointer (some ⟨t, 0, none⟩)), (4, .pointer (some ⟨rt, 0, none⟩)), (5, .int .i64 (u : Int)), (6, .pointer (some ⟨b1, 0, none⟩)), (7, .int .i64 0), (8, .int .i64 0)]) [0, 3, 4, 5, 6, 7, 8] rfl ?_
                exact midR (⟨(((runN N).2, (runN L).2), 0), hI.id.run hw, run_wf hw, (hR.run hw).2⟩) rfl rfl
      obtain ⟨⟨⟨N', L'⟩, cd⟩, hI'⟩ := q
      have hw' := hI'.wf
      have hR' := hI'.rt
      simp only at hw' hR'
      have hNL := hR'.nodes hw'
      have hl' := (hR'.wf hw').sk.len
      have hne' : L' ≠ [] := by obtain ⟨r, hr, _⟩ := (hR'.wf hw').sk.root; exact List.ne_nil_of_mem hr
      refine seqR (by kernel_rfl) ?_
      refine drawR (fun w => Sat w (blk b1 29 [.int .i64 zw, .int .i64 zi, .int .i64 za, .int .i64 zb, .bool zt] :: H)) [] 22 (by kernel_rfl) (by kernel_rfl) (by kernel_rfl) (fun _ h => by first | exact h | exact h.tail | exact h.tail.tail | exact h.tail.tail.tail | exact h.tail.tail.tail.tail) ?_
      refine takesR [0, 1, 2, 3] [0, 3, 4, 5, 6, 123] 18 [true, true, true, true, false, false, false, false, false, false, false, false, false, false, false, false, false, false, false, false, false, false] [(0, .slice s.a s.l.length s.c), (3, .pointer (some ⟨t, 0, none⟩)), (4, .pointer (some ⟨rt, 0, none⟩)), (5, .int .i64 (u : Int)), (6, .pointer (some ⟨b1, 0, none⟩)), (123, .bool (cd != cd))] [] rfl (fun _ d _ _ _ h => by cases d <;> exact h) (fun _ h => by first | exact h | exact h.tail | exact h.tail.tail | exact h.tail.tail.tail | exact h.tail.tail.tail.tail) has0 (fun _ => by kernel_rfl) ?_
      rw [show (cd != cd) = false from by simp]
      refine takesR [4, 6] [0, 3, 4, 5, 6, 123, 124, 126] 16 [true, true, true, true, true, false, true, false, false, false, false, false, false, false, false, false, false, false, false, false, false, false] [(0, .slice s.a s.l.length s.c), (3, .pointer (some ⟨t, 0, none⟩)), (4, .pointer (some ⟨rt, 0, none⟩)), (5, .int .i64 (u : Int)), (6, .pointer (some ⟨b1, 0, none⟩)), (123, .bool false), (124, .pointer (some ⟨t, 0, none⟩)), (126, .pointer (some ⟨rt, 0, none⟩))] [] rfl (fun _ d _ _ _ h => by cases d <;> exact h) (fun _ h => by first | exact h | exact h.tail | exact h.tail.tail | exact h.tail.tail.tail | exact h.tail.tail.tail.tail) has0 (fun _ => by kernel_rfl) ?_
      refine oneR 5 15 [true, true, true, true, true, true, true, false, false, false, false, false, false, false, false, false, false, false, false, false, false, false] rfl rfl (by kernel_rfl) (callS 19 [.pointer (some ⟨t, 0, none⟩)] (some 125) (fun (na : Option Addr × Nat) => .slice na.1 L'.length na.2) (fun (na : Option Addr × Nat) => (row nE 48 (.slice na.1 L'.length na.2) L' :: treeS t N' :: rtS rt L' :: blk b1 29 [.int .i64 zw, .int .i64 zi, .int .i64 za, .int .i64 zb, .bool zt] :: H)) (fun _ => by kernel_rfl) (trNodes_is _ t hNL hI'.id)) (fun _ _ h hn => by first | exact h | exact h.tail | exact h.tail.tail | exact h.tail.tail.tail | exact h.tail.tail.tail.tail | exact absurd hn (by decide)) (fun (na : Option Addr × Nat) => ?_)
      refine oneR 7 14 [true, true, true, true, true, true, true, true, false, false, false, false, false, false, false, false, false, false, false, false, false, false] rfl rfl (by kernel_rfl) (callS 20 [.pointer (some ⟨rt, 0, none⟩)] (some 127) (fun (nb : Option Addr × Nat) => .slice nb.1 L'.length nb.2) (fun (nb : Option Addr × Nat) => row nE 48 (.slice nb.1 L'.length nb.2) L' :: row nE 48 (.slice na.1 L'.length na.2) L' :: treeS t N' :: rtS rt L' :: blk b1 29 [.int .i64 zw, .int .i64 zi, .int .i64 za, .int .i64 zb, .bool zt] :: H) (fun _ => by kernel_rfl) ((fun w hs => (rtNodes (row nE 48 (.slice na.1 L'.length na.2) L' :: treeS t N' :: blk b1 29 [.int .i64 zw, .int .i64 zi, .int .i64 za, .int .i64 zb, .bool zt] :: H) rt L' (by omega) hne' w (Sat.pick 2 rfl hs)).mono fun e w' ⟨x, he, hx⟩ => ⟨x, he, Sat.perm (List.Perm.cons _ ((List.Perm.swap _ _ _).trans ((List.Perm.swap _ _ _).cons _))) hx⟩))) (fun _ _ h hn => by first | exact h | exact h.tail | exact h.tail.tail | exact h.tail.tail.tail | exact h.tail.tail.tail.tail | exact absurd hn (by decide)) (fun (nb : Option Addr × Nat) => ?_)
      refine oneR 8 13 [true, true, true, true, true, true, true, true, true, false, false, false, false, false, false, false, false, false, false, false, false, false] rfl rfl (by kernel_rfl) (callS 18 [.slice na.1 L'.length na.2, .slice nb.1 L'.length nb.2] (some 128) (fun _ => .bool true) (fun _ => (row nE 48 (.slice nb.1 L'.length nb.2) L' :: row nE 48 (.slice na.1 L'.length na.2) L' :: treeS t N' :: rtS rt L' :: blk b1 29 [.int .i64 zw, .int .i64 zi, .int .i64 za, .int .i64 zb, .bool zt] :: H)) (fun _ => by kernel_rfl) (sameNodes_walk (row nE 48 (.slice nb.1 L'.length nb.2) L' :: row nE 48 (.slice na.1 L'.length na.2) L' :: treeS t N' :: rtS rt L' :: blk b1 29 [.int .i64 zw, .int .i64 zi, .int .i64 za, .int .i64 zb, .bool zt] :: H) ⟨na.1, na.2, L'⟩ ⟨nb.1, nb.2, L'⟩ (rowKRat 1 rfl) (rowKRat 0 rfl) (by show L'.length ≤ 1000000; omega) rfl (fun i x y hx hy => by rw [hx] at hy; cases hy; exact ndEq_self _))) (fun _ _ h hn => by first | exact h | exact h.tail | exact h.tail.tail | exact h.tail.tail.tail | exact h.tail.tail.tail.tail | exact absurd hn (by decide)) (fun _ => ?_)
      refine takesR [9, 10, 11, 12, 13, 14, 16, 17, 18] [0, 3, 4, 5, 131, 132, 134, 136, 138] 4 [true, true, true, true, true, true, true, true, true, true, true, true, true, true, true, false, true, true, true, false, false, false] [(0, .slice s.a s.l.length s.c), (3, .pointer (some ⟨t, 0, none⟩)), (4, .pointer (some ⟨rt, 0, none⟩)), (5, .int .i64 (u : Int)), (131, .bool false), (132, .pointer (some ⟨t, 0, none⟩)), (134, .int .i64 zi), (136, .pointer (some ⟨rt, 0, none⟩)), (138, .int .i64 zi)] [(⟨b1, 1, none⟩, .int .i64 zi), (⟨b1, 1, none⟩, .int .i64 zi)] rfl (fun _ d _ _ _ h => by cases d <;> exact h) (fun _ h => by first | exact h | exact h.tail | exact h.tail.tail | exact h.tail.tail.tail | exact h.tail.tail.tail.tail) (hasC (blkAt (T := 29) (cs := [.int .i64 zw, .int .i64 zi, .int .i64 za, .int .i64 zb, .bool zt]) 0 rfl rfl) (hasC (blkAt (T := 29) (cs := [.int .i64 zw, .int .i64 zi, .int .i64 za, .int .i64 zb, .bool zt]) 0 rfl rfl) has0)) (fun _ => by kernel_rfl) ?_
      refine oneR 15 3 [true, true, true, true, true, true, true, true, true, true, true, true, true, true, true, true, true, true, true, false, false, false] rfl rfl (by kernel_rfl) (callS 21 [.pointer (some ⟨t, 0, none⟩), .int .i64 zi] (some 135) (fun _ => .int .i64 (deepN 6 N' zi : Int)) (fun _ => (row nE 48 (.slice nb.1 L'.length nb.2) L' :: row nE 48 (.slice na.1 L'.length na.2) L' :: treeS t N' :: rtS rt L' :: blk b1 29 [.int .i64 zw, .int .i64 zi, .int .i64 za, .int .i64 zb, .bool zt] :: H)) (fun _ => by kernel_rfl) (same_at 2 rfl (trDeep _ t N' zi))) (fun _ _ h hn => by first | exact h | exact h.tail | exact h.tail.tail | exact h.tail.tail.tail | exact h.tail.tail.tail.tail | exact absurd hn (by decide)) (fun _ => ?_)
      refine oneR 19 2 [true, true, true, true, true, true, true, true, true, true, true, true, true, true, true, true, true, true, true, true, false, false] rfl rfl (by kernel_rfl) (callS 22 [.pointer (some ⟨rt, 0, none⟩), .int .i64 zi] (some 139) (fun _ => .int .i64 (deepN 6 L' zi : Int)) (fun _ => (row nE 48 (.slice nb.1 L'.length nb.2) L' :: row nE 48 (.slice na.1 L'.length na.2) L' :: treeS t N' :: rtS rt L' :: blk b1 29 [.int .i64 zw, .int .i64 zi, .int .i64 za, .int .i64 zb, .bool zt] :: H)) (fun _ => by kernel_rfl) (same_at 3 rfl (rtDeep _ rt L' (hR'.wf hw').sk zi))) (fun _ _ h hn => by first | exact h | exact h.tail | exact h.tail.tail | exact h.tail.tail.tail | exact h.tail.tail.tail.tail | exact absurd hn (by decide)) (fun _ => ?_)
      rw [show deepN 6 L' zi = (deepN 6 N' zi) by exact (hR'.deep hw' zi).symm]
      refine takesR [20, 21] [0, 3, 4, 5, 141] 0 [true, true, true, true, true, true, true, true, true, true, true, true, true, true, true, true, true, true, true, true, true, true] [(0, .slice s.a s.l.length s.c), (3, .pointer (some ⟨t, 0, none⟩)), (4, .pointer (some ⟨rt, 0, none⟩)), (5, .int .i64 (u : Int)), (141, .bool ((deepN 6 N' zi : Int) != ((deepN 6 N' zi) : Int)))] [] rfl (fun _ d _ _ _ h => by cases d <;> exact h) (fun _ h => by first | exact h | exact h.tail | exact h.tail.tail | exact h.tail.tail.tail | exact h.tail.tail.tail.tail) has0 (fun _ => by kernel_rfl) ?_
      refine drawnR (by kernel_rfl) ?_
      rw [show ((deepN 6 N' zi : Int) != ((deepN 6 N' zi) : Int)) = false from by simp]
      refine condR (b := false) (by kernel_rfl) (fun _ => by kernel_rfl) (fun h => by cases h) (fun _ => ?_)
      refine skipR (by kernel_rfl) ?_
      refine regionR 3 (by kernel_rfl) (by kernel_rfl) ?_
      refine (run0 (z := 0) 3 [0, 3, 4, 5] [(0, .slice s.a s.l.length s.c), (3, .pointer (some ⟨t, 0, none⟩)), (4, .pointer (some ⟨rt, 0, none⟩)), (5, .int .i64 (IntKind.i64.wrap ((u : Int) + 1)))] (fun _ => by kernel_rfl) (endR ?_) : RT _ _ _ _ _ _ 3 _)
      rw [show IntKind.i64.wrap ((u : Int) + 1) = ((u : Int) + 1) by rw [w64 (by omega) (by omega)]]
      refine PT.drop ?_
      refine PT.drop ?_
      refine PT.pick 2 rfl ?_
      refine PT.drop ?_
      refine PT.keep (L' := [(0, .slice s.a s.l.length s.c), (3, .pointer (some ⟨t, 0, none⟩)), (4, .pointer (some ⟨rt, 0, none⟩)), (5, .int .i64 ((u : Int) + 1))]) [0, 3, 4, 5] rfl ?_
      exact againG (k - 1) ((N', L'), u + 1) rfl rfl (by omega) ⟨by simp only; omega, hI'⟩
    · skip
      refine exitR 0 (by kernel_rfl) (by kernel_rfl) ?_
      refine thenX ?_
      refine thenX ?_
      refine leaveR ?_
      refine seqR (by kernel_rfl) ?_
      refine regionR 1 (by kernel_rfl) (by kernel_rfl) ?_
      refine (run0 (z := 0) 1 [2] [(2, .bool true)] (fun _ => by kernel_rfl) (endR ?_) : RT _ _ _ _ _ _ 1 _)
      refine retR (by kernel_rfl) ?_
      refine done0 (.bool true) (fun _ => by kernel_rfl) (fun w hs => ?_) .ret (.inr rfl)
      exact ⟨(), rfl, hs.tail.tail⟩
theorem plays_row (W : World) (hE : W.cell? ⟨0, 0, none⟩ = some errT) (ao : Option Addr) (c : Nat) (l : List (Int × Int × Int × Int × Bool)) (hrd : Rd p7E W (.slice ao l.length c) l) (hl : ∀ x ∈ l, x.2.1 ≤ 9223372036854775807) : Calls Tryz.prog 3 #[.slice ao l.length c] W (LawPost W) :=
  lawPost (fun _ _ h => h) (plays7_walk [old W] (EK.old 0 rfl hE) ⟨ao, c, l⟩ (KR.old hrd 0 rfl) hl W (Sat.start W))
end Go.Proofs.YtjbjngikaiggdaaGreatDoor
