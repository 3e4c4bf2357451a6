/- A map's keys, sorted: slices.Sorted(maps.Keys(m)), by the shelf's contracts. Conditions: none. -/
import Derived.Shelf.SlIterI.Sorted
import Derived.Shelf.SortM.Plain
import Derived.Shelf.SortM.SortNone
import Derived.Test.YtjbjngikaiggdaaTm
set_option linter.unusedVariables false
set_option linter.unusedSimpArgs false
namespace Go.Proofs.Ytjbjngikaiggdaa
open Go.RowKit Go.Maps Go.Sort Go.Shelf G
def LyK_ren : Go.Shelf.Ren := ⟨fun | 7 => 34 | 10 => 48 | n => n, fun | 23 => 62 | 26 => 3 | 3 => 57 | 28 => 83 | 0 => 0 | 27 => 82 | 33 => 66 | 4 => 4 | n => n, fun | n => n⟩
theorem LyK : SlLaysZI.n7 Try.prog LyK_ren where
  mixed := by kernel_rfl
  f7 := ⟨ "maps.Keys[map[int]*tontine/tree.node,int,*tontine/tree.node]", by decide, Try.func34.trans (congrArg some (by kernel_rfl))⟩
  f10 := ⟨ "maps.Keys[map[int]*tontine/tree.node,int,*tontine/tree.node]$1", by decide, Try.func48.trans (congrArg some (by kernel_rfl))⟩
  t0 := Try.underlying0
  a0 := Try.isAgg0
  z0 := Try.sizeOf0
  v0 := Try.zeroValue0
  t4 := Try.underlying4
  a4 := Try.isAgg4
  z4 := Try.sizeOf4
  v4 := Try.zeroValue4
  t23 := Try.underlying62
  a23 := Try.isAgg62
  z23 := Try.sizeOf62
  v23 := Try.zeroValue62
  t26 := Try.underlying3
  a26 := Try.isAgg3
  z26 := Try.sizeOf3
  v26 := Try.zeroValue3
  t27 := Try.underlying82
  a27 := Try.isAgg82
  z27 := Try.sizeOf82
  v27 := Try.zeroValue82
  t28 := Try.underlying83
  a28 := Try.isAgg83
  z28 := Try.sizeOf83
  v28 := Try.zeroValue83
  t33 := Try.underlying66
  a33 := Try.isAgg66
  z33 := Try.sizeOf66
  v33 := Try.zeroValue66
def LyO_ren : Go.Shelf.Ren := ⟨fun | 6 => 33 | 8 => 46 | 9 => 47 | 11 => 55 | 13 => 57 | 12 => 56 | 23 => 72 | 24 => 73 | 14 => 63 | 15 => 64 | 16 => 65 | 17 => 66 | 18 => 67 | 19 => 68 | 20 => 69 | 21 => 70 | 22 => 71 | 25 => 85 | 26 => 86 | 27 => 87 | 28 => 88 | 29 => 89 | 30 => 84 | 31 => 94 | n => n, fun | 26 => 3 | 28 => 83 | 24 => 80 | 0 => 0 | 3 => 3 | 37 => 114 | 48 => 128 | 50 => 130 | 4 => 4 | 40 => 121 | 39 => 120 | 45 => 32 | 5 => 5 | 9 => 9 | 51 => 138 | 55 => 142 | 57 => 146 | 58 => 147 | 33 => 66 | n => n, fun | n => n⟩
theorem LyO : SlLaysZI.n6 Try.prog LyO_ren where
  mixed := by kernel_rfl
  f6 := ⟨ "slices.Sorted[int]", by decide, Try.func33.trans (congrArg some (by kernel_rfl))⟩
  f8 := ⟨ "slices.Collect[int]", by decide, Try.func46.trans (congrArg some (by kernel_rfl))⟩
  f11 := ⟨ "slices.AppendSeq[[]int,int]", by decide, Try.func55.trans (congrArg some (by kernel_rfl))⟩
  t0 := Try.underlying0
  a0 := Try.isAgg0
  z0 := Try.sizeOf0
  v0 := Try.zeroValue0
  t24 := Try.underlying80
  a24 := Try.isAgg80
  z24 := Try.sizeOf80
  v24 := Try.zeroValue80
  t26 := Try.underlying3
  a26 := Try.isAgg3
  z26 := Try.sizeOf3
  v26 := Try.zeroValue3
  t28 := Try.underlying83
  a28 := Try.isAgg83
  z28 := Try.sizeOf83
  v28 := Try.zeroValue83
  i26 := by kernel_rfl
def LyQ_ren : Go.Shelf.Ren := ⟨fun | 5 => 47 | 8 => 57 | 7 => 56 | 19 => 72 | 20 => 73 | 10 => 63 | 11 => 64 | 12 => 65 | 13 => 66 | 14 => 67 | 15 => 68 | 16 => 69 | 17 => 70 | 18 => 71 | 30 => 85 | 31 => 86 | 32 => 87 | 33 => 88 | 34 => 89 | 35 => 84 | 40 => 94 | n => n, fun | 23 => 80 | 25 => 3 | 3 => 3 | 32 => 114 | 22 => 80 | 0 => 0 | 44 => 128 | 46 => 130 | 4 => 4 | 36 => 121 | 35 => 120 | 41 => 32 | 5 => 5 | 9 => 9 | 53 => 138 | 57 => 142 | 63 => 146 | 64 => 147 | n => n, fun | n => n⟩
theorem LyQ : SlLaysM.n5 Try.prog LyQ_ren where
  mixed := by kernel_rfl
  f5 := ⟨ "slices.Sort[[]int,int]", by decide, Try.func47.trans (congrArg some (by kernel_rfl))⟩
  f7 := ⟨ "slices.pdqsortOrdered[int]", by decide, Try.func56.trans (congrArg some (by kernel_rfl))⟩
  f8 := Try.func57.trans (congrArg some (by kernel_rfl))
  f10 := ⟨ "slices.insertionSortOrdered[int]", by decide, Try.func63.trans (congrArg some (by kernel_rfl))⟩
  f11 := ⟨ "slices.heapSortOrdered[int]", by decide, Try.func64.trans (congrArg some (by kernel_rfl))⟩
  f12 := ⟨ "slices.breakPatternsOrdered[int]", by decide, Try.func65.trans (congrArg some (by kernel_rfl))⟩
  f13 := ⟨ "slices.choosePivotOrdered[int]", by decide, Try.func66.trans (congrArg some (by kernel_rfl))⟩
  f14 := ⟨ "slices.reverseRangeOrdered[int]", by decide, Try.func67.trans (congrArg some (by kernel_rfl))⟩
  f15 := ⟨ "slices.partialInsertionSortOrdered[int]", by decide, Try.func68.trans (congrArg some (by kernel_rfl))⟩
  f16 := ⟨ "cmp.Less[int]", by decide, Try.func69.trans (congrArg some (by kernel_rfl))⟩
  f17 := ⟨ "slices.partitionEqualOrdered[int]", by decide, Try.func70.trans (congrArg some (by kernel_rfl))⟩
  f18 := ⟨ "slices.partitionOrdered[int]", by decide, Try.func71.trans (congrArg some (by kernel_rfl))⟩
  f19 := Try.func72.trans (congrArg some (by kernel_rfl))
  f20 := Try.func73.trans (congrArg some (by kernel_rfl))
  f30 := ⟨ "slices.siftDownOrdered[int]", by decide, Try.func85.trans (congrArg some (by kernel_rfl))⟩
  f31 := Try.func86.trans (congrArg some (by kernel_rfl))
  f32 := Try.func87.trans (congrArg some (by kernel_rfl))
  f33 := ⟨ "slices.medianAdjacentOrdered[int]", by decide, Try.func88.trans (congrArg some (by kernel_rfl))⟩
  f34 := ⟨ "slices.medianOrdered[int]", by decide, Try.func89.trans (congrArg some (by kernel_rfl))⟩
  f35 := ⟨ "cmp.isNaN[int]", by decide, Try.func84.trans (congrArg some (by kernel_rfl))⟩
  f40 := ⟨ "slices.order2Ordered[int]", by decide, Try.func94.trans (congrArg some (by kernel_rfl))⟩
  t0 := Try.underlying0
  a0 := Try.isAgg0
  z0 := Try.sizeOf0
  v0 := Try.zeroValue0
  t3 := Try.underlying3
  a3 := Try.isAgg3
  z3 := Try.sizeOf3
  v3 := Try.zeroValue3
  t4 := Try.underlying4
  a4 := Try.isAgg4
  z4 := Try.sizeOf4
  v4 := Try.zeroValue4
  t5 := Try.underlying5
  a5 := Try.isAgg5
  z5 := Try.sizeOf5
  v5 := Try.zeroValue5
  t9 := Try.underlying9
  a9 := Try.isAgg9
  z9 := Try.sizeOf9
  v9 := Try.zeroValue9
  t22 := Try.underlying80
  a22 := Try.isAgg80
  z22 := Try.sizeOf80
  v22 := Try.zeroValue80
  t23 := Try.underlying80
  a23 := Try.isAgg80
  z23 := Try.sizeOf80
  v23 := Try.zeroValue80
  t25 := Try.underlying3
  a25 := Try.isAgg3
  z25 := Try.sizeOf3
  v25 := Try.zeroValue3
  t32 := Try.underlying114
  a32 := Try.isAgg114
  z32 := Try.sizeOf114
  v32 := Try.zeroValue114
  t35 := Try.underlying120
  a35 := Try.isAgg120
  z35 := Try.sizeOf120
  v35 := Try.zeroValue120
  t36 := Try.underlying121
  a36 := Try.isAgg121
  z36 := Try.sizeOf121
  v36 := Try.zeroValue121
  t41 := Try.underlying32
  a41 := Try.isAgg32
  z41 := Try.sizeOf32
  v41 := Try.zeroValue32
  t44 := Try.underlying128
  a44 := Try.isAgg128
  z44 := Try.sizeOf128
  v44 := Try.zeroValue128
  t46 := Try.underlying130
  a46 := Try.isAgg130
  z46 := Try.sizeOf130
  v46 := Try.zeroValue130
  t53 := Try.underlying138
  a53 := Try.isAgg138
  z53 := Try.sizeOf138
  v53 := Try.zeroValue138
  t57 := Try.underlying142
  a57 := Try.isAgg142
  z57 := Try.sizeOf142
  v57 := Try.zeroValue142
  t63 := Try.underlying146
  a63 := Try.isAgg146
  z63 := Try.sizeOf146
  v63 := Try.zeroValue146
  t64 := Try.underlying147
  a64 := Try.isAgg147
  z64 := Try.sizeOf147
  v64 := Try.zeroValue147
theorem sortsIn (m : Nat) : AnyZI.SortsIn Try.prog LyO_ren Fence.wide m :=
  ⟨fun blk off cap ss W hH hblk hsz => callsIn_wide.2 (AnyM.slices_Sort_int LyQ blk off cap ss W hH hblk hsz),
   fun p cap W => callsIn_wide.2 (AnyM.slices_Sort_int_none LyQ p cap W)⟩
theorem insert_perm {H : Type} (x : Lit × DataW H) : ∀ (l : List (Lit × DataW H)), (DataW.insert x l).Perm (x :: l)
  | [] => .refl _
  | y :: r => by
    unfold DataW.insert
    split
    · exact .refl _
    · exact ((insert_perm x r).cons y).trans (.swap _ _ _)
theorem foldr_insert_perm {H : Type} : ∀ (l : List (Lit × DataW H)), (l.foldr DataW.insert []).Perm l
  | [] => .refl _
  | x :: l => by
    rw [List.foldr_cons]
    exact (insert_perm x _).trans ((foldr_insert_perm l).cons x)
def noR : Value → Option (DataW Unit × List MemPlace) := fun _ => some (.nil, [])
/-- A map of numbers, as the shelf tells it. -/
theorem mapS_owns {b : Nat} {l : List (Int × Value)} {w : World} {F : Nat → Prop} (h : (mapS b l).holds w F) (hl : l.length ≤ 1000000) (hw : ∀ p ∈ l, (Lit.int .i64 p.1).wf = true) :
    ∃ D : DataW Unit, w.ownsMap Try.prog 3 noR b l.length D ∧ (intKeys D).Perm (l.map (·.1)) ∧ Maps.size D = l.length := by
  obtain ⟨⟨es, ck, hb, hst, he⟩, _⟩ := h
  have hlen : es.size = l.length := by simpa [mEnt] using congrArg List.length he
  have hkey : ∀ x ∈ es.toList, ∃ a : Int, x.key = .int .i64 a ∧ (Lit.int .i64 a).wf = true ∧ WideElems.rd Try.prog 3 noR x = some (.int .i64 a, .nil) := by
    intro x hx
    have hm : entOf x ∈ mEnt l := he ▸ List.mem_map.2 ⟨x, hx, rfl⟩
    obtain ⟨p, hp, hpe⟩ := List.mem_map.1 hm
    simp only [entOf, Prod.mk.injEq] at hpe
    refine ⟨p.1, hpe.1.symm, hw p hp, ?_⟩
    unfold WideElems.rd
    rw [← hpe.1, keyOf_int_mk Try.underlying3 (hw p hp)]
    rfl
  have hrg : es.toList.map (WideElems.rg Try.prog 3 noR) = l.map (fun p => (Lit.int .i64 p.1, DataW.nil)) := by
    have h1 : ∀ x ∈ es.toList, WideElems.rg Try.prog 3 noR x = (match (entOf x).1 with | .int _ a => (Lit.int .i64 a, DataW.nil) | _ => (.bool false, .nil)) := by
      intro x hx
      obtain ⟨a, ha, _, hr⟩ := hkey x hx
      unfold WideElems.rg
      rw [hr, entOf, ha]; rfl
    have h2 : es.toList.map (WideElems.rg Try.prog 3 noR) = (es.toList.map entOf).map (fun z => (match z.1 with | .int _ a => (Lit.int .i64 a, (DataW.nil : DataW Unit)) | _ => (.bool false, .nil))) := by
      rw [List.map_map]
      exact List.map_congr_left h1
    rw [h2, he, mEnt, List.map_map]
    rfl
  refine ⟨_, ⟨es, ck, hb, ⟨by unfold maxLen; omega, hst, fun x hx => by obtain ⟨a, _, _, hr⟩ := hkey x hx; exact ⟨_, hr⟩⟩, by omega, rfl⟩, ?_, ?_⟩
  · rw [hrg]
    show (List.map (fun p : Lit × DataW Unit => Go.intOf p.1) _).Perm _
    refine ((foldr_insert_perm _).map _).trans ?_
    rw [List.map_map]
    exact .refl _
  · rw [hrg]
    show (List.foldr DataW.insert [] _).length = _
    rw [(foldr_insert_perm _).length_eq, List.length_map]
def sortI (l : List Int) : List Int := l.mergeSort fun x y => decide (x ≤ y)
theorem sortI_perm {l l' : List Int} (h : l.Perm l') : sortI l = sortI l' := mergeSort_of_perm_i h
theorem sortI_len (l : List Int) : (sortI l).length = l.length := List.length_mergeSort l
theorem sortI_mem {l : List Int} {x : Int} : x ∈ sortI l ↔ x ∈ l := (List.mergeSort_perm l _).mem_iff
abbrev kyF : Nat := 48
theorem keys_walk (H : List SP) (mb : Nat) : ∀ w, Sat w H → Calls Try.prog 34 #[.map (some mb)] w (Ret (ι := Nat) (fun b => .func (.func 48) #[] #[.pointer (some ⟨b, 0, none⟩)]) fun b => blk b 62 [.map (some mb)] :: H) := by
  intro w hs
  refine ((callsIn_wide (n := 1)).1 (AnyZI.keys_in LyK Fence.wide 1 trivial rfl (some mb) w)).mono ?_
  rintro e w' ⟨rfl, rfl⟩
  exact ⟨w.heap.size, rfl, Sat.fresh hs (Upd.alloc _ _ _) (G' := fun b => b = w.heap.size) ⟨Blk.new w _ _, fun _ => Iff.rfl⟩ (fun b hb => by omega)⟩
set_option maxRecDepth 100000 in
theorem sorted_walk (H : List SP) (b mb : Nat) (l : List (Int × Value)) (hl : l.length ≤ 1000000) (hwf : ∀ p ∈ l, (Lit.int .i64 p.1).wf = true) : ∀ w, Sat w (blk b 62 [.map (some mb)] :: mapS mb l :: H) → Calls Try.prog 33 #[.func (.func 48) #[] #[.pointer (some ⟨b, 0, none⟩)]] w
    (Ret (ι := Option Addr × Nat) (fun x => .slice x.1 (sortI (l.map (·.1))).length x.2) fun x => row intE 3 (.slice x.1 (sortI (l.map (·.1))).length x.2) (sortI (l.map (·.1))) :: blk b 62 [.map (some mb)] :: mapS mb l :: H) := by
  intro w hs
  obtain ⟨G1, ⟨hb, _⟩⟩ := hs.head
  obtain ⟨G2, hm⟩ := hs.tail.head
  obtain ⟨D, hown, hperm, hsize⟩ := mapS_owns hm hl hwf
  have hbl : b < w.heap.size := hb.lt
  have hcell : w.cell? ⟨b, 0, none⟩ = some (.map (some mb)) := hb.cell 0
  have hseq : SeqGives Fence.wide 2 Try.prog 48 #[.pointer (some ⟨b, 0, none⟩)] encZ (fun ss => ss.Perm (intKeys D)) (Maps.size D) w :=
    AnyZI.keys_gives (ρ := LyK_ren) { LyK with } Fence.wide _ trivial rfl (by omega) b mb l.length D w hbl hcell hown
  have cS := AnyZI.sorted_in LyO Fence.wide 5 trivial trivial trivial trivial rfl (by omega) (sortsIn _) (enters_of Try.func47 (by kernel_rfl) rfl) 48 #[.pointer (some ⟨b, 0, none⟩)] trivial (enters_of Try.func48 (by kernel_rfl) rfl) _ _ (by rw [hsize]; unfold maxLen; omega) (by rw [hsize]; omega) _ hseq
  refine (callsIn_wide.1 cS).mono ?_
  rintro e w' ⟨v, ss, rfl, hS, hrow, hnil, hbel⟩
  have hsort : ss.mergeSort (fun x y => decide (x ≤ y)) = sortI (l.map (·.1)) := mergeSort_of_perm_i (hS.trans hperm)
  have hlen : ss.length = (sortI (l.map (·.1))).length := by rw [← hsort, List.length_mergeSort]
  rw [hsort, hlen] at hrow
  have hflat : ∀ xs : List Int, intE.flat xs = xs.map encZ := by
    intro xs
    induction xs with
    | nil => rfl
    | cons a r ih =>
      show [Value.int .i64 a] ++ intE.flat r = _
      rw [ih]; rfl
  have hu : Upd NoB w w' := Upd.ofBelow hbel
  rcases hrow.2 with ⟨rfl, hz⟩ | ⟨g, cap, cur, rfl, hbase, hgb, r1, r2, r3, r4⟩
  · have h0 : sortI (l.map (·.1)) = [] := List.eq_nil_of_length_eq_zero hz
    refine ⟨(none, 0), by rw [hz], ?_⟩
    rw [h0]
    exact Sat.fresh hs hu (G' := NoB) (.inl ⟨rfl, rfl, rfl⟩) (fun _ h => h.elim)
  · refine ⟨(some ⟨g, 0, none⟩, cap), rfl, Sat.fresh hs hu (G' := OneB g) (.inr ⟨g, 0, cap, cur, rfl, rfl, hgb, r1, r2, ?_, ?_⟩) (fun b' hb' => by cases hb'; exact hbase)⟩
    · rw [r3]; show 0 + cap * 1 ≤ cap * 1; omega
    · rw [List.drop_zero, hflat]; exact r4
end Go.Proofs.Ytjbjngikaiggdaa
