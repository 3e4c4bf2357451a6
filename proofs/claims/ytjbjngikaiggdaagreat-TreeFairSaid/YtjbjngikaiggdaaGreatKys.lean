/- A map's keys, sorted: slices.Sorted(maps.Keys(m)), by the shelf's contracts. Conditions: none. -/
import Derived.Shelf.SlIterI.Sorted
import Derived.Shelf.SortM.Plain
import Derived.Shelf.SortM.SortNone
import Derived.Test.YtjbjngikaiggdaaGreatTm
set_option linter.unusedVariables false
set_option linter.unusedSimpArgs false
namespace Go.Proofs.YtjbjngikaiggdaaGreat
open Go.RowKit Go.Maps Go.Sort Go.Shelf G
def LyK_ren : Go.Shelf.Ren := ⟨fun | 7 => 31 | 10 => 43 | n => n, fun | 23 => 55 | 26 => 3 | 3 => 50 | 28 => 77 | 0 => 0 | 27 => 76 | 33 => 59 | 4 => 4 | n => n, fun | n => n⟩
theorem LyK : SlLaysZI.n7 Tryz.prog LyK_ren where
  mixed := by kernel_rfl
  f7 := ⟨ "maps.Keys[map[int]*tontine/tree.node,int,*tontine/tree.node]", by decide, Tryz.func31.trans (congrArg some (by kernel_rfl))⟩
  f10 := ⟨ "maps.Keys[map[int]*tontine/tree.node,int,*tontine/tree.node]$1", by decide, Tryz.func43.trans (congrArg some (by kernel_rfl))⟩
  t0 := Tryz.underlying0
  a0 := Tryz.isAgg0
  z0 := Tryz.sizeOf0
  v0 := Tryz.zeroValue0
  t4 := Tryz.underlying4
  a4 := Tryz.isAgg4
  z4 := Tryz.sizeOf4
  v4 := Tryz.zeroValue4
  t23 := Tryz.underlying55
  a23 := Tryz.isAgg55
  z23 := Tryz.sizeOf55
  v23 := Tryz.zeroValue55
  t26 := Tryz.underlying3
  a26 := Tryz.isAgg3
  z26 := Tryz.sizeOf3
  v26 := Tryz.zeroValue3
  t27 := Tryz.underlying76
  a27 := Tryz.isAgg76
  z27 := Tryz.sizeOf76
  v27 := Tryz.zeroValue76
  t28 := Tryz.underlying77
  a28 := Tryz.isAgg77
  z28 := Tryz.sizeOf77
  v28 := Tryz.zeroValue77
  t33 := Tryz.underlying59
  a33 := Tryz.isAgg59
  z33 := Tryz.sizeOf59
  v33 := Tryz.zeroValue59
def LyO_ren : Go.Shelf.Ren := ⟨fun | 6 => 30 | 8 => 41 | 9 => 42 | 11 => 50 | 13 => 52 | 12 => 51 | 23 => 67 | 24 => 68 | 14 => 58 | 15 => 59 | 16 => 60 | 17 => 61 | 18 => 62 | 19 => 63 | 20 => 64 | 21 => 65 | 22 => 66 | 25 => 80 | 26 => 81 | 27 => 82 | 28 => 83 | 29 => 84 | 30 => 79 | 31 => 89 | n => n, fun | 26 => 3 | 28 => 77 | 24 => 74 | 0 => 0 | 3 => 3 | 37 => 33 | 48 => 120 | 50 => 122 | 4 => 4 | 40 => 113 | 39 => 112 | 45 => 34 | 5 => 5 | 9 => 9 | 51 => 130 | 55 => 134 | 57 => 138 | 58 => 139 | 33 => 59 | n => n, fun | n => n⟩
theorem LyO : SlLaysZI.n6 Tryz.prog LyO_ren where
  mixed := by kernel_rfl
  f6 := ⟨ "slices.Sorted[int]", by decide, Tryz.func30.trans (congrArg some (by kernel_rfl))⟩
  f8 := ⟨ "slices.Collect[int]", by decide, Tryz.func41.trans (congrArg some (by kernel_rfl))⟩
  f11 := ⟨ "slices.AppendSeq[[]int,int]", by decide, Tryz.func50.trans (congrArg some (by kernel_rfl))⟩
  t0 := Tryz.underlying0
  a0 := Tryz.isAgg0
  z0 := Tryz.sizeOf0
  v0 := Tryz.zeroValue0
  t24 := Tryz.underlying74
  a24 := Tryz.isAgg74
  z24 := Tryz.sizeOf74
  v24 := Tryz.zeroValue74
  t26 := Tryz.underlying3
  a26 := Tryz.isAgg3
  z26 := Tryz.sizeOf3
  v26 := Tryz.zeroValue3
  t28 := Tryz.underlying77
  a28 := Tryz.isAgg77
  z28 := Tryz.sizeOf77
  v28 := Tryz.zeroValue77
  i26 := by kernel_rfl
def LyQ_ren : Go.Shelf.Ren := ⟨fun | 5 => 42 | 8 => 52 | 7 => 51 | 19 => 67 | 20 => 68 | 10 => 58 | 11 => 59 | 12 => 60 | 13 => 61 | 14 => 62 | 15 => 63 | 16 => 64 | 17 => 65 | 18 => 66 | 30 => 80 | 31 => 81 | 32 => 82 | 33 => 83 | 34 => 84 | 35 => 79 | 40 => 89 | n => n, fun | 23 => 74 | 25 => 3 | 3 => 3 | 32 => 33 | 22 => 74 | 0 => 0 | 44 => 120 | 46 => 122 | 4 => 4 | 36 => 113 | 35 => 112 | 41 => 34 | 5 => 5 | 9 => 9 | 53 => 130 | 57 => 134 | 63 => 138 | 64 => 139 | n => n, fun | n => n⟩
theorem LyQ : SlLaysM.n5 Tryz.prog LyQ_ren where
  mixed := by kernel_rfl
  f5 := ⟨ "slices.Sort[[]int,int]", by decide, Tryz.func42.trans (congrArg some (by kernel_rfl))⟩
  f7 := ⟨ "slices.pdqsortOrdered[int]", by decide, Tryz.func51.trans (congrArg some (by kernel_rfl))⟩
  f8 := Tryz.func52.trans (congrArg some (by kernel_rfl))
  f10 := ⟨ "slices.insertionSortOrdered[int]", by decide, Tryz.func58.trans (congrArg some (by kernel_rfl))⟩
  f11 := ⟨ "slices.heapSortOrdered[int]", by decide, Tryz.func59.trans (congrArg some (by kernel_rfl))⟩
  f12 := ⟨ "slices.breakPatternsOrdered[int]", by decide, Tryz.func60.trans (congrArg some (by kernel_rfl))⟩
  f13 := ⟨ "slices.choosePivotOrdered[int]", by decide, Tryz.func61.trans (congrArg some (by kernel_rfl))⟩
  f14 := ⟨ "slices.reverseRangeOrdered[int]", by decide, Tryz.func62.trans (congrArg some (by kernel_rfl))⟩
  f15 := ⟨ "slices.partialInsertionSortOrdered[int]", by decide, Tryz.func63.trans (congrArg some (by kernel_rfl))⟩
  f16 := ⟨ "cmp.Less[int]", by decide, Tryz.func64.trans (congrArg some (by kernel_rfl))⟩
  f17 := ⟨ "slices.partitionEqualOrdered[int]", by decide, Tryz.func65.trans (congrArg some (by kernel_rfl))⟩
  f18 := ⟨ "slices.partitionOrdered[int]", by decide, Tryz.func66.trans (congrArg some (by kernel_rfl))⟩
  f19 := Tryz.func67.trans (congrArg some (by kernel_rfl))
  f20 := Tryz.func68.trans (congrArg some (by kernel_rfl))
  f30 := ⟨ "slices.siftDownOrdered[int]", by decide, Tryz.func80.trans (congrArg some (by kernel_rfl))⟩
  f31 := Tryz.func81.trans (congrArg some (by kernel_rfl))
  f32 := Tryz.func82.trans (congrArg some (by kernel_rfl))
  f33 := ⟨ "slices.medianAdjacentOrdered[int]", by decide, Tryz.func83.trans (congrArg some (by kernel_rfl))⟩
  f34 := ⟨ "slices.medianOrdered[int]", by decide, Tryz.func84.trans (congrArg some (by kernel_rfl))⟩
  f35 := ⟨ "cmp.isNaN[int]", by decide, Tryz.func79.trans (congrArg some (by kernel_rfl))⟩
  f40 := ⟨ "slices.order2Ordered[int]", by decide, Tryz.func89.trans (congrArg some (by kernel_rfl))⟩
  t0 := Tryz.underlying0
  a0 := Tryz.isAgg0
  z0 := Tryz.sizeOf0
  v0 := Tryz.zeroValue0
  t3 := Tryz.underlying3
  a3 := Tryz.isAgg3
  z3 := Tryz.sizeOf3
  v3 := Tryz.zeroValue3
  t4 := Tryz.underlying4
  a4 := Tryz.isAgg4
  z4 := Tryz.sizeOf4
  v4 := Tryz.zeroValue4
  t5 := Tryz.underlying5
  a5 := Tryz.isAgg5
  z5 := Tryz.sizeOf5
  v5 := Tryz.zeroValue5
  t9 := Tryz.underlying9
  a9 := Tryz.isAgg9
  z9 := Tryz.sizeOf9
  v9 := Tryz.zeroValue9
  t22 := Tryz.underlying74
  a22 := Tryz.isAgg74
  z22 := Tryz.sizeOf74
  v22 := Tryz.zeroValue74
  t23 := Tryz.underlying74
  a23 := Tryz.isAgg74
  z23 := Tryz.sizeOf74
  v23 := Tryz.zeroValue74
  t25 := Tryz.underlying3
  a25 := Tryz.isAgg3
  z25 := Tryz.sizeOf3
  v25 := Tryz.zeroValue3
  t32 := Tryz.underlying33
  a32 := Tryz.isAgg33
  z32 := Tryz.sizeOf33
  v32 := Tryz.zeroValue33
  t35 := Tryz.underlying112
  a35 := Tryz.isAgg112
  z35 := Tryz.sizeOf112
  v35 := Tryz.zeroValue112
  t36 := Tryz.underlying113
  a36 := Tryz.isAgg113
  z36 := Tryz.sizeOf113
  v36 := Tryz.zeroValue113
  t41 := Tryz.underlying34
  a41 := Tryz.isAgg34
  z41 := Tryz.sizeOf34
  v41 := Tryz.zeroValue34
  t44 := Tryz.underlying120
  a44 := Tryz.isAgg120
  z44 := Tryz.sizeOf120
  v44 := Tryz.zeroValue120
  t46 := Tryz.underlying122
  a46 := Tryz.isAgg122
  z46 := Tryz.sizeOf122
  v46 := Tryz.zeroValue122
  t53 := Tryz.underlying130
  a53 := Tryz.isAgg130
  z53 := Tryz.sizeOf130
  v53 := Tryz.zeroValue130
  t57 := Tryz.underlying134
  a57 := Tryz.isAgg134
  z57 := Tryz.sizeOf134
  v57 := Tryz.zeroValue134
  t63 := Tryz.underlying138
  a63 := Tryz.isAgg138
  z63 := Tryz.sizeOf138
  v63 := Tryz.zeroValue138
  t64 := Tryz.underlying139
  a64 := Tryz.isAgg139
  z64 := Tryz.sizeOf139
  v64 := Tryz.zeroValue139
theorem sortsIn (m : Nat) : AnyZI.SortsIn Tryz.prog LyO_ren Fence.wide m :=
  ⟨fun blk off cap ss W hH hblk hsz => callsIn_wide.2 (AnyM.slices_Sort_int LyQ blk off cap ss W hH hblk hsz),
   fun p cap W => callsIn_wide.2 (AnyM.slices_Sort_int_none LyQ p cap W)⟩
theorem insert_perm {H : Type} (x : Lit × DataW H) : ∀ (l : List (Lit × DataW H)), (DataW.insert x l).Perm (x :: l)
  | [] => .refl _
  | y :: r => by
    unfold DataW.insert
    split
    · exact .refl _
    · exact ((insert_perm x r).cons y).trans (.swap _ _ _)
theorem foldr_insert_perm {H : Type} : ∀ (l : List (Lit × DataW H)), (l.foldr DataW.insert []).Perm l
  | [] => .refl _
  | x :: l => by
    rw [List.foldr_cons]
    exact (insert_perm x _).trans ((foldr_insert_perm l).cons x)
def noR : Value → Option (DataW Unit × List MemPlace) := fun _ => some (.nil, [])
/-- A map of numbers, as the shelf tells it. -/
theorem mapS_owns {b : Nat} {l : List (Int × Value)} {w : World} {F : Nat → Prop} (h : (mapS b l).holds w F) (hl : l.length ≤ 1000000) (hw : ∀ p ∈ l, (Lit.int .i64 p.1).wf = true) :
    ∃ D : DataW Unit, w.ownsMap Tryz.prog 3 noR b l.length D ∧ (intKeys D).Perm (l.map (·.1)) ∧ Maps.size D = l.length := by
  obtain ⟨⟨es, ck, hb, hst, he⟩, _⟩ := h
  have hlen : es.size = l.length := by simpa [mEnt] using congrArg List.length he
  have hkey : ∀ x ∈ es.toList, ∃ a : Int, x.key = .int .i64 a ∧ (Lit.int .i64 a).wf = true ∧ WideElems.rd Tryz.prog 3 noR x = some (.int .i64 a, .nil) := by
    intro x hx
    have hm : entOf x ∈ mEnt l := he ▸ List.mem_map.2 ⟨x, hx, rfl⟩
    obtain ⟨p, hp, hpe⟩ := List.mem_map.1 hm
    simp only [entOf, Prod.mk.injEq] at hpe
    refine ⟨p.1, hpe.1.symm, hw p hp, ?_⟩
    unfold WideElems.rd
    rw [← hpe.1, keyOf_int_mk Tryz.underlying3 (hw p hp)]
    rfl
  have hrg : es.toList.map (WideElems.rg Tryz.prog 3 noR) = l.map (fun p => (Lit.int .i64 p.1, DataW.nil)) := by
    have h1 : ∀ x ∈ es.toList, WideElems.rg Tryz.prog 3 noR x = (match (entOf x).1 with | .int _ a => (Lit.int .i64 a, DataW.nil) | _ => (.bool false, .nil)) := by
      intro x hx
      obtain ⟨a, ha, _, hr⟩ := hkey x hx
      unfold WideElems.rg
      rw [hr, entOf, ha]; rfl
    have h2 : es.toList.map (WideElems.rg Tryz.prog 3 noR) = (es.toList.map entOf).map (fun z => (match z.1 with | .int _ a => (Lit.int .i64 a, (DataW.nil : DataW Unit)) | _ => (.bool false, .nil))) := by
      rw [List.map_map]
      exact List.map_congr_left h1
    rw [h2, he, mEnt, List.map_map]
    rfl
  refine ⟨_, ⟨es, ck, hb, ⟨by unfold maxLen; omega, hst, fun x hx => by obtain ⟨a, _, _, hr⟩ := hkey x hx; exact ⟨_, hr⟩⟩, by omega, rfl⟩, ?_, ?_⟩
  · rw [hrg]
    show (List.map (fun p : Lit × DataW Unit => Go.intOf p.1) _).Perm _
    refine ((foldr_insert_perm _).map _).trans ?_
    rw [List.map_map]
    exact .refl _
  · rw [hrg]
    show (List.foldr DataW.insert [] _).length = _
    rw [(foldr_insert_perm _).length_eq, List.length_map]
def sortI (l : List Int) : List Int := l.mergeSort fun x y => decide (x ≤ y)
theorem sortI_perm {l l' : List Int} (h : l.Perm l') : sortI l = sortI l' := mergeSort_of_perm_i h
theorem sortI_len (l : List Int) : (sortI l).length = l.length := List.length_mergeSort l
theorem sortI_mem {l : List Int} {x : Int} : x ∈ sortI l ↔ x ∈ l := (List.mergeSort_perm l _).mem_iff
abbrev kyF : Nat := 43
theorem keys_walk (H : List SP) (mb : Nat) : ∀ w, Sat w H → Calls Tryz.prog 31 #[.map (some mb)] w (Ret (ι := Nat) (fun b => .func (.func 43) #[] #[.pointer (some ⟨b, 0, none⟩)]) fun b => blk b 55 [.map (some mb)] :: H) := by
  intro w hs
  refine ((callsIn_wide (n := 1)).1 (AnyZI.keys_in LyK Fence.wide 1 trivial rfl (some mb) w)).mono ?_
  rintro e w' ⟨rfl, rfl⟩
  exact ⟨w.heap.size, rfl, Sat.fresh hs (Upd.alloc _ _ _) (G' := fun b => b = w.heap.size) ⟨Blk.new w _ _, fun _ => Iff.rfl⟩ (fun b hb => by omega)⟩
set_option maxRecDepth 100000 in
theorem sorted_walk (H : List SP) (b mb : Nat) (l : List (Int × Value)) (hl : l.length ≤ 1000000) (hwf : ∀ p ∈ l, (Lit.int .i64 p.1).wf = true) : ∀ w, Sat w (blk b 55 [.map (some mb)] :: mapS mb l :: H) → Calls Tryz.prog 30 #[.func (.func 43) #[] #[.pointer (some ⟨b, 0, none⟩)]] w
    (Ret (ι := Option Addr × Nat) (fun x => .slice x.1 (sortI (l.map (·.1))).length x.2) fun x => row intE 3 (.slice x.1 (sortI (l.map (·.1))).length x.2) (sortI (l.map (·.1))) :: blk b 55 [.map (some mb)] :: mapS mb l :: H) := by
  intro w hs
  obtain ⟨G1, ⟨hb, _⟩⟩ := hs.head
  obtain ⟨G2, hm⟩ := hs.tail.head
  obtain ⟨D, hown, hperm, hsize⟩ := mapS_owns hm hl hwf
  have hbl : b < w.heap.size := hb.lt
  have hcell : w.cell? ⟨b, 0, none⟩ = some (.map (some mb)) := hb.cell 0
  have hseq : SeqGives Fence.wide 2 Tryz.prog 43 #[.pointer (some ⟨b, 0, none⟩)] encZ (fun ss => ss.Perm (intKeys D)) (Maps.size D) w :=
    AnyZI.keys_gives (ρ := LyK_ren) { LyK with } Fence.wide _ trivial rfl (by omega) b mb l.length D w hbl hcell hown
  have cS := AnyZI.sorted_in LyO Fence.wide 5 trivial trivial trivial trivial rfl (by omega) (sortsIn _) (enters_of Tryz.func42 (by kernel_rfl) rfl) 43 #[.pointer (some ⟨b, 0, none⟩)] trivial (enters_of Tryz.func43 (by kernel_rfl) rfl) _ _ (by rw [hsize]; unfold maxLen; omega) (by rw [hsize]; omega) _ hseq
  refine (callsIn_wide.1 cS).mono ?_
  rintro e w' ⟨v, ss, rfl, hS, hrow, hnil, hbel⟩
  have hsort : ss.mergeSort (fun x y => decide (x ≤ y)) = sortI (l.map (·.1)) := mergeSort_of_perm_i (hS.trans hperm)
  have hlen : ss.length = (sortI (l.map (·.1))).length := by rw [← hsort, List.length_mergeSort]
  rw [hsort, hlen] at hrow
  have hflat : ∀ xs : List Int, intE.flat xs = xs.map encZ := by
    intro xs
    induction xs with
    | nil => rfl
    | cons a r ih =>
      show [Value.int .i64 a] ++ intE.flat r = _
      rw [ih]; rfl
  have hu : Upd NoB w w' := Upd.ofBelow hbel
  rcases hrow.2 with ⟨rfl, hz⟩ | ⟨g, cap, cur, rfl, hbase, hgb, r1, r2, r3, r4⟩
  · have h0 : sortI (l.map (·.1)) = [] := List.eq_nil_of_length_eq_zero hz
    refine ⟨(none, 0), by rw [hz], ?_⟩
    rw [h0]
    exact Sat.fresh hs hu (G' := NoB) (.inl ⟨rfl, rfl, rfl⟩) (fun _ h => h.elim)
  · refine ⟨(some ⟨g, 0, none⟩, cap), rfl, Sat.fresh hs hu (G' := OneB g) (.inr ⟨g, 0, cap, cur, rfl, rfl, hgb, r1, r2, ?_, ?_⟩) (fun b' hb' => by cases hb'; exact hbase)⟩
    · rw [r3]; show 0 + cap * 1 ≤ cap * 1; omega
    · rw [List.drop_zero, hflat]; exact r4
end Go.Proofs.YtjbjngikaiggdaaGreat
