/- share.Counts: its walk. Conditions: none. -/
import Derived.Test.YtjjbnmlhbbnhcaaSh1
set_option linter.unusedVariables false
set_option linter.unusedSimpArgs false
namespace Go.Proofs.Ytjjbnmlhbbnhcaa
open Go.RowKit G
theorem kE_ety : Ety Try.prog (kE .i64) 3 (.int .i64 0) := G.Ety.of (b := 8) (by kernel_rfl) (by decide) (by kernel_rfl)
theorem minus1 : floatOfInt .f64 (-1) = 13830554455654793216 := by decide +kernel
def leftOf (frame : Int) (l : List (Int × Int)) : Int := l.foldl (fun a p => a - p.1) frame
theorem leftOf_snoc (frame : Int) (l : List (Int × Int)) (p : Int × Int) : leftOf frame (l ++ [p]) = leftOf frame l - p.1 := by simp [leftOf, List.foldl_append]
theorem leftOf_bounds : ∀ (l : List (Int × Int)) (f : Int), (∀ p ∈ l, 0 ≤ p.1 ∧ p.1 ≤ 64000) → f - 64000 * l.length ≤ leftOf f l ∧ leftOf f l ≤ f
  | [], f, _ => by simp [leftOf]
  | p :: l, f, h => by
    have h1 := leftOf_bounds l (f - p.1) (fun q hq => h q (by simp [hq]))
    have h2 := h p (by simp)
    have h3 : leftOf f (p :: l) = leftOf (f - p.1) l := rfl
    rw [h3, List.length_cons]
    push_cast
    omega
/-- One more to him who has the greatest rest. -/
def stp (l : List (Int × Int)) : List (Int × Int) := l.set (grAt l l.length) ((l.getD (grAt l l.length) (0, 0)).1 + 1, -1)
def stpN (l : List (Int × Int)) : Nat → List (Int × Int) | 0 => l | n + 1 => stp (stpN l n)
def countsOf (frame : Int) (l : List Int) : List Int := if (shSum frame l == 0) = true then [] else (stpN (partsOf frame (shSum frame l) l) (leftOf frame (partsOf frame (shSum frame l) l)).toNat).map Prod.fst
theorem shSum_good {frame : Int} {l : List Int} (h : ¬ (shSum frame l == 0) = true) : (1 ≤ frame ∧ frame ≤ 64) ∧ 0 < shSum frame l ∧ l.length ≤ 6 ∧ 1 ≤ l.length ∧ (l.all fun s => !shBad s) = true ∧ shSum frame l = sumI l := by
  have h0 : shSum frame l ≠ 0 := by simpa using h
  unfold shSum at h0 ⊢
  split at h0
  · exact absurd rfl h0
  · rename_i hb
    split at h0
    · exact absurd rfl h0
    · rename_i ha
      have ha' : (l.all fun s => !shBad s) = true := by simpa using ha
      have hb' : shBadF frame l = false := by simpa using hb
      rw [if_neg hb, if_neg ha]
      have := sumI_bounds l ha'
      simp only [shBadF, Bool.or_eq_false_iff, decide_eq_false_iff_not] at hb'
      exact ⟨by omega, by omega, by omega, by omega, ha', rfl⟩
theorem parts_bounds {frame all : Int} {l : List Int} (hf : 1 ≤ frame ∧ frame ≤ 64) (ha : 0 < all) (hs : (l.all fun x => !shBad x) = true) (hl : all ≤ 6000) : ∀ p ∈ partsOf frame all l, 0 ≤ p.1 ∧ p.1 ≤ 64000 ∧ 0 ≤ p.2 ∧ p.2 < 6000 := by
  intro p hp
  obtain ⟨y, hy, rfl⟩ := List.mem_map.1 hp
  have hyb : 0 ≤ y ∧ y ≤ 1000 := by have := List.all_eq_true.1 hs y hy; simp only [shBad, Bool.not_eq_true', Bool.or_eq_false_iff, decide_eq_false_iff_not] at this; omega
  have hm1 : 0 ≤ frame * y := Int.mul_nonneg (by omega) hyb.1
  have hm2 : frame * y ≤ 64 * 1000 := Int.mul_le_mul hf.2 hyb.2 hyb.1 (by omega)
  have := tdiv_bounds hm1 ha
  dsimp only
  omega
set_option maxHeartbeats 1000000 in
set_option maxRecDepth 100000 in
theorem counts_walk (H : List SP) (frame : Int) (s : SV Int) (hk : KR H (kE .i64) s) : ∀ w, Sat w H → Calls Try.prog 23 #[.int .i64 frame, .slice s.a s.l.length s.c] w (Ret (ι := Option Addr × Nat) (fun p => .slice p.1 (countsOf frame s.l).length p.2) fun p => row (kE .i64) 3 (.slice p.1 (countsOf frame s.l).length p.2) (countsOf frame s.l) :: H) := by
  refine enterG (fn := Try.f23) 66 [.int .i64 frame, .slice s.a s.l.length s.c] Try.func23 (by kernel_rfl) (by kernel_rfl) (by kernel_rfl) ?_
  refine seqR (by kernel_rfl) ?_
  refine regionR 1 (by kernel_rfl) (by kernel_rfl) ?_
  refine (run0 (z := 0) 1 [0, 1, 4] [(0, .int .i64 frame), (1, .slice s.a s.l.length s.c), (4, .slice none 0 0)] (fun _ => by kernel_rfl) (endR ?_) : RT _ _ _ _ _ _ 1 _)
  refine seqR (by kernel_rfl) ?_
  refine regionR 4 (by kernel_rfl) (by kernel_rfl) ?_
  refine (run0 (z := 2) 2 [0, 1, 4, 14, 15] [(0, .int .i64 frame), (1, .slice s.a s.l.length s.c), (4, .slice none 0 0), (14, .int .i64 frame), (15, .slice s.a s.l.length s.c)] (fun _ => by kernel_rfl) ?_ : RT _ _ _ _ _ _ 4 _)
  refine (stepR (z := 1) (callS 40 [.int .i64 frame, .slice s.a s.l.length s.c] (some 16) (fun _ => .int .i64 (shSum frame s.l)) (fun _ => (H)) (fun _ => by kernel_rfl) (shSum_walk _ frame s hk)) (fun _ => ?_) : RT _ _ _ _ _ _ 2 _)
  refine (run0 (z := 0) 1 [0, 1, 4, 5] [(0, .int .i64 frame), (1, .slice s.a s.l.length s.c), (4, .slice none 0 0), (5, .int .i64 (shSum frame s.l))] (fun _ => by kernel_rfl) (endR ?_) : RT _ _ _ _ _ _ 1 _)
  refine seqR (by kernel_rfl) ?_
  refine seqR (by kernel_rfl) ?_
  refine regionR 2 (by kernel_rfl) (by kernel_rfl) ?_
  refine (run0 (z := 0) 2 [0, 1, 4, 5, 18] [(0, .int .i64 frame), (1, .slice s.a s.l.length s.c), (4, .slice none 0 0), (5, .int .i64 (shSum frame s.l)), (18, .bool ((shSum frame s.l) == 0))] (fun _ => by kernel_rfl) (endR ?_) : RT _ _ _ _ _ _ 2 _)
  refine condR (b := (shSum frame s.l) == 0) (by kernel_rfl) (fun _ => by kernel_rfl) (fun hz => ?_) (fun hz => ?_)
  · skip
    refine seqR (by kernel_rfl) ?_
    refine regionR 1 (by kernel_rfl) (by kernel_rfl) ?_
    refine (run0 (z := 0) 1 [0, 1, 4, 5] [(0, .int .i64 frame), (1, .slice s.a s.l.length s.c), (4, .slice none 0 0), (5, .int .i64 (shSum frame s.l))] (fun _ => by kernel_rfl) (endR ?_) : RT _ _ _ _ _ _ 1 _)
    refine retR (by kernel_rfl) ?_
    refine thenV ?_
    refine PT.rowNil (kE .i64) 3 ?_
    refine done0 (.slice none 0 0) (fun _ => by kernel_rfl) (fun w hs => ?_) .ret (.inr rfl)
    rw [countsOf, if_pos hz]; exact ⟨(none, 0), rfl, hs⟩
  · skip
    have hz' : ¬ (shSum frame s.l == 0) = true := by rw [hz]; simp
    obtain ⟨hf, ha, hl6, hl1, hsh, hsum⟩ := shSum_good hz'
    have hsb := sumI_bounds s.l hsh
    refine skipR (by kernel_rfl) ?_
    refine seqR (by kernel_rfl) ?_
    refine regionR 5 (by kernel_rfl) (by kernel_rfl) ?_
    refine (run0 (z := 2) 3 [0, 4, 19, 20, 21] [(0, .int .i64 frame), (4, .slice none 0 0), (19, .int .i64 frame), (20, .slice s.a s.l.length s.c), (21, .int .i64 (shSum frame s.l))] (fun _ => by kernel_rfl) ?_ : RT _ _ _ _ _ _ 5 _)
    refine (stepR (z := 1) (callS 41 [.int .i64 frame, .slice s.a s.l.length s.c, .int .i64 (shSum frame s.l)] (some 22) (fun (r : Option Addr × Nat) => .slice r.1 (partsOf frame (shSum frame s.l) s.l).length r.2) (fun (r : Option Addr × Nat) => row pE 59 (.slice r.1 (partsOf frame (shSum frame s.l) s.l).length r.2) (partsOf frame (shSum frame s.l) s.l) :: H) (fun _ => by kernel_rfl) (parts_walk _ frame (shSum frame s.l) s hk hf ha hl6 hsh)) (fun (r : Option Addr × Nat) => ?_) : RT _ _ _ _ _ _ 2 _)
    have hb0 := parts_bounds hf ha hsh (by rw [hsum]; omega)
    have hlen0 : (partsOf frame (shSum frame s.l) s.l).length = s.l.length := by simp [partsOf]
    have hcnt : countsOf frame s.l = (stpN (partsOf frame (shSum frame s.l) s.l) (leftOf frame (partsOf frame (shSum frame s.l) s.l)).toNat).map Prod.fst := by rw [countsOf, if_neg hz']
    obtain ⟨A, cap⟩ := r
    generalize partsOf frame (shSum frame s.l) s.l = l0 at *
    dsimp only at *
    refine PT.know (KR.isSome (s := ⟨A, cap, l0⟩) rowKR (List.ne_nil_of_length_pos (by show 0 < l0.length; omega))) ?_
    rintro ⟨sb, so, hA⟩
    dsimp only at hA
    subst hA
    refine (run0 (z := 0) 1 [0, 4, 6] [(0, .int .i64 frame), (4, .slice none 0 0), (6, .slice (some ⟨sb, so, none⟩) l0.length cap)] (fun _ => by kernel_rfl) (endR ?_) : RT _ _ _ _ _ _ 1 _)
    refine seqR (by kernel_rfl) ?_
    refine regionR 2 (by kernel_rfl) (by kernel_rfl) ?_
    refine (run0 (z := 0) 2 [4, 6, 7] [(4, .slice none 0 0), (6, .slice (some ⟨sb, so, none⟩) l0.length cap), (7, .int .i64 frame)] (fun _ => by kernel_rfl) (endR ?_) : RT _ _ _ _ _ _ 2 _)
    refine seqR (by kernel_rfl) ?_
    refine seqR (by kernel_rfl) ?_
    refine regionR 3 (by kernel_rfl) (by kernel_rfl) ?_
    refine (run0 (z := 0) 3 [4, 6, 7, 24, 25, 26] [(4, .slice none 0 0), (6, .slice (some ⟨sb, so, none⟩) l0.length cap), (7, .int .i64 frame), (24, .slice (some ⟨sb, so, none⟩) l0.length cap), (25, .int .i64 (l0.length : Int)), (26, .int .i64 0)] (fun _ => by kernel_rfl) (endR ?_) : RT _ _ _ _ _ _ 3 _)
    refine blockR 0 (by kernel_rfl) (by kernel_rfl) ?_
    refine PT.keep (L' := [(4, .slice none 0 0), (6, .slice (some ⟨sb, so, none⟩) l0.length cap), (7, .int .i64 frame), (24, .slice (some ⟨sb, so, none⟩) l0.length cap), (25, .int .i64 (l0.length : Int)), (26, .int .i64 0)]) [4, 6, 7, 24, 25, 26] rfl ?_
    refine loopG (fun (i : Nat) => [(4, .slice none 0 0), (6, .slice (some ⟨sb, so, none⟩) l0.length cap), (7, .int .i64 (leftOf frame (l0.take i))), (24, .slice (some ⟨sb, so, none⟩) l0.length cap), (25, .int .i64 (l0.length : Int)), (26, .int .i64 (i : Int))]) (fun (i : Nat) => (row pE 59 (.slice (some ⟨sb, so, none⟩) l0.length cap) l0 :: H)) (fun k (i : Nat) => k + i = l0.length) l0.length 0 (by kernel_rfl) (by omega) ?_
    rintro k i hki
    have hw : IntKind.i64.wrap ((i : Int) + 1) = ((i + 1 : Nat) : Int) := by rw [IntKind.wrap_i64]; omega
    refine seqR (by kernel_rfl) ?_
    refine regionR 1 (by kernel_rfl) (by kernel_rfl) ?_
    refine (run0 (z := 0) 1 [4, 6, 7, 24, 25, 26, 27] [(4, .slice none 0 0), (6, .slice (some ⟨sb, so, none⟩) l0.length cap), (7, .int .i64 (leftOf frame (l0.take i))), (24, .slice (some ⟨sb, so, none⟩) l0.length cap), (25, .int .i64 (l0.length : Int)), (26, .int .i64 (i : Int)), (27, .bool (decide ((i : Int) < (l0.length : Int))))] (fun _ => by kernel_rfl) (endR ?_) : RT _ _ _ _ _ _ 1 _)
    refine seqR (by kernel_rfl) ?_
    refine condR (b := decide ((i : Int) < (l0.length : Int))) (by kernel_rfl) (fun _ => by kernel_rfl) (fun h => ?_) (fun h => ?_)
    · skip
      have hi : i < l0.length := by have := of_decide_eq_true h; omega
      obtain ⟨p, hp⟩ : ∃ p, l0[i]? = some p := ⟨_, by simp [hi]; rfl⟩
      have hpm : p ∈ l0 := List.mem_of_getElem? hp
      have hpb := hb0 p hpm
      have ht : l0.take (i + 1) = l0.take i ++ [p] := by rw [List.take_add_one, hp]; rfl
      have hlb := leftOf_bounds (l0.take i) frame (fun q hq => ⟨(hb0 q (List.mem_of_mem_take hq)).1, (hb0 q (List.mem_of_mem_take hq)).2.1⟩)
      have hltk : (l0.take i).length ≤ 6 := by rw [List.length_take]; omega
      have hwl : IntKind.i64.wrap (leftOf frame (l0.take i) - p.1) = leftOf frame (l0.take (i + 1)) := by rw [ht, leftOf_snoc, IntKind.wrap_i64]; omega
      refine skipR (by kernel_rfl) ?_
      refine seqR (by kernel_rfl) ?_
      refine blockR 1 (by kernel_rfl) (by kernel_rfl) ?_
      refine seqR (by kernel_rfl) ?_
      refine regionR 3 (by kernel_rfl) (by kernel_rfl) ?_
      refine (stepR (z := 2) (yldS (idxY 58 (.tmp 24) (.tmp 26) sb so l0.length cap i 1 59 (i : Int) .i64 (some 28) (fun _ => by kernel_rfl) (by kernel_rfl) (by kernel_rfl) (fun _ => by kernel_rfl) (fun _ => by kernel_rfl) Try.underlying58 (by kernel_rfl) (by first | rfl | assumption | simp) (by first | omega | (simp; done) | (simp; omega) | (simp at *; omega)))) (fun _ => ?_) : RT _ _ _ _ _ _ 3 _)
      refine (runR (H := (row pE 59 (.slice (some ⟨sb, so, none⟩) l0.length cap) l0 :: H)) (z := 0) 2 [4, 6, 7, 24, 25, 26, 9] [(4, .slice none 0 0), (6, .slice (some ⟨sb, so, none⟩) l0.length cap), (7, .int .i64 (leftOf frame (l0.take i))), (24, .slice (some ⟨sb, so, none⟩) l0.length cap), (25, .int .i64 (l0.length : Int)), (26, .int .i64 (i : Int)), (9, .complex .f64 (floatOfInt .f64 p.1) (floatOfInt .f64 p.2))] [(⟨sb, so + i * 1, none⟩, .complex .f64 (floatOfInt .f64 p.1) (floatOfInt .f64 p.2))] (hasC (rowKR.cell rfl (i := i) (x := p) hp (j := 0) rfl) has0) (fun _ => by kernel_rfl) (endR ?_) : RT _ _ _ _ _ _ 2 _)
      refine regionR 6 (by kernel_rfl) (by kernel_rfl) ?_
      refine (run0 (z := 3) 3 [4, 6, 7, 24, 25, 26, 30, 32] [(4, .slice none 0 0), (6, .slice (some ⟨sb, so, none⟩) l0.length cap), (7, .int .i64 (leftOf frame (l0.take i))), (24, .slice (some ⟨sb, so, none⟩) l0.length cap), (25, .int .i64 (l0.length : Int)), (26, .int .i64 (i : Int)), (30, .int .i64 (leftOf frame (l0.take i))), (32, .float .f64 (floatOfInt .f64 p.1))] (fun _ => by kernel_rfl) ?_ : RT _ _ _ _ _ _ 6 _)
      refine (stepR (z := 2) (yldS (cvtY 60 3 (.tmp 32) (.float .f64 (floatOfInt .f64 p.1)) (.int .i64 p.1) (some 33) (fun _ => by kernel_rfl) (by kernel_rfl) (by kernel_rfl) (fun _ => by kernel_rfl) (cvt_int (by omega)))) (fun _ => ?_) : RT _ _ _ _ _ _ 3 _)
      refine (run0 (z := 0) 2 [4, 6, 7, 24, 25, 26] [(4, .slice none 0 0), (6, .slice (some ⟨sb, so, none⟩) l0.length cap), (7, .int .i64 (IntKind.i64.wrap ((leftOf frame (l0.take i)) - p.1))), (24, .slice (some ⟨sb, so, none⟩) l0.length cap), (25, .int .i64 (l0.length : Int)), (26, .int .i64 (i : Int))] (fun _ => by kernel_rfl) (endR ?_) : RT _ _ _ _ _ _ 2 _)
      refine regionR 2 (by kernel_rfl) (by kernel_rfl) ?_
      refine (run0 (z := 0) 2 [4, 6, 7, 24, 25, 26] [(4, .slice none 0 0), (6, .slice (some ⟨sb, so, none⟩) l0.length cap), (7, .int .i64 (IntKind.i64.wrap ((leftOf frame (l0.take i)) - p.1))), (24, .slice (some ⟨sb, so, none⟩) l0.length cap), (25, .int .i64 (l0.length : Int)), (26, .int .i64 (IntKind.i64.wrap ((i : Int) + 1)))] (fun _ => by kernel_rfl) (endR ?_) : RT _ _ _ _ _ _ 2 _)
      refine PT.keep (L' := [(4, .slice none 0 0), (6, .slice (some ⟨sb, so, none⟩) l0.length cap), (7, .int .i64 (IntKind.i64.wrap ((leftOf frame (l0.take i)) - p.1))), (24, .slice (some ⟨sb, so, none⟩) l0.length cap), (25, .int .i64 (l0.length : Int)), (26, .int .i64 (IntKind.i64.wrap ((i : Int) + 1)))]) [4, 6, 7, 24, 25, 26] rfl ?_
      exact againG (k - 1) (i + 1) (by rw [hw, hwl]) rfl (by omega) (by omega)
    · skip
      have hi : i = l0.length := by have := of_decide_eq_false h; omega
      rw [hi, List.take_length]
      obtain ⟨left, hleft⟩ : ∃ left, left = leftOf frame l0 := ⟨_, rfl⟩
      have hlb := leftOf_bounds l0 frame (fun q hq => ⟨(hb0 q hq).1, (hb0 q hq).2.1⟩)
      rw [← hleft] at hcnt hlb ⊢
      obtain ⟨n0, hn0⟩ : ∃ n0, n0 = l0.length := ⟨_, rfl⟩
      rw [← hn0]
      refine exitR 0 (by kernel_rfl) (by kernel_rfl) ?_
      refine thenX ?_
      refine thenX ?_
      refine leaveR ?_
      refine seqR (by kernel_rfl) ?_
      refine seqR (by kernel_rfl) ?_
      refine regionR 2 (by kernel_rfl) (by kernel_rfl) ?_
      refine (run0 (z := 0) 2 [4, 6, 36, 37] [(4, .slice none 0 0), (6, .slice (some ⟨sb, so, none⟩) n0 cap), (36, .int .i64 left), (37, .int .i64 0)] (fun _ => by kernel_rfl) (endR ?_) : RT _ _ _ _ _ _ 2 _)
      refine blockR 2 (by kernel_rfl) (by kernel_rfl) ?_
      refine PT.keep (L' := [(4, .slice none 0 0), (6, .slice (some ⟨sb, so, none⟩) n0 cap), (36, .int .i64 left), (37, .int .i64 0)]) [4, 6, 36, 37] rfl ?_
      refine loopG (fun (x : List (Int × Int) × Nat) => [(4, .slice none 0 0), (6, .slice (some ⟨sb, so, none⟩) n0 cap), (36, .int .i64 left), (37, .int .i64 (x.2 : Int))]) (fun (x : List (Int × Int) × Nat) => (row pE 59 (.slice (some ⟨sb, so, none⟩) n0 cap) x.1 :: H)) (fun k (x : List (Int × Int) × Nat) => k + x.2 = left.toNat ∧ x.1 = stpN l0 x.2 ∧ x.1.length = n0 ∧ ∀ p ∈ x.1, 0 ≤ p.1 ∧ p.1 ≤ 64000 + x.2 ∧ -1 ≤ p.2 ∧ p.2 < 6000) left.toNat (l0, 0) (by kernel_rfl) ⟨by simp, rfl, hn0.symm, fun p hp => by have := hb0 p hp; simp only; omega⟩ ?_
      rintro k2 ⟨xs, i⟩ ⟨hki, hst, hlen, hbd⟩
      dsimp only at hki hst hlen hbd ⊢
      have hw : IntKind.i64.wrap ((i : Int) + 1) = ((i + 1 : Nat) : Int) := by rw [IntKind.wrap_i64]; omega
      refine seqR (by kernel_rfl) ?_
      refine regionR 1 (by kernel_rfl) (by kernel_rfl) ?_
      refine (run0 (z := 0) 1 [4, 6, 36, 37, 38] [(4, .slice none 0 0), (6, .slice (some ⟨sb, so, none⟩) n0 cap), (36, .int .i64 left), (37, .int .i64 (i : Int)), (38, .bool (decide ((i : Int) < left)))] (fun _ => by kernel_rfl) (endR ?_) : RT _ _ _ _ _ _ 1 _)
      refine seqR (by kernel_rfl) ?_
      refine condR (b := decide ((i : Int) < left)) (by kernel_rfl) (fun _ => by kernel_rfl) (fun h2 => ?_) (fun h2 => ?_)
      · skip
        have hil : (i : Int) < left := of_decide_eq_true h2
        have hgl := grAt_lt xs (by omega) xs.length (Nat.le_refl _)
        have hgb : ∀ p ∈ xs, p.2.natAbs < 2 ^ 53 := fun p hp => by have := hbd p hp; omega
        have hstp : stpN l0 (i + 1) = xs.set (grAt xs xs.length) ((xs.getD (grAt xs xs.length) (0, 0)).1 + 1, -1) := by rw [hst]; rfl
        rw [← hlen]
        refine skipR (by kernel_rfl) ?_
        refine seqR (by kernel_rfl) ?_
        refine blockR 3 (by kernel_rfl) (by kernel_rfl) ?_
        refine seqR (by kernel_rfl) ?_
        refine regionR 3 (by kernel_rfl) (by kernel_rfl) ?_
        refine (run0 (z := 2) 1 [4, 6, 36, 37, 39] [(4, .slice none 0 0), (6, .slice (some ⟨sb, so, none⟩) xs.length cap), (36, .int .i64 left), (37, .int .i64 (i : Int)), (39, .slice (some ⟨sb, so, none⟩) xs.length cap)] (fun _ => by kernel_rfl) ?_ : RT _ _ _ _ _ _ 3 _)
        refine (stepR (z := 1) (callS 42 [.slice (some ⟨sb, so, none⟩) xs.length cap] (some 40) (fun _ => .int .i64 (grAt xs xs.length : Nat)) (fun _ => (row pE 59 (.slice (some ⟨sb, so, none⟩) (xs.length) cap) xs :: H)) (fun _ => by kernel_rfl) (greatest_walk (row pE 59 (.slice (some ⟨sb, so, none⟩) (xs.length) cap) xs :: H) ⟨some ⟨sb, so, none⟩, cap, xs⟩ rowKR (by show xs.length < 1000000; omega) hgb)) (fun _ => ?_) : RT _ _ _ _ _ _ 2 _)
        obtain ⟨g, hg⟩ : ∃ g, g = grAt xs xs.length := ⟨_, rfl⟩
        rw [← hg] at hgl hstp ⊢
        obtain ⟨q, hq⟩ : ∃ q, xs[g]? = some q := ⟨_, by simp [hgl]; rfl⟩
        have hqb := hbd q (List.mem_of_getElem? hq)
        rw [List.getD_eq_getElem?_getD, hq, Option.getD_some] at hstp
        refine (run0 (z := 0) 1 [4, 6, 36, 37, 10] [(4, .slice none 0 0), (6, .slice (some ⟨sb, so, none⟩) xs.length cap), (36, .int .i64 left), (37, .int .i64 (i : Int)), (10, .int .i64 (g : Int))] (fun _ => by kernel_rfl) (endR ?_) : RT _ _ _ _ _ _ 1 _)
        refine regionR 11 (by kernel_rfl) (by kernel_rfl) ?_
        refine (run0 (z := 7) 4 [4, 6, 36, 37, 41, 42, 43, 44] [(4, .slice none 0 0), (6, .slice (some ⟨sb, so, none⟩) xs.length cap), (36, .int .i64 left), (37, .int .i64 (i : Int)), (41, .slice (some ⟨sb, so, none⟩) xs.length cap), (42, .int .i64 (g : Int)), (43, .slice (some ⟨sb, so, none⟩) xs.length cap), (44, .int .i64 (g : Int))] (fun _ => by kernel_rfl) ?_ : RT _ _ _ _ _ _ 11 _)
        refine (stepR (z := 6) (yldS (idxY 58 (.tmp 43) (.tmp 44) sb so xs.length cap g 1 59 (g : Int) .i64 (some 45) (fun _ => by kernel_rfl) (by kernel_rfl) (by kernel_rfl) (fun _ => by kernel_rfl) (fun _ => by kernel_rfl) Try.underlying58 (by kernel_rfl) (by first | rfl | assumption | simp) (by first | omega | (simp; done) | (simp; omega) | (simp at *; omega)))) (fun _ => ?_) : RT _ _ _ _ _ _ 7 _)
        refine (runR (H := (row pE 59 (.slice (some ⟨sb, so, none⟩) (xs.length) cap) xs :: H)) (z := 4) 2 [4, 6, 36, 37, 41, 42, 47] [(4, .slice none 0 0), (6, .slice (some ⟨sb, so, none⟩) xs.length cap), (36, .int .i64 left), (37, .int .i64 (i : Int)), (41, .slice (some ⟨sb, so, none⟩) xs.length cap), (42, .int .i64 (g : Int)), (47, .float .f64 (floatOfInt .f64 q.1))] [(⟨sb, so + g * 1, none⟩, .complex .f64 (floatOfInt .f64 q.1) (floatOfInt .f64 q.2))] (hasC (rowKR.cell rfl (i := g) (x := q) hq (j := 0) rfl) has0) (fun _ => by kernel_rfl) ?_ : RT _ _ _ _ _ _ 6 _)
        refine (stepR (z := 3) (yldS (binY .add 60 60 (.tmp 47) (.const (.float .f64 4607182418800017408)) (.float .f64 (floatOfInt .f64 q.1)) (.float .f64 4607182418800017408) (.float .f64 (floatOfInt .f64 (q.1 + 1))) (some 48) (fun _ => by kernel_rfl) (by kernel_rfl) (by kernel_rfl) (fun _ => by kernel_rfl) (fun _ => by kernel_rfl) (flt_add1 hqb.1 (by omega)))) (fun _ => ?_) : RT _ _ _ _ _ _ 4 _)
        refine (run0 (z := 2) 1 [4, 6, 36, 37, 41, 42, 49] [(4, .slice none 0 0), (6, .slice (some ⟨sb, so, none⟩) xs.length cap), (36, .int .i64 left), (37, .int .i64 (i : Int)), (41, .slice (some ⟨sb, so, none⟩) xs.length cap), (42, .int .i64 (g : Int)), (49, .complex .f64 (floatOfInt .f64 (q.1 + 1)) 13830554455654793216)] (fun _ => by kernel_rfl) ?_ : RT _ _ _ _ _ _ 3 _)
        refine (stepR (z := 1) (yldS (idxY 58 (.tmp 41) (.tmp 42) sb so xs.length cap g 1 59 (g : Int) .i64 (some 50) (fun _ => by kernel_rfl) (by kernel_rfl) (by kernel_rfl) (fun _ => by kernel_rfl) (fun _ => by kernel_rfl) Try.underlying58 (by kernel_rfl) (by first | rfl | assumption | simp) (by first | omega | (simp; done) | (simp; omega) | (simp at *; omega)))) (fun _ => ?_) : RT _ _ _ _ _ _ 2 _)
        refine (stepR (z := 0) (setS (E := pE) (J := g) (j := 0) q (q.1 + 1, -1) (.complex .f64 (floatOfInt .f64 (q.1 + 1)) 13830554455654793216) ⟨sb, so + g * 1, none⟩ (fun _ => by kernel_rfl) (by first | rfl | simp) (hq) (by simp [pE, minus1]) (by decide)) (fun _ => ?_) : RT _ _ _ (row pE 59 (.slice (some ⟨sb, so, none⟩) (xs.length) cap) xs :: H) _ _ 1 _)
        refine endR ?_
        refine regionR 2 (by kernel_rfl) (by kernel_rfl) ?_
        refine (run0 (z := 0) 2 [4, 6, 36, 37] [(4, .slice none 0 0), (6, .slice (some ⟨sb, so, none⟩) xs.length cap), (36, .int .i64 left), (37, .int .i64 (IntKind.i64.wrap ((i : Int) + 1)))] (fun _ => by kernel_rfl) (endR ?_) : RT _ _ _ _ _ _ 2 _)
        rw [hlen, hw]
        refine PT.keep (L' := [(4, .slice none 0 0), (6, .slice (some ⟨sb, so, none⟩) n0 cap), (36, .int .i64 left), (37, .int .i64 ((i + 1 : Nat) : Int))]) [4, 6, 36, 37] rfl ?_
        exact againG (k2 - 1) (xs.set g (q.1 + 1, -1), i + 1) rfl rfl (by omega) ⟨by simp only; omega, hstp.symm, by simp only [List.length_set]; exact hlen, fun p hp => by
          simp only at hp ⊢
          rcases List.mem_or_eq_of_mem_set hp with hp | rfl
          · have := hbd p hp; omega
          · simp only; omega⟩
      · skip
        have hil : i = left.toNat := by have := of_decide_eq_false h2; omega
        rw [hil] at hst
        rw [← hlen]
        refine exitR 2 (by kernel_rfl) (by kernel_rfl) ?_
        refine thenX ?_
        refine thenX ?_
        refine leaveR ?_
        refine seqR (by kernel_rfl) ?_
        refine regionR 1 (by kernel_rfl) (by kernel_rfl) ?_
        refine (run0 (z := 0) 1 [4, 6, 11] [(4, .slice none 0 0), (6, .slice (some ⟨sb, so, none⟩) xs.length cap), (11, .slice none 0 0)] (fun _ => by kernel_rfl) (endR ?_) : RT _ _ _ _ _ _ 1 _)
        refine seqR (by kernel_rfl) ?_
        refine seqR (by kernel_rfl) ?_
        refine regionR 3 (by kernel_rfl) (by kernel_rfl) ?_
        refine (run0 (z := 0) 3 [4, 11, 52, 53, 54] [(4, .slice none 0 0), (11, .slice none 0 0), (52, .slice (some ⟨sb, so, none⟩) xs.length cap), (53, .int .i64 (xs.length : Int)), (54, .int .i64 0)] (fun _ => by kernel_rfl) (endR ?_) : RT _ _ _ _ _ _ 3 _)
        refine blockR 4 (by kernel_rfl) (by kernel_rfl) ?_
        refine PT.rowNil (kE .i64) 3 ?_
        rw [← hst] at hcnt
        refine PT.keep (L' := [(4, .slice none 0 0), (11, .slice none 0 0), (52, .slice (some ⟨sb, so, none⟩) xs.length cap), (53, .int .i64 (xs.length : Int)), (54, .int .i64 0)]) [4, 11, 52, 53, 54] rfl ?_
        refine loopG (fun (x : (Option Addr × Nat) × Nat) => [(4, .slice none 0 0), (11, .slice x.1.1 (((xs.take x.2).map Prod.fst).length) x.1.2), (52, .slice (some ⟨sb, so, none⟩) xs.length cap), (53, .int .i64 (xs.length : Int)), (54, .int .i64 (x.2 : Int))]) (fun (x : (Option Addr × Nat) × Nat) => (row (kE .i64) 3 (.slice x.1.1 ((xs.take x.2).map Prod.fst).length x.1.2) ((xs.take x.2).map Prod.fst) :: row pE 59 (.slice (some ⟨sb, so, none⟩) xs.length cap) xs :: H)) (fun k (x : (Option Addr × Nat) × Nat) => k + x.2 = xs.length) xs.length ((none, 0), 0) (by kernel_rfl) (by simp) ?_
        rintro k3 ⟨⟨B, cap2⟩, u⟩ hku
        dsimp only at hku ⊢
        have hw3 : IntKind.i64.wrap ((u : Int) + 1) = ((u + 1 : Nat) : Int) := by rw [IntKind.wrap_i64]; omega
        refine seqR (by kernel_rfl) ?_
        refine regionR 1 (by kernel_rfl) (by kernel_rfl) ?_
        refine (run0 (z := 0) 1 [4, 11, 52, 53, 54, 55] [(4, .slice none 0 0), (11, .slice B (((xs.take u).map Prod.fst).length) cap2), (52, .slice (some ⟨sb, so, none⟩) xs.length cap), (53, .int .i64 (xs.length : Int)), (54, .int .i64 (u : Int)), (55, .bool (decide ((u : Int) < (xs.length : Int))))] (fun _ => by kernel_rfl) (endR ?_) : RT _ _ _ _ _ _ 1 _)
        refine seqR (by kernel_rfl) ?_
        refine condR (b := decide ((u : Int) < (xs.length : Int))) (by kernel_rfl) (fun _ => by kernel_rfl) (fun h3 => ?_) (fun h3 => ?_)
        · skip
          have hu : u < xs.length := by have := of_decide_eq_true h3; omega
          obtain ⟨p, hp⟩ : ∃ p, xs[u]? = some p := ⟨_, by simp [hu]; rfl⟩
          have hpb := hbd p (List.mem_of_getElem? hp)
          have ht : (xs.take (u + 1)).map Prod.fst = (xs.take u).map Prod.fst ++ [p.1] := by rw [List.take_add_one, hp]; simp
          have hrk : KR (row (kE .i64) 3 (.slice B ((xs.take u).map Prod.fst).length cap2) ((xs.take u).map Prod.fst) :: row pE 59 (.slice (some ⟨sb, so, none⟩) xs.length cap) xs :: H) pE ⟨some ⟨sb, so, none⟩, cap, xs⟩ := rowKRat 1 rfl
          refine skipR (by kernel_rfl) ?_
          refine seqR (by kernel_rfl) ?_
          refine blockR 5 (by kernel_rfl) (by kernel_rfl) ?_
          refine seqR (by kernel_rfl) ?_
          refine regionR 3 (by kernel_rfl) (by kernel_rfl) ?_
          refine (stepR (z := 2) (yldS (idxY 58 (.tmp 52) (.tmp 54) sb so xs.length cap u 1 59 (u : Int) .i64 (some 56) (fun _ => by kernel_rfl) (by kernel_rfl) (by kernel_rfl) (fun _ => by kernel_rfl) (fun _ => by kernel_rfl) Try.underlying58 (by kernel_rfl) (by first | rfl | assumption | simp) (by first | omega | (simp; done) | (simp; omega) | (simp at *; omega)))) (fun _ => ?_) : RT _ _ _ _ _ _ 3 _)
          refine (runR (H := (row (kE .i64) 3 (.slice B ((xs.take u).map Prod.fst).length cap2) ((xs.take u).map Prod.fst) :: row pE 59 (.slice (some ⟨sb, so, none⟩) xs.length cap) xs :: H)) (z := 0) 2 [4, 11, 52, 53, 54, 13] [(4, .slice none 0 0), (11, .slice B (((xs.take u).map Prod.fst).length) cap2), (52, .slice (some ⟨sb, so, none⟩) xs.length cap), (53, .int .i64 (xs.length : Int)), (54, .int .i64 (u : Int)), (13, .complex .f64 (floatOfInt .f64 p.1) (floatOfInt .f64 p.2))] [(⟨sb, so + u * 1, none⟩, .complex .f64 (floatOfInt .f64 p.1) (floatOfInt .f64 p.2))] (hasC (hrk.cell rfl (i := u) (x := p) hp (j := 0) rfl) has0) (fun _ => by kernel_rfl) (endR ?_) : RT _ _ _ _ _ _ 2 _)
          refine regionR 7 (by kernel_rfl) (by kernel_rfl) ?_
          refine (run0 (z := 4) 3 [4, 11, 52, 53, 54, 58, 60] [(4, .slice none 0 0), (11, .slice B (((xs.take u).map Prod.fst).length) cap2), (52, .slice (some ⟨sb, so, none⟩) xs.length cap), (53, .int .i64 (xs.length : Int)), (54, .int .i64 (u : Int)), (58, .slice B (((xs.take u).map Prod.fst).length) cap2), (60, .float .f64 (floatOfInt .f64 p.1))] (fun _ => by kernel_rfl) ?_ : RT _ _ _ _ _ _ 7 _)
          refine (stepR (z := 3) (yldS (cvtY 60 3 (.tmp 60) (.float .f64 (floatOfInt .f64 p.1)) (.int .i64 p.1) (some 61) (fun _ => by kernel_rfl) (by kernel_rfl) (by kernel_rfl) (fun _ => by kernel_rfl) (cvt_int (by omega)))) (fun _ => ?_) : RT _ _ _ _ _ _ 4 _)
          refine (stepR (z := 2) (newS 3 [.int .i64 p.1] (some 62) (fun b => .slice (some ⟨b, 0, none⟩) 1 1) (fun _ _ => by kernel_rfl)) (fun b1 => ?_) : RT _ _ _ _ _ _ 3 _)
          refine RT.pick 1 rfl ?_
          refine (stepR (z := 1) (appS (E := (kE .i64)) 26 (.tmp 58) (.tmp 62) B cap2 ((xs.take u).map Prod.fst) [p.1] (.slice (some ⟨b1, 0, none⟩) 1 1) (some 63) (fun _ => by kernel_rfl) (by kernel_rfl) (by kernel_rfl) (fun _ => by kernel_rfl) (fun _ => by kernel_rfl) Try.underlying26 (kE_ety) (blkRd 1 rfl) (by simp only [List.length_cons, List.length_map, List.length_take, List.length_nil]; omega)) (fun r2 => ?_) : RT _ _ _ (row (kE .i64) 3 (.slice B ((xs.take u).map Prod.fst).length cap2) ((xs.take u).map Prod.fst) :: blk b1 3 [.int .i64 p.1] :: row pE 59 (.slice (some ⟨sb, so, none⟩) xs.length cap) xs :: H) _ _ 2 _)
          refine (run0 (z := 0) 1 [4, 11, 52, 53, 54] [(4, .slice none 0 0), (11, .slice r2.1 ((((xs.take u).map Prod.fst) ++ [p.1]).length) r2.2), (52, .slice (some ⟨sb, so, none⟩) xs.length cap), (53, .int .i64 (xs.length : Int)), (54, .int .i64 (u : Int))] (fun _ => by kernel_rfl) (endR ?_) : RT _ _ _ _ _ _ 1 _)
          refine regionR 2 (by kernel_rfl) (by kernel_rfl) ?_
          refine (run0 (z := 0) 2 [4, 11, 52, 53, 54] [(4, .slice none 0 0), (11, .slice r2.1 ((((xs.take u).map Prod.fst) ++ [p.1]).length) r2.2), (52, .slice (some ⟨sb, so, none⟩) xs.length cap), (53, .int .i64 (xs.length : Int)), (54, .int .i64 (IntKind.i64.wrap ((u : Int) + 1)))] (fun _ => by kernel_rfl) (endR ?_) : RT _ _ _ _ _ _ 2 _)
          rw [← ht, hw3]
          refine PT.pick 1 rfl ?_
          refine PT.drop ?_
          refine PT.keep (L' := [(4, .slice none 0 0), (11, .slice r2.1 (((xs.take (u + 1)).map Prod.fst).length) r2.2), (52, .slice (some ⟨sb, so, none⟩) xs.length cap), (53, .int .i64 (xs.length : Int)), (54, .int .i64 ((u + 1 : Nat) : Int))]) [4, 11, 52, 53, 54] rfl ?_
          exact againG (k3 - 1) (r2, u + 1) rfl rfl (by omega) (by simp only; omega)
        · skip
          have hu : u = xs.length := by have := of_decide_eq_false h3; omega
          rw [hu, List.take_length]
          refine exitR 4 (by kernel_rfl) (by kernel_rfl) ?_
          refine thenX ?_
          refine thenX ?_
          refine leaveR ?_
          refine seqR (by kernel_rfl) ?_
          refine regionR 2 (by kernel_rfl) (by kernel_rfl) ?_
          refine (run0 (z := 0) 2 [4] [(4, .slice B ((xs.map Prod.fst).length) cap2)] (fun _ => by kernel_rfl) (endR ?_) : RT _ _ _ _ _ _ 2 _)
          refine retR (by kernel_rfl) ?_
          refine done0 (.slice B ((xs.map Prod.fst).length) cap2) (fun _ => by kernel_rfl) (fun w hs => ?_) .ret (.inr rfl)
          rw [hcnt]; exact ⟨(B, cap2), rfl, (hs.pick 1 rfl).tail⟩
end Go.Proofs.Ytjjbnmlhbbnhcaa
