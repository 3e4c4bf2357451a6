/- Slots: how many each one has had; equal counts; what the laws know first. Conditions: none. -/
import Derived.Test.YtgkhnmeemiloaaaSpg
set_option linter.unusedVariables false
set_option linter.unusedSimpArgs false
namespace Go.Proofs.Ytgkhnmeemiloaaa
open Go.RowKit Go.Proofs.Ytgkhnmeemiloaaa.PS Go.Proofs.YtgkhnmeemiloaaaW.PrintWords Go.Proofs.YtgkhnmeemiloaaaW.PrintMore

theorem hadOf_succ {l : List Int} {m : Nat} (hm : m < (qsort l).length) (d : Nat) : hadOf l (m + 1) d = hadOf l m d + if (qsort l)[m].2 = d then 1 else 0 := by
  have htk : (qsort l).take (m + 1) = (qsort l).take m ++ [(qsort l)[m]] := by simp
  simp only [hadOf, htk, List.filter_append, List.length_append, List.filter_cons, List.filter_nil]
  by_cases c : (qsort l)[m].2 = d <;> simp [c]
/-- A sum over the first n. -/
def sumN (g : Nat → Int) : Nat → Int
  | 0 => 0
  | n + 1 => sumN g n + g n
theorem sumN_add (g h : Nat → Int) : ∀ n, sumN (fun d => g d + h d) n = sumN g n + sumN h n
  | 0 => rfl
  | n + 1 => by simp only [sumN, sumN_add g h n]; omega
theorem sumN_one (e : Nat) : ∀ n, sumN (fun d => if e = d then (1 : Int) else 0) n = if e < n then 1 else 0
  | 0 => rfl
  | n + 1 => by
    simp only [sumN, sumN_one e n]
    by_cases c : e < n
    · rw [if_pos c, if_neg (by omega), if_pos (by omega)]; rfl
    · by_cases c2 : e = n
      · rw [if_neg c, if_pos c2, if_pos (by omega)]; rfl
      · rw [if_neg c, if_neg c2, if_neg (by omega)]; rfl
theorem had_sum (l : List Int) : ∀ m, m ≤ (qsort l).length → sumN (fun d => (hadOf l m d : Int)) l.length = m
  | 0, _ => by
    have : ∀ n, sumN (fun d => (hadOf l 0 d : Int)) n = 0 := by
      intro n; induction n with
      | zero => rfl
      | succ n ih => simp only [sumN, ih]; simp [hadOf]
    rw [this]; rfl
  | m + 1, h => by
    have ih := had_sum l m (by omega)
    have hm : m < (qsort l).length := by omega
    have e : (fun d => (hadOf l (m + 1) d : Int)) = fun d => (hadOf l m d : Int) + (if (qsort l)[m].2 = d then (1 : Int) else 0) := by
      funext d; rw [hadOf_succ hm]; split <;> simp
    rw [e, sumN_add, ih, sumN_one, if_pos (mem_qsort.1 (List.getElem_mem hm)).1]
    omega
theorem cnt_sum (l : List Int) (h : ∀ x ∈ l, 0 ≤ x) : ∀ i, i ≤ l.length → sumN (fun d => (cnt l d : Int)) i = (l.take i).sum
  | 0, _ => by simp [sumN]
  | i + 1, hi => by
    have hy : l[i]? = some l[i] := by simp
    have h0 := h l[i] (List.getElem_mem _)
    rw [List.take_add_one, hy, List.sum_append]
    simp only [sumN, cnt_sum l h i (by omega), Option.toList_some, List.sum_cons, List.sum_nil]
    have : (cnt l i : Int) = l[i] := by simp [cnt, List.getD, show i < l.length by omega]; omega
    omega
theorem cnt_get {l : List Int} (h : ∀ x ∈ l, 0 ≤ x) {d : Nat} (hd : d < l.length) : (cnt l d : Int) = l[d] := by
  have := h l[d] (List.getElem_mem _)
  simp [cnt, List.getD, hd]; omega
/-- At each place each has had its share, within half a slot of the one who is there. -/
theorem near {l : List Int} {m : Nat} (hm : m < (qsort l).length) {e : Nat} (he : e < l.length) :
    2 * (cnt l (qsort l)[m].2 : Int) * (hadOf l (m + 1) e : Int) - (2 * ((qsort l)[m].1 : Int) + 1) * (cnt l e : Int) ≤ (cnt l (qsort l)[m].2 : Int) ∧
    -(cnt l (qsort l)[m].2 : Int) ≤ 2 * (cnt l (qsort l)[m].2 : Int) * (hadOf l (m + 1) e : Int) - (2 * ((qsort l)[m].1 : Int) + 1) * (cnt l e : Int) := by
  obtain ⟨x, hx⟩ : ∃ x, x = (qsort l)[m] := ⟨_, rfl⟩
  rw [← hx]
  have hxm := mem_qsort.1 (by rw [hx]; exact List.getElem_mem hm : x ∈ qsort l)
  obtain ⟨q, hq⟩ : ∃ q, q = cnt l x.2 := ⟨_, rfl⟩
  obtain ⟨h, hh⟩ : ∃ h, h = hadOf l (m + 1) e := ⟨_, rfl⟩
  obtain ⟨c, hc⟩ : ∃ c, c = cnt l e := ⟨_, rfl⟩
  have hle : h ≤ c := by rw [hh, hc]; exact hadOf_le (by omega) he
  have up : 0 < h → (2 * (h - 1) + 1) * q ≤ (2 * x.1 + 1) * c := fun h0 => by
    have hin := (ahead l (m + 1) (by omega) e (h - 1) he).2 (by omega)
    obtain ⟨i, hi, him, e1⟩ := mem_take_place hin
    have := qsort_le (show i ≤ m by omega) hm
    rw [← hx, e1, qle_iff] at this
    simp only at this
    rw [← hq, ← hc] at this
    omega
  have dn : h < c → (2 * x.1 + 1) * c ≤ (2 * h + 1) * q := fun hlt => by
    have hin : (h, e) ∈ qsort l := mem_qsort.2 ⟨he, by simp only; omega⟩
    obtain ⟨i, hi, e1⟩ := qsort_place hin
    have him : m ≤ i := by
      by_cases cc : m ≤ i
      · exact cc
      · exfalso
        have := (ahead l (m + 1) (by omega) e h he).1 (by rw [← e1]; exact take_get_mem hi (by omega))
        omega
    have := qsort_le him hi
    rw [← hx, e1, qle_iff] at this
    simp only at this
    rw [← hq, ← hc] at this
    omega
  rw [← hq, ← hh, ← hc]
  obtain ⟨p, hp⟩ : ∃ p, p = 2 * x.1 + 1 := ⟨_, rfl⟩
  have hpq : p < 2 * q := by omega
  rw [← hp] at up dn
  have ep : 2 * (x.1 : Int) + 1 = (p : Int) := by omega
  rw [ep]
  constructor
  · rcases Nat.eq_zero_or_pos h with h0 | h0
    · subst h0
      have : (0 : Int) ≤ (p : Int) * (c : Int) := Int.mul_nonneg (by omega) (by omega)
      simp only [Int.natCast_zero, Int.mul_zero]; omega
    · have h1 := up h0
      have h2 : (((2 * (h - 1) + 1) * q : Nat) : Int) ≤ ((p * c : Nat) : Int) := by omega
      have e1 : (((2 * (h - 1) + 1) * q : Nat) : Int) = 2 * (q : Int) * (h : Int) - q := by
        have : ((2 * (h - 1) + 1 : Nat) : Int) = 2 * (h : Int) - 1 := by omega
        rw [Int.natCast_mul, this, Int.sub_mul, Int.one_mul, Int.mul_right_comm]
      have e2 : ((p * c : Nat) : Int) = (p : Int) * (c : Int) := by simp
      omega
  · rcases Nat.lt_or_ge h c with h0 | h0
    · have h1 := dn h0
      have h2 : ((p * c : Nat) : Int) ≤ (((2 * h + 1) * q : Nat) : Int) := by omega
      have e1 : (((2 * h + 1) * q : Nat) : Int) = 2 * (q : Int) * (h : Int) + q := by
        rw [Int.natCast_mul, show ((2 * h + 1 : Nat) : Int) = 2 * (h : Int) + 1 by omega, Int.add_mul, Int.one_mul, Int.mul_right_comm]
      have e2 : ((p * c : Nat) : Int) = (p : Int) * (c : Int) := by simp
      omega
    · have hcc : h = c := by omega
      subst hcc
      have h1 : p * h ≤ (2 * q) * h := Nat.mul_le_mul_right _ (by omega)
      have h2 : ((p * h : Nat) : Int) ≤ ((2 * q * h : Nat) : Int) := by omega
      have e1 : ((2 * q * h : Nat) : Int) = 2 * (q : Int) * (h : Int) := by simp
      have e2 : ((p * h : Nat) : Int) = (p : Int) * (h : Int) := by simp
      omega
theorem near_sum {l : List Int} {m : Nat} (hm : m < (qsort l).length) : ∀ j, j ≤ l.length →
    2 * (cnt l (qsort l)[m].2 : Int) * sumN (fun d => (hadOf l (m + 1) d : Int)) j - (2 * ((qsort l)[m].1 : Int) + 1) * sumN (fun d => (cnt l d : Int)) j ≤ (j : Int) * (cnt l (qsort l)[m].2 : Int) ∧
    -((j : Int) * (cnt l (qsort l)[m].2 : Int)) ≤ 2 * (cnt l (qsort l)[m].2 : Int) * sumN (fun d => (hadOf l (m + 1) d : Int)) j - (2 * ((qsort l)[m].1 : Int) + 1) * sumN (fun d => (cnt l d : Int)) j
  | 0, _ => by simp [sumN]
  | j + 1, hj => by
    obtain ⟨a1, a2⟩ := near_sum hm j (by omega)
    obtain ⟨b1, b2⟩ := near hm (show j < l.length by omega)
    simp only [sumN, Int.mul_add, Int.natCast_add, Int.add_mul, Int.natCast_one, Int.one_mul] at a1 a2 b1 b2 ⊢
    omega
theorem abs_mul_le {a b c : Int} (h1 : a ≤ b) (h2 : -b ≤ a) (hc : 0 ≤ c) : a * c ≤ b * c ∧ -(b * c) ≤ a * c := by
  have r1 := Int.mul_le_mul_of_nonneg_right h1 hc
  have r2 := Int.mul_le_mul_of_nonneg_right h2 hc
  rw [Int.neg_mul] at r2
  exact ⟨r1, r2⟩
/-- Nobody is further from its share than there are domains. -/
theorem even {l : List Int} (hM : ∀ x ∈ l, 0 ≤ x) {m : Nat} (hm : m < (qsort l).length) {d : Nat} (hd : d < l.length) :
    (hadOf l (m + 1) d : Int) * l.sum - l[d] * ((m : Int) + 1) ≤ (l.length : Int) * l.sum ∧ -((l.length : Int) * l.sum) ≤ (hadOf l (m + 1) d : Int) * l.sum - l[d] * ((m : Int) + 1) := by
  obtain ⟨a1, a2⟩ := near hm hd
  obtain ⟨b1, b2⟩ := near_sum hm l.length (Nat.le_refl _)
  rw [had_sum l (m + 1) (by omega), cnt_sum l hM l.length (Nat.le_refl _), List.take_length] at b1 b2
  have hxm := mem_qsort.1 (List.getElem_mem hm : (qsort l)[m] ∈ qsort l)
  rw [cnt_get hM hd] at a1 a2
  have hq0 : 0 < cnt l (qsort l)[m].2 := by omega
  obtain ⟨q, hq⟩ : ∃ q : Int, q = (cnt l (qsort l)[m].2 : Int) := ⟨_, rfl⟩
  obtain ⟨p, hp⟩ : ∃ p : Int, p = 2 * ((qsort l)[m].1 : Int) + 1 := ⟨_, rfl⟩
  obtain ⟨h, hh⟩ : ∃ h : Int, h = (hadOf l (m + 1) d : Int) := ⟨_, rfl⟩
  obtain ⟨c, hc⟩ : ∃ c : Int, c = l[d] := ⟨_, rfl⟩
  obtain ⟨f, hf⟩ : ∃ f : Int, f = l.sum := ⟨_, rfl⟩
  obtain ⟨n, hn⟩ : ∃ n : Int, n = (l.length : Int) := ⟨_, rfl⟩
  obtain ⟨M, hMM⟩ : ∃ M : Int, M = (m : Int) + 1 := ⟨_, rfl⟩
  rw [show ((m + 1 : Nat) : Int) = M by omega] at b1 b2
  rw [← hq, ← hp, ← hh, ← hc] at a1 a2
  rw [← hq, ← hp, ← hf, ← hn] at b1 b2
  rw [← hh, ← hc, ← hf, ← hn, ← hMM]
  have c0 : 0 ≤ c := by rw [hc]; exact hM _ (List.getElem_mem _)
  have cf : c ≤ f := by rw [hc, hf]; exact sum_mem l hM _ (List.getElem_mem _)
  have q0 : 0 < q := by omega
  have n1 : 1 ≤ n := by omega
  have f0 : 0 ≤ f := by omega
  obtain ⟨r1, r2⟩ := abs_mul_le a1 a2 f0
  obtain ⟨s1, s2⟩ := abs_mul_le b1 b2 c0
  have t1 : n * q * c ≤ n * q * f := Int.mul_le_mul_of_nonneg_left cf (Int.mul_nonneg (by omega) (by omega))
  have t2 : q * f ≤ n * (q * f) := by
    have := Int.mul_le_mul_of_nonneg_right n1 (Int.mul_nonneg (show 0 ≤ q by omega) f0)
    omega
  -- 2q (h f - c M) = f (2qh - pc) - c (2qM - pf)
  have key : 2 * q * (h * f - c * M) = (2 * q * h - p * c) * f - (2 * q * M - p * f) * c := by
    rw [Int.mul_sub, Int.sub_mul, Int.sub_mul, ← Int.mul_assoc, ← Int.mul_assoc, Int.mul_right_comm (2 * q) c M, Int.mul_right_comm p c f]
    omega
  have e1 : n * (q * f) = n * q * f := by rw [Int.mul_assoc]
  have e2 : 2 * q * (n * f) = 2 * (n * q * f) := by rw [Int.mul_assoc 2 q, Int.mul_left_comm q n f, ← Int.mul_assoc n q f]
  have u1 : 2 * q * (h * f - c * M) ≤ 2 * q * (n * f) := by rw [key, e2]; omega
  have u2 : 2 * q * (-(n * f)) ≤ 2 * q * (h * f - c * M) := by rw [key, Int.mul_neg, e2]; omega
  exact ⟨Int.le_of_mul_le_mul_left u1 (by omega), Int.le_of_mul_le_mul_left u2 (by omega)⟩

/-! equal counts -/
def alikeE (k j : Nat) : List (Nat × Nat) := (List.range j).flatMap fun r => (List.range k).map fun d => (r, d)
theorem alike_qsort (k j : Nat) (hj : 0 < j) : alikeE k j = qsort (List.replicate k (j : Int)) := by
  have hc : ∀ d, d < k → cnt (List.replicate k (j : Int)) d = j := fun d hd => by simp [cnt, List.getD, hd]
  refine qsort_unique ?_ ?_ ?_
  · unfold alikeE
    rw [List.Nodup, List.pairwise_flatMap]
    constructor
    · intro d _
      rw [List.pairwise_map]
      exact (List.nodup_range (n := k)).imp (fun h e => h (by simpa using congrArg Prod.snd e))
    · refine (List.nodup_range (n := j)).imp ?_
      intro a b hab x hx y hy e
      obtain ⟨k, _, rfl⟩ := List.mem_map.1 hx
      obtain ⟨m, _, rfl⟩ := List.mem_map.1 hy
      exact hab (by simpa using congrArg Prod.fst e)
  · intro x
    obtain ⟨r, d⟩ := x
    simp only [alikeE, List.mem_flatMap, List.mem_range, List.mem_map, Prod.mk.injEq, List.length_replicate]
    constructor
    · rintro ⟨r', hr, d', hd, rfl, rfl⟩; exact ⟨hd, by rw [hc _ hd]; exact hr⟩
    · rintro ⟨h1, h2⟩; rw [hc _ h1] at h2; exact ⟨r, h2, d, h1, rfl, rfl⟩
  · unfold alikeE
    rw [List.pairwise_flatMap]
    constructor
    · intro r _
      rw [List.pairwise_map]
      refine (List.pairwise_lt_range (n := k)).imp_of_mem ?_
      intro a b ha hb hab
      rw [qle_iff]
      simp only
      rw [hc _ (List.mem_range.1 ha), hc _ (List.mem_range.1 hb)]
      omega
    · refine (List.pairwise_lt_range (n := j)).imp ?_
      intro a b hab x hx y hy
      obtain ⟨d, hd, rfl⟩ := List.mem_map.1 hx
      obtain ⟨e, he, rfl⟩ := List.mem_map.1 hy
      rw [qle_iff]
      simp only
      rw [hc _ (List.mem_range.1 hd), hc _ (List.mem_range.1 he)]
      exact .inl (Nat.mul_lt_mul_of_pos_right (by omega) hj)
theorem slots_len {l : List Int} (hs : sumOf l ≠ 0) : ((slotsOf l).length : Int) = l.sum := by
  obtain ⟨s1, s2, s3, s4, s5⟩ := (sumOf_ne l).1 hs
  rw [slotsOf, if_neg hs, List.length_map]
  exact qsort_length (fun x hx => by have := List.all_eq_true.1 s3 x hx; simp only [mayK, Bool.and_eq_true, decide_eq_true_eq] at this; exact this.1)
theorem slots_get {l : List Int} (hs : sumOf l ≠ 0) {i : Nat} (hi : i < (qsort l).length) : (slotsOf l)[i]? = some ((qsort l)[i].2 : Int) := by
  rw [slotsOf, if_neg hs, List.getElem?_map, List.getElem?_eq_getElem hi]; rfl
theorem slots_count {l : List Int} (hs : sumOf l ≠ 0) {d : Nat} (hd : d < l.length) : ((slotsOf l).filter fun x => x == (d : Int)).length = cnt l d := by
  rw [← hadOf_all hd, slotsOf, if_neg hs, hadOf, List.take_length, List.filter_map, List.length_map]
  congr 1
  refine List.filter_congr ?_
  intro x _
  simp only [Function.comp]
  rw [Bool.eq_iff_iff, beq_iff_eq, beq_iff_eq]; omega
theorem slots_none {l : List Int} (hs : sumOf l = 0) : slotsOf l = [] := by rw [slotsOf, if_pos hs]
theorem slots22 : slotsOf [2, 2] = [0, 1, 0, 1] := by
  have h : sumOf [2, 2] ≠ 0 := by decide
  rw [slotsOf, if_neg h, show ([2, 2] : List Int) = List.replicate 2 ((2 : Nat) : Int) from rfl, ← alike_qsort 2 2 (by omega)]
  rfl
theorem known_tells (k : Nat) (hk : 100 < k) : tontinelaw12_known.f k = some true := by
  unfold tontinelaw12_known.f spread_Slots.f
  simp only [Option.bind_some]
  rw [slots22, gap_tells _ _ k (by simp; omega), gap_tells _ _ k (by simp; omega), same_tells _ _ (by simp) k (by simp; omega)]
  simp only [Option.bind_some]
  rw [show gapOf [0, 1, 0, 1] 0 = (2, 2) by decide, show gapOf [0, 1, 1] 0 = (3, 3) by decide, show slotsOf [] = [] from slots_none (by decide)]
  simp
/-! the laws' counts -/
def modL (xs : List Int) : List Int := xs.map fun x => Int.tmod x 12
theorem u8_wf {x : Int} (h : (Lit.int .u8 x).wf = true) : 0 ≤ x ∧ x < 256 := by
  have h1 : (decide (IntKind.u8.min ≤ x) && decide (x ≤ IntKind.u8.max)) = true := h
  have e1 : IntKind.u8.min = 0 := rfl
  have e2 : IntKind.u8.max = 255 := rfl
  rw [e1, e2] at h1
  simp only [Bool.and_eq_true, decide_eq_true_eq] at h1
  omega
theorem modL_facts (xs : List Int) (hx : ∀ x ∈ xs, 0 ≤ x ∧ x < 256) : (∀ y ∈ modL xs, 0 ≤ y ∧ y ≤ 11) ∧ (0 ≤ (modL xs).sum ∧ (modL xs).sum ≤ 11 * (xs.length : Int)) ∧ (modL xs).length = xs.length := by
  have h1 : ∀ y ∈ modL xs, 0 ≤ y ∧ y ≤ 11 := by
    intro y hy
    obtain ⟨x, hxm, rfl⟩ := List.mem_map.1 hy
    have := hx x hxm
    simp only [Int.tmod_eq_emod_of_nonneg this.1]; omega
  refine ⟨h1, ⟨?_, ?_⟩, by simp [modL]⟩
  · have := sum_ge 0 (modL xs) (fun y hy => (h1 y hy).1); omega
  · have := sum_le 11 (modL xs) (fun y hy => (h1 y hy).2); simpa [modL] using this
theorem modL_step (xs : List Int) (hx : ∀ x ∈ xs, 0 ≤ x ∧ x < 256) (hl : xs.length ≤ 6) {i : Nat} (hi : i < xs.length) :
    (modL (xs.take i)).length < 17592186044416 ∧ modL (xs.take i) ++ [wrap64 (Int.tmod (rd xs (i : Int)) 12)] = modL (xs.take (i + 1)) ∧ (i : Int) < ((modL (xs.take (i + 1))).length : Int) ∧
    wrap64 ((modL (xs.take i)).sum + rd (modL (xs.take (i + 1))) (i : Int)) = (modL (xs.take (i + 1))).sum ∧ True := by
  have hxi := hx xs[i] (List.getElem_mem _)
  have ht : xs.take (i + 1) = xs.take i ++ [xs[i]] := by simp
  have hm : 0 ≤ Int.tmod xs[i] 12 ∧ Int.tmod xs[i] 12 ≤ 11 := by rw [Int.tmod_eq_emod_of_nonneg hxi.1]; omega
  have hlen : (modL (xs.take i)).length = i := by simp [modL]; omega
  have e : modL (xs.take (i + 1)) = modL (xs.take i) ++ [Int.tmod xs[i] 12] := by rw [ht]; unfold modL; rw [List.map_append]; rfl
  obtain ⟨b1, b2, b3⟩ := modL_facts (xs.take i) (fun x h => hx x (List.mem_of_mem_take h))
  have hti := List.length_take_le i xs
  refine ⟨by omega, ?_, ?_, ?_, trivial⟩
  · rw [e, rd_get hi, w64 (by omega) (by omega)]
  · rw [e, List.length_append, hlen]; simp only [List.length_singleton]; omega
  · have hr : rd (modL (xs.take (i + 1))) (i : Int) = Int.tmod xs[i] 12 := by
      refine rd_get? ?_
      rw [e, List.getElem?_append_right (by omega), hlen]; simp
    rw [hr, e, List.sum_append, w64 (by omega) (by omega)]; simp
theorem modL_pos {xs : List Int} (hx : ∀ x ∈ xs, 0 ≤ x ∧ x < 256) (hl : xs.length ≤ 6) (h1 : 1 ≤ (modL xs).sum) (h2 : (modL xs).sum ≤ 64) : sumOf (modL xs) ≠ 0 := by
  obtain ⟨b1, b2, b3⟩ := modL_facts xs hx
  refine (sumOf_ne _).2 ⟨?_, by omega, List.all_eq_true.2 (fun x hx => by have := b1 x hx; simp only [mayK, Bool.and_eq_true, decide_eq_true_eq]; omega), h1, h2⟩
  by_cases h0 : xs = []
  · subst h0; simp [modL] at h1
  · have := List.length_pos_iff.2 h0; omega
theorem modL_zero {xs : List Int} (h : (modL xs).sum < 1 ∨ 64 < (modL xs).sum) : slotsOf (modL xs) = [] := by
  refine slots_none ?_
  by_cases h0 : sumOf (modL xs) = 0
  · exact h0
  · have := (sumOf_ne _).1 h0; omega
end Go.Proofs.Ytgkhnmeemiloaaa
