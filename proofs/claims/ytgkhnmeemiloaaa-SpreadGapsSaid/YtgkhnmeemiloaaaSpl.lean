/- The printed loops of the layer of slots: what they tell. Conditions: none. -/
import Derived.Test.YtgkhnmeemiloaaaPSx3
import Derived.Test.YtgkhnmeemiloaaaSpm
set_option linter.unusedVariables false
set_option linter.unusedSimpArgs false
namespace Go.Proofs.Ytgkhnmeemiloaaa
open Go.RowKit Go.Proofs.Ytgkhnmeemiloaaa.PS Go.Proofs.YtgkhnmeemiloaaaW.PrintWords Go.Proofs.YtgkhnmeemiloaaaW.PrintMore

theorem w64 {n : Int} (h1 : -9223372036854775808 ≤ n) (h2 : n < 9223372036854775808) : wrap64 n = n := by unfold wrap64; omega
theorem w64n {n : Nat} (h : n < 9223372036854775808) : wrap64 (n : Int) = n := w64 (by omega) (by omega)
theorem rd_get {l : List Int} {i : Nat} (h : i < l.length) : rd l (i : Int) = l[i] := by simp [rd, List.getD, h]
theorem rd_get? {l : List Int} {i : Nat} {x : Int} (h : l[i]? = some x) : rd l (i : Int) = x := by simp [rd, List.getD, h]
theorem rounds {k : Nat} (h : 0 < k) : ∃ m, k = m + 1 := ⟨k - 1, by omega⟩

/-! SameInts -/
theorem same_loop (a b : List Int) (hl : a.length = b.length) (hb : a.length < 4611686018427387904) : ∀ (d i k : Nat), i + d = a.length → d < k →
    tontineref1_SameInts.l0 k a b (i : Int) = some (decide (a.drop i = b.drop i))
  | 0, i, k, h, hk => by
    obtain ⟨k, rfl⟩ := rounds hk
    simp only [tontineref1_SameInts.l0]
    rw [if_neg (by omega), List.drop_of_length_le (by omega), List.drop_of_length_le (by omega)]; simp
  | d + 1, i, k, h, hk => by
    obtain ⟨k, rfl⟩ := rounds (show 0 < k by omega)
    have ha : i < a.length := by omega
    have hb' : i < b.length := by omega
    simp only [tontineref1_SameInts.l0]
    rw [if_pos (by omega), if_pos (by omega), if_pos (by omega), rd_get ha, rd_get hb', w64 (by omega) (by omega), show (i : Int) + 1 = ((i + 1 : Nat) : Int) by omega]
    have e1 := List.drop_eq_getElem_cons ha
    have e2 := List.drop_eq_getElem_cons hb'
    by_cases c : a[i] = b[i]
    · rw [if_pos c, same_loop a b hl hb d (i + 1) k (by omega) (by omega), e1, e2, c]
      congr 1; rw [Bool.eq_iff_iff]; simp only [decide_eq_true_eq, List.cons.injEq, true_and]
    · rw [if_neg c, e1, e2]
      congr 1; symm; rw [decide_eq_false_iff_not]; intro e; exact c (List.cons.inj e).1
theorem same_tells (a b : List Int) (hb : a.length < 4611686018427387904) (k : Nat) (hk : a.length < k) : tontineref1_SameInts.f k a b = some (decide (a = b)) := by
  unfold tontineref1_SameInts.f
  by_cases h : a.length = b.length
  · rw [if_pos (by omega)]
    exact same_loop a b h hb a.length 0 k (by omega) hk
  · rw [if_neg (by omega)]
    have : a ≠ b := fun e => h (by rw [e])
    simp [this]

/-! total, MayCounts -/
theorem total_loop (l : List Int) (hm : ∀ x ∈ l, 0 ≤ x ∧ x ≤ 1000000) (hl : l.length ≤ 1000000) : ∀ (d i k : Nat), i + d = l.length → d < k →
    tontineref11_total.l0 k l ((l.take i).sum) (i : Int) = some l.sum
  | 0, i, k, h, hk => by
    obtain ⟨k, rfl⟩ := rounds hk
    simp only [tontineref11_total.l0]
    rw [if_neg (by omega), List.take_of_length_le (by omega)]
  | d + 1, i, k, h, hk => by
    obtain ⟨k, rfl⟩ := rounds (show 0 < k by omega)
    have ha : i < l.length := by omega
    have hs : ∀ j, j ≤ l.length → 0 ≤ (l.take j).sum ∧ (l.take j).sum ≤ 1000000 * (j : Int) := by
      intro j
      induction j with
      | zero => simp
      | succ j ih =>
        intro hj
        have := ih (by omega)
        have hy : l[j]? = some l[j] := by simp
        have := hm l[j] (List.getElem_mem _)
        rw [List.take_add_one, hy, List.sum_append]
        simp only [Option.toList_some, List.sum_cons, List.sum_nil]
        omega
    have h1 := hs i (by omega)
    have h2 := hs (i + 1) (by omega)
    have hy : l[i]? = some l[i] := by simp
    have ht : (l.take (i + 1)).sum = (l.take i).sum + l[i] := by
      rw [List.take_add_one, hy, List.sum_append]; simp
    simp only [tontineref11_total.l0]
    rw [if_pos (by omega), if_pos (by omega), rd_get ha, ← ht, w64 (by omega) (by omega), w64 (by omega) (by omega), show (i : Int) + 1 = ((i + 1 : Nat) : Int) by omega]
    exact total_loop l hm hl d (i + 1) k (by omega) (by omega)
theorem total_tells (l : List Int) (hm : ∀ x ∈ l, 0 ≤ x ∧ x ≤ 1000000) (hl : l.length ≤ 1000000) (k : Nat) (hk : l.length < k) : tontineref11_total.f k l = some l.sum := by
  unfold tontineref11_total.f
  exact total_loop l hm hl l.length 0 k (by omega) hk
theorem may_loop (l : List Int) (hl : l.length ≤ 6) : ∀ (d i k : Nat), i + d = l.length → d + l.length + 1 < k → (∀ x ∈ l.take i, mayK x = true) →
    tontineref11_MayCounts.l0 k l (i : Int) = some (l.all mayK && decide (1 ≤ l.sum) && decide (l.sum ≤ 64))
  | 0, i, k, h, hk, hp => by
    obtain ⟨k, rfl⟩ := rounds (show 0 < k by omega)
    rw [List.take_of_length_le (by omega)] at hp
    simp only [tontineref11_MayCounts.l0]
    have hall : l.all mayK = true := List.all_eq_true.2 hp
    rw [if_neg (by omega), total_tells l (fun x hx => by have := hp x hx; simp only [mayK, Bool.and_eq_true, decide_eq_true_eq] at this; omega) (by omega) k (by omega), hall]
    simp only [Option.bind_some, Bool.true_and]
    by_cases c : l.sum ≥ 1
    · rw [if_pos c]; simp [show 1 ≤ l.sum from c]
    · rw [if_neg c]; simp [show ¬ 1 ≤ l.sum from c]
  | d + 1, i, k, h, hk, hp => by
    obtain ⟨k, rfl⟩ := rounds (show 0 < k by omega)
    have ha : i < l.length := by omega
    have hno : ¬ (0 ≤ l[i] ∧ l[i] ≤ 64) → l.all mayK = false := fun hc => by
      rw [List.all_eq_false]; exact ⟨l[i], List.getElem_mem _, by simp only [mayK, Bool.and_eq_true, decide_eq_true_eq]; exact hc⟩
    simp only [tontineref11_MayCounts.l0]
    rw [if_pos (by omega), if_pos (by omega), rd_get ha, w64 (by omega) (by omega), show (i : Int) + 1 = ((i + 1 : Nat) : Int) by omega]
    by_cases c : l[i] < 0
    · rw [if_pos c, hno (by omega)]; rfl
    · rw [if_neg c]
      by_cases c2 : l[i] > 64
      · rw [if_pos c2, hno (by omega)]; rfl
      · rw [if_neg c2]
        refine may_loop l hl d (i + 1) k (by omega) (by omega) ?_
        intro x hx
        rw [List.take_add_one, List.getElem?_eq_getElem ha] at hx
        simp only [Option.toList_some, List.mem_append, List.mem_singleton] at hx
        rcases hx with hx | rfl
        · exact hp x hx
        · simp only [mayK, Bool.and_eq_true, decide_eq_true_eq]; omega
theorem sumOf_ne (l : List Int) : (sumOf l ≠ 0) ↔ (1 ≤ l.length ∧ l.length ≤ 6 ∧ l.all mayK = true ∧ 1 ≤ l.sum ∧ l.sum ≤ 64) := by
  unfold sumOf
  by_cases h : (l.all mayK && decide (1 ≤ l.length) && decide (l.length ≤ 6) && decide (l.sum ≤ 64)) = true
  · rw [if_pos h]
    simp only [Bool.and_eq_true, decide_eq_true_eq] at h
    obtain ⟨⟨⟨h1, h2⟩, h3⟩, h4⟩ := h
    have := (sum_bound l h1).1
    constructor
    · intro hne; exact ⟨h2, h3, h1, by omega, h4⟩
    · rintro ⟨_, _, _, h5, _⟩; omega
  · rw [if_neg h]
    simp only [Bool.and_eq_true, decide_eq_true_eq] at h
    constructor
    · intro hne; exact absurd rfl hne
    · rintro ⟨h2, h3, h1, _, h4⟩; exact absurd ⟨⟨⟨h1, h2⟩, h3⟩, h4⟩ h
theorem may_tells (l : List Int) (k : Nat) (hk : 2 * l.length + 3 < k) (hl : l.length < 4611686018427387904) : tontineref11_MayCounts.f k l = some (decide (sumOf l ≠ 0)) := by
  obtain ⟨k, rfl⟩ := rounds (show 0 < k by omega)
  unfold tontineref11_MayCounts.f
  by_cases c : (l.length : Int) < 1
  · rw [if_pos c]
    simp only [tontineref11_MayCounts.j0, if_true]
    have : ¬ sumOf l ≠ 0 := by rw [sumOf_ne]; omega
    simp [decide_eq_false this]
  · rw [if_neg c]
    by_cases c2 : (l.length : Int) > 6
    · simp only [tontineref11_MayCounts.j0, decide_eq_true c2, if_true]
      have : ¬ sumOf l ≠ 0 := by rw [sumOf_ne]; omega
      simp [decide_eq_false this]
    · simp only [tontineref11_MayCounts.j0, decide_eq_false c2, Bool.false_eq_true, if_false]
      have := may_loop l (by omega) l.length 0 k (by omega) (by omega) (by simp)
      rw [show ((0 : Nat) : Int) = 0 from rfl] at this
      rw [this]
      congr 1
      rw [Bool.eq_iff_iff]
      simp only [Bool.and_eq_true, decide_eq_true_eq, sumOf_ne]
      constructor
      · rintro ⟨⟨h1, h2⟩, h3⟩; exact ⟨by omega, by omega, h1, h2, h3⟩
      · rintro ⟨_, _, h1, h2, h3⟩; exact ⟨⟨h1, h2⟩, h3⟩

/-! the reference's slots -/
/-- The best so far. -/
def Best (l : List Int) (g : Nat → Nat) (i : Nat) (b : Int) : Prop :=
  (b = -1 ∧ ∀ d, d < i → cnt l d ≤ g d) ∨
  ∃ e : Nat, b = e ∧ e < i ∧ g e < cnt l e ∧ ∀ d, d < i → g d < cnt l d → qle l (g e, e) (g d, d) = true
theorem best_loop (l : List Int) (out gl : List Int) (g : Nat → Nat) (hl : l.length ≤ 6) (hM : ∀ x ∈ l, 0 ≤ x ∧ x ≤ 64) (hgl : gl.length = l.length) (hg : ∀ d, d < l.length → gl[d]? = some (g d : Int)) (hgb : ∀ d, d < l.length → g d ≤ 64)
    (R : Option (List Int)) (K : Nat)
    (hend : ∀ b, Best l g l.length b → ∀ k, K ≤ k → tontineref11_Slots.l1 (k + 1) l out gl b (l.length : Int) = R) : ∀ (d i k : Nat) (b : Int), i + d = l.length → d + K < k → Best l g i b →
    tontineref11_Slots.l1 k l out gl b (i : Int) = R
  | 0, i, k, b, h, hk, hb => by
    obtain ⟨k, rfl⟩ := rounds (show 0 < k by omega)
    have : i = l.length := by omega
    subst this
    exact hend b hb k (by omega)
  | d + 1, i, k, b, h, hk, hb => by
    obtain ⟨k, rfl⟩ := rounds (show 0 < k by omega)
    have ha : i < l.length := by omega
    have hx := hM l[i] (List.getElem_mem _)
    have hc : (cnt l i : Int) = l[i] := by simp [cnt, List.getD, ha]; omega
    have hgi := hgb i ha
    simp only [tontineref11_Slots.l1]
    rw [if_pos (by omega), if_pos (by omega), if_pos (by omega), rd_get ha, rd_get? (hg i ha), w64 (n := (i : Int) + 1) (by omega) (by omega), show (i : Int) + 1 = ((i + 1 : Nat) : Int) by omega]
    by_cases c : (g i : Int) ≥ l[i]
    · rw [if_pos c]
      refine best_loop l out gl g hl hM hgl hg hgb R K hend d (i + 1) k b (by omega) (by omega) ?_
      rcases hb with ⟨rfl, hb⟩ | ⟨e, rfl, he, hge, hb⟩
      · refine .inl ⟨rfl, fun d hd => ?_⟩
        by_cases e : d = i
        · subst e; omega
        · exact hb d (by omega)
      · refine .inr ⟨e, rfl, by omega, hge, fun d hd hlt => ?_⟩
        by_cases e' : d = i
        · subst e'; omega
        · exact hb d (by omega) hlt
    · rw [if_neg c]
      rcases hb with ⟨rfl, hb⟩ | ⟨e, rfl, he, hge, hb⟩
      · rw [if_pos (by omega)]
        refine best_loop l out gl g hl hM hgl hg hgb R K hend d (i + 1) k _ (by omega) (by omega) (.inr ⟨i, rfl, by omega, by omega, fun d hd hlt => ?_⟩)
        by_cases e' : d = i
        · subst e'; have := qle_total l (g d, d) (g d, d); simpa using this
        · have := hb d (by omega); omega
      · have he' : e < l.length := by omega
        have hxe := hM l[e] (List.getElem_mem _)
        have hce : (cnt l e : Int) = l[e] := by simp [cnt, List.getD, he']; omega
        have hgeb := hgb e he'
        rw [if_neg (by omega), if_pos (by omega), if_pos (by omega), if_pos (by omega), rd_get he', rd_get? (hg e he')]
        rw [w64 (n := 2 * (g i : Int)) (by omega) (by omega), w64 (n := 2 * (g i : Int) + 1) (by omega) (by omega), w64 (n := 2 * (g e : Int)) (by omega) (by omega), w64 (n := 2 * (g e : Int) + 1) (by omega) (by omega)]
        have m1 : (2 * (g i : Int) + 1) * l[e] = (((2 * g i + 1) * cnt l e : Nat) : Int) := by rw [← hce]; simp
        have m2 : (2 * (g e : Int) + 1) * l[i] = (((2 * g e + 1) * cnt l i : Nat) : Int) := by rw [← hc]; simp
        have b1 : (2 * g i + 1) * cnt l e ≤ 129 * 64 := Nat.mul_le_mul (by omega) (by omega)
        have b2 : (2 * g e + 1) * cnt l i ≤ 129 * 64 := Nat.mul_le_mul (by omega) (by omega)
        rw [m1, m2, w64n (by omega), w64n (by omega)]
        by_cases c3 : (2 * g i + 1) * cnt l e < (2 * g e + 1) * cnt l i
        · rw [if_pos (by omega)]
          refine best_loop l out gl g hl hM hgl hg hgb R K hend d (i + 1) k _ (by omega) (by omega) (.inr ⟨i, rfl, by omega, by omega, fun d hd hlt => ?_⟩)
          by_cases e' : d = i
          · subst e'; have := qle_total l (g d, d) (g d, d); simpa using this
          · refine qle_trans (y := (g e, e)) ?_ ?_ ?_ (qle_iff.2 (.inl c3)) (hb d (by omega) hlt)
            · simp only; omega
            · simp only; omega
            · simp only; omega
        · rw [if_neg (by omega)]
          refine best_loop l out gl g hl hM hgl hg hgb R K hend d (i + 1) k _ (by omega) (by omega) (.inr ⟨e, rfl, by omega, hge, fun d hd hlt => ?_⟩)
          by_cases e' : d = i
          · subst e'; rw [qle_iff]; simp only; omega
          · exact hb d (by omega) hlt
theorem slots_loop (l : List Int) (hs : sumOf l ≠ 0) : ∀ (d m k : Nat) (gl : List Int), m + d = (qsort l).length → d * 10 + 20 < k → gl.length = l.length → (∀ e, e < l.length → gl[e]? = some (hadOf l m e : Int)) →
    tontineref11_Slots.l0 k l (((qsort l).take m).map fun x => (x.2 : Int)) gl = some ((qsort l).map fun x => (x.2 : Int)) := by
  obtain ⟨s1, s2, s3, s4, s5⟩ := (sumOf_ne l).1 hs
  have hM : ∀ x ∈ l, 0 ≤ x ∧ x ≤ 64 := fun x hx => by
    have := List.all_eq_true.1 s3 x hx; simpa only [mayK, Bool.and_eq_true, decide_eq_true_eq] using this
  have hql := qsort_length (l := l) (fun x hx => (hM x hx).1)
  have hcb : ∀ e, cnt l e ≤ 64 := fun e => by
    unfold cnt
    cases h : l[e]? with
    | none => simp [List.getD, h]
    | some x => have := hM x (List.mem_of_getElem? h); simp [List.getD, h]; omega
  intro d
  induction d with
  | zero =>
    intro m k gl h hk hgl hg
    obtain ⟨k, rfl⟩ := rounds (show 0 < k by omega)
    simp only [tontineref11_Slots.l0]
    rw [total_tells l (fun x hx => by have := hM x hx; omega) (by omega) k (by omega)]
    simp only [Option.bind_some, List.length_map, List.length_take]
    rw [if_neg (by omega), List.take_of_length_le (by omega)]
  | succ d ih =>
    intro m k gl h hk hgl hg
    obtain ⟨k, rfl⟩ := rounds (show 0 < k by omega)
    have hm : m < (qsort l).length := by omega
    simp only [tontineref11_Slots.l0]
    rw [total_tells l (fun x hx => by have := hM x hx; omega) (by omega) k (by omega)]
    simp only [Option.bind_some, List.length_map, List.length_take]
    rw [if_pos (by omega)]
    have hgb : ∀ e, e < l.length → hadOf l m e ≤ 64 := fun e he => Nat.le_trans (hadOf_le (by omega) he) (hcb e)
    refine best_loop l _ gl (hadOf l m) s2 hM hgl hg hgb _ (d * 10 + 21) ?_ l.length 0 k (-1) (by omega) (by omega) (.inl ⟨rfl, fun d hd => by omega⟩)
    intro b hb k hk2
    obtain ⟨n1, n2, n3, n4⟩ := next_is hm
    obtain ⟨x, hx⟩ : ∃ x, x = (qsort l)[m] := ⟨_, rfl⟩
    rw [← hx] at n1 n2 n3 n4
    have hbx : b = (x.2 : Int) := by
      rcases hb with ⟨_, hb⟩ | ⟨e, rfl, he, hge, hb⟩
      · have := hb x.2 n1; omega
      · have l1 := n4 e he hge
        have l2 := hb x.2 n1 n3
        rw [← n2] at l2
        have := qle_anti (x := x) (y := (hadOf l m e, e)) (by omega) l1 l2
        rw [this]
    subst hbx
    simp only [tontineref11_Slots.l1]
    have hlen : ((((qsort l).take m).map fun x => (x.2 : Int)).length) < 17592186044416 := by
      rw [List.length_map, List.length_take]; omega
    have hmb := hgb x.2 n1
    rw [if_neg (by omega), if_pos (by omega), if_pos (by omega), if_pos hlen, rd_get? (hg x.2 n1), w64 (by omega) (by omega), Int.toNat_natCast]
    have htk : (qsort l).take (m + 1) = (qsort l).take m ++ [x] := by rw [hx]; simp
    have := ih (m + 1) k (gl.set x.2 ((hadOf l m x.2 : Int) + 1)) (by omega) (by omega) (by rw [List.length_set]; exact hgl) (fun e he => by
      have hh : hadOf l (m + 1) e = hadOf l m e + if x.2 = e then 1 else 0 := by
        simp only [hadOf, htk, List.filter_append, List.length_append, List.filter_cons, List.filter_nil]
        by_cases c : x.2 = e <;> simp [c]
      rw [List.getElem?_set, hh]
      by_cases c : x.2 = e
      · subst c; simp [hgl, n1]
      · rw [if_neg c, if_neg c, hg e he]; simp)
    rw [htk, List.map_append] at this
    exact this
theorem ref_slots (l : List Int) (k : Nat) (hk : 2 * l.length + 1000 < k) (hl : l.length < 4611686018427387904) : tontineref11_Slots.f k l = some (slotsOf l) := by
  unfold tontineref11_Slots.f
  rw [may_tells l k (by omega) hl]
  simp only [Option.bind_some]
  by_cases hs : sumOf l = 0
  · rw [show decide (sumOf l ≠ 0) = false by simp [hs]]
    simp [slotsOf, hs]
  · obtain ⟨s1, s2, s3, s4, s5⟩ := (sumOf_ne l).1 hs
    rw [show decide (sumOf l ≠ 0) = true by simp [hs]]
    have hM : ∀ x ∈ l, 0 ≤ x := fun x hx => by
      have := List.all_eq_true.1 s3 x hx; simp only [mayK, Bool.and_eq_true, decide_eq_true_eq] at this; exact this.1
    have hql := qsort_length hM
    rw [if_pos rfl, if_pos (by omega), if_pos (by omega), Int.toNat_natCast]
    have := slots_loop l hs (qsort l).length 0 k (List.replicate l.length 0) (by omega) (by omega) (by simp) (fun e he => by simp [he, hadOf])
    rw [slotsOf, if_neg hs]
    simpa using this
end Go.Proofs.Ytgkhnmeemiloaaa
