/- Sorted quanta: what stands ahead of each; the least of those that are left; counting. Conditions: none. -/
import Derived.Test.YtjjbnmlhbbnhcaaSlp
set_option linter.unusedVariables false
set_option linter.unusedSimpArgs false
namespace Go.Proofs.Ytjjbnmlhbbnhcaa

theorem quanta_nodup (l : List Int) : (quanta l).Nodup := by
  unfold quanta
  rw [List.Nodup, List.pairwise_flatMap]
  constructor
  · intro d _
    rw [List.pairwise_map]
    exact (List.nodup_range (n := cnt l d)).imp (fun h e => h (by simpa using congrArg Prod.fst e))
  · refine (List.nodup_range (n := l.length)).imp ?_
    intro a b hab x hx y hy e
    obtain ⟨k, _, rfl⟩ := List.mem_map.1 hx
    obtain ⟨m, _, rfl⟩ := List.mem_map.1 hy
    exact hab (by simpa using congrArg Prod.snd e)
theorem qsort_nodup (l : List Int) : (qsort l).Nodup := (qsort_perm l).nodup_iff.2 (quanta_nodup l)
theorem mem_qsort {l : List Int} {x : Nat × Nat} : x ∈ qsort l ↔ x.2 < l.length ∧ x.1 < cnt l x.2 := (qsort_perm l).mem_iff.trans mem_quanta
/-- In order, by places. -/
theorem qsort_le {l : List Int} {i j : Nat} (hij : i ≤ j) (hj : j < (qsort l).length) : qle l ((qsort l)[i]'(by omega)) ((qsort l)[j]) = true := by
  by_cases e : i = j
  · subst e
    have := qle_total l (qsort l)[i] (qsort l)[i]
    simpa using this
  · exact List.pairwise_iff_getElem.1 (qsort_pairwise l) i j (by omega) hj (by omega)
theorem qsort_place {l : List Int} {x : Nat × Nat} (h : x ∈ qsort l) : ∃ i, ∃ hi : i < (qsort l).length, (qsort l)[i] = x := List.mem_iff_getElem.1 h
/-- Whose so many are ahead. -/
def hadOf (l : List Int) (m d : Nat) : Nat := (((qsort l).take m).filter fun x => x.2 == d).length
theorem take_get_mem {α : Type} {xs : List α} {m i : Nat} (hi : i < xs.length) (h : i < m) : xs[i] ∈ xs.take m := by
  rw [List.mem_iff_getElem]
  exact ⟨i, by rw [List.length_take]; omega, by simp⟩
theorem mem_take_place {α : Type} {xs : List α} {m : Nat} {x : α} (h : x ∈ xs.take m) : ∃ i, ∃ hi : i < xs.length, i < m ∧ xs[i] = x := by
  obtain ⟨i, hi, e⟩ := List.mem_iff_getElem.1 h
  rw [List.length_take] at hi
  exact ⟨i, by omega, by omega, by simpa using e⟩
/-- Ahead of a place stand the first of each domain. -/
theorem ahead (l : List Int) : ∀ m, m ≤ (qsort l).length → ∀ d k, d < l.length → ((k, d) ∈ (qsort l).take m ↔ k < hadOf l m d)
  | 0, _, d, k, _ => by simp [hadOf]
  | m + 1, hm, d, k, hd => by
    have ih := ahead l m (by omega)
    have hml : m < (qsort l).length := by omega
    obtain ⟨x, hx⟩ : ∃ x, x = (qsort l)[m] := ⟨_, rfl⟩
    have htk : (qsort l).take (m + 1) = (qsort l).take m ++ [x] := by rw [hx]; simp
    have hxm : x ∈ qsort l := by rw [hx]; exact List.getElem_mem hml
    obtain ⟨x2, x1⟩ := mem_qsort.1 hxm
    have hnot : x ∉ (qsort l).take m := by
      intro h
      obtain ⟨i, hi, him, e⟩ := mem_take_place h
      have := (List.getElem_inj (qsort_nodup l)).1 (e.trans hx)
      omega
    have hge : hadOf l m x.2 ≤ x.1 := by
      exact Nat.le_of_not_lt (fun h => hnot ((ih x.2 x.1 x2).2 h))
    have heq : x.1 = hadOf l m x.2 := by
      by_cases h : hadOf l m x.2 < x.1
      · exfalso
        have hin : (hadOf l m x.2, x.2) ∈ qsort l := mem_qsort.2 ⟨x2, by simp only; omega⟩
        obtain ⟨i, hi, e⟩ := qsort_place hin
        have him : m ≤ i := by
          by_cases c : m ≤ i
          · exact c
          · exfalso
            have := (ih x.2 (hadOf l m x.2) x2).1 (by rw [← e]; exact take_get_mem hi (by omega))
            omega
        have hle := qsort_le him hi
        rw [← hx, e, qle_iff] at hle
        simp only at hle
        have hc : 0 < cnt l x.2 := by omega
        have : (2 * x.1 + 1) * cnt l x.2 ≤ (2 * hadOf l m x.2 + 1) * cnt l x.2 := by omega
        have := Nat.le_of_mul_le_mul_right this hc
        omega
      · omega
    have hh : hadOf l (m + 1) d = hadOf l m d + if x.2 = d then 1 else 0 := by
      simp only [hadOf, htk, List.filter_append, List.length_append, List.filter_cons, List.filter_nil]
      by_cases c : x.2 = d <;> simp [c]
    rw [hh, htk, List.mem_append, List.mem_singleton, ih d k hd]
    by_cases c : x.2 = d
    · subst c
      simp only [if_true]
      constructor
      · rintro (h | h)
        · omega
        · have : k = x.1 := by rw [← h]
          omega
      · intro h
        by_cases h2 : k < hadOf l m x.2
        · exact .inl h2
        · exact .inr (Prod.ext (by simp only; omega) rfl)
    · simp only [if_neg c, Nat.add_zero]
      constructor
      · rintro (h | h)
        · exact h
        · exact absurd (by rw [← h]) c
      · exact .inl
/-- Who is next is the least of each one's next. -/
theorem next_is {l : List Int} {m : Nat} (hm : m < (qsort l).length) : (qsort l)[m].2 < l.length ∧ (qsort l)[m].1 = hadOf l m (qsort l)[m].2 ∧ hadOf l m (qsort l)[m].2 < cnt l (qsort l)[m].2 ∧ ∀ d, d < l.length → hadOf l m d < cnt l d → qle l (qsort l)[m] (hadOf l m d, d) = true := by
  obtain ⟨x, hx⟩ : ∃ x, x = (qsort l)[m] := ⟨_, rfl⟩
  rw [← hx]
  have hxm : x ∈ qsort l := by rw [hx]; exact List.getElem_mem hm
  obtain ⟨x2, x1⟩ := mem_qsort.1 hxm
  have h1 : x ∈ (qsort l).take (m + 1) := by rw [hx]; exact take_get_mem hm (by omega)
  have h0 : x ∉ (qsort l).take m := by
    intro h
    obtain ⟨i, hi, him, e⟩ := mem_take_place h
    have := (List.getElem_inj (qsort_nodup l)).1 (e.trans hx)
    omega
  have a1 := (ahead l (m + 1) (by omega) x.2 x.1 x2).1 h1
  have a0 : ¬ x.1 < hadOf l m x.2 := fun h => h0 ((ahead l m (by omega) x.2 x.1 x2).2 h)
  have hh : hadOf l (m + 1) x.2 = hadOf l m x.2 + 1 := by
    have htk : (qsort l).take (m + 1) = (qsort l).take m ++ [x] := by rw [hx]; simp
    simp [hadOf, htk, List.filter_append]
  have e1 : x.1 = hadOf l m x.2 := by omega
  refine ⟨x2, e1, by omega, fun d hd hlt => ?_⟩
  have hin : (hadOf l m d, d) ∈ qsort l := mem_qsort.2 ⟨hd, hlt⟩
  obtain ⟨i, hi, e⟩ := qsort_place hin
  have him : m ≤ i := by
    by_cases c : m ≤ i
    · exact c
    · exfalso
      have := (ahead l m (by omega) d (hadOf l m d) hd).1 (by rw [← e]; exact take_get_mem hi (by omega))
      omega
  have := qsort_le him hi
  rwa [← hx, e] at this
theorem hadOf_le {l : List Int} {m d : Nat} (hm : m ≤ (qsort l).length) (hd : d < l.length) : hadOf l m d ≤ cnt l d := by
  by_cases h : hadOf l m d ≤ cnt l d
  · exact h
  · exfalso
    have h2 := (ahead l m hm d (cnt l d) hd).2 (by omega)
    have := (mem_qsort.1 (List.mem_of_mem_take h2)).2
    simp only at this
    omega
theorem hadOf_all {l : List Int} {d : Nat} (hd : d < l.length) : hadOf l (qsort l).length d = cnt l d := by
  refine Nat.le_antisymm (hadOf_le (Nat.le_refl _) hd) ?_
  by_cases h : cnt l d ≤ hadOf l (qsort l).length d
  · exact h
  · exfalso
    have := (ahead l (qsort l).length (Nat.le_refl _) d (hadOf l (qsort l).length d) hd).1 (by rw [List.take_length]; exact mem_qsort.2 ⟨hd, by simp only; omega⟩)
    omega
theorem quanta_length (l : List Int) (h : ∀ x ∈ l, 0 ≤ x) : ((quanta l).length : Int) = l.sum := by
  have key : ∀ i, i ≤ l.length → (((List.range i).flatMap fun d => (List.range (cnt l d)).map fun k => (k, d)).length : Int) = (l.take i).sum := by
    intro i
    induction i with
    | zero => intro _; simp
    | succ i ih =>
      intro hi
      have h1 := ih (by omega)
      have hy : l[i]? = some l[i] := by simp
      have h0 := h l[i] (List.getElem_mem _)
      rw [List.range_succ, List.flatMap_append, List.length_append, List.take_add_one, hy, List.sum_append]
      simp only [List.flatMap_cons, List.flatMap_nil, List.append_nil, List.length_map, List.length_range, Option.toList_some, List.sum_cons, List.sum_nil]
      have : (cnt l i : Int) = l[i] := by simp [cnt, List.getD, hy]; omega
      omega
  have := key l.length (Nat.le_refl _)
  rw [List.take_length] at this
  exact this
theorem qsort_length {l : List Int} (h : ∀ x ∈ l, 0 ≤ x) : ((qsort l).length : Int) = l.sum := by rw [(qsort_perm l).length_eq]; exact quanta_length l h
/-- What is in order, and has the same members, is the sort. -/
theorem qsort_unique {l : List Int} {E : List (Nat × Nat)} (hn : E.Nodup) (hm : ∀ x, x ∈ E ↔ x.2 < l.length ∧ x.1 < cnt l x.2) (hp : E.Pairwise (fun a b => qle l a b = true)) : E = qsort l := by
  have p : E.Perm (qsort l) := (List.perm_ext_iff_of_nodup hn (qsort_nodup l)).2 (fun x => (hm x).trans mem_qsort.symm)
  refine List.Perm.eq_of_pairwise (le := fun a b => qle l a b = true) ?_ hp (qsort_pairwise l) p
  intro a b ha hb h1 h2
  have := (hm a).1 ha
  exact qle_anti (by omega) h1 h2
end Go.Proofs.Ytjjbnmlhbbnhcaa
