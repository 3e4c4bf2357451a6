/- SpreadCounts: each domain has as many slots as it is to have, and all slots are somebody's. Conditions: none. -/
import Derived.Test.YtgkhnmeemiloaaaSpe
import Derived.Test.YtgkhnmeemiloaaaPSx4
namespace Go.Proofs.Ytgkhnmeemiloaaa.Pure
open Go.RowKit Go.Proofs.Ytgkhnmeemiloaaa Go.Proofs.Ytgkhnmeemiloaaa.PS Go.Proofs.YtgkhnmeemiloaaaW.PrintWords Go.Proofs.YtgkhnmeemiloaaaW.PrintLast
theorem count_loop (s : List Int) (d : Int) (hs : s.length ≤ 1000) : ∀ (e i k : Nat), i + e = s.length → e < k → 
    tontineref11_Count.l0 k s d (((s.take i).filter fun x => x == d).length : Int) (i : Int) = some ((s.filter fun x => x == d).length : Int)
  | 0, i, k, h, hk => by
    obtain ⟨k, rfl⟩ := rounds (show 0 < k by omega)
    simp only [tontineref11_Count.l0]
    rw [if_neg (by omega), List.take_of_length_le (by omega)]
  | e + 1, i, k, h, hk => by
    obtain ⟨k, rfl⟩ := rounds (show 0 < k by omega)
    have ha : i < s.length := by omega
    have hl := List.length_filter_le (fun x => x == d) (s.take i)
    have hl2 := List.length_take_le i s
    simp only [tontineref11_Count.l0]
    rw [if_pos (by omega), if_pos (by omega), rd_get ha, w64 (n := (i : Int) + 1) (by omega) (by omega), w64 (by omega) (by omega), show (i : Int) + 1 = ((i + 1 : Nat) : Int) by omega]
    have := count_loop s d hs e (i + 1) k (by omega) (by omega)
    have ht : s.take (i + 1) = s.take i ++ [s[i]] := by simp
    rw [ht, List.filter_append, List.length_append] at this
    by_cases c : s[i] = d
    · rw [if_pos c]; simp only [c, List.filter_cons, List.filter_nil, beq_self_eq_true, if_true, List.length_singleton] at this; exact this
    · rw [if_neg c]; simpa [c] using this
theorem count_tells (s : List Int) (d : Int) (hs : s.length ≤ 1000) (k : Nat) (hk : s.length < k) : tontineref11_Count.f k s d = some ((s.filter fun x => x == d).length : Int) := by
  unfold tontineref11_Count.f
  have := count_loop s d hs s.length 0 k (by omega) hk
  simpa using this
theorem check_loop (L s : List Int) (f : Int) (hs : s.length ≤ 1000) (hL : L.length ≤ 6) (hc : ∀ d, d < L.length → ((s.filter fun x => x == (d : Int)).length : Int) = L.getD d 0) (hf : (s.length : Int) = f) : ∀ (e i k : Nat), i + e = L.length → e + 1001 < k → 
    tontinelaw12_SpreadCounts.l1 k L f s (i : Int) = some true
  | 0, i, k, h, hk => by
    obtain ⟨k, rfl⟩ := rounds (show 0 < k by omega)
    simp only [tontinelaw12_SpreadCounts.l1]
    rw [if_neg (by omega), hf]; simp
  | e + 1, i, k, h, hk => by
    obtain ⟨k, rfl⟩ := rounds (show 0 < k by omega)
    have ha : i < L.length := by omega
    simp only [tontinelaw12_SpreadCounts.l1]
    rw [if_pos (by omega), count_tells s _ hs k (by omega)]
    simp only [Option.bind_some]
    rw [if_pos (by omega), hc i ha, rd_get ha, w64 (n := (i : Int) + 1) (by omega) (by omega), show (i : Int) + 1 = ((i + 1 : Nat) : Int) by omega, if_pos (by simp [List.getD, ha])]
    exact check_loop L s f hs hL hc hf e (i + 1) k (by omega) (by omega)
theorem make_loop (xs : List Int) (hx : ∀ x ∈ xs, 0 ≤ x ∧ x < 256) (hl : xs.length ≤ 6) : ∀ (e i k : Nat), i + e = xs.length → e + 1200 < k → 
    tontinelaw12_SpreadCounts.l0 k xs (modL (xs.take i)) (modL (xs.take i)).sum (i : Int) = some true
  | 0, i, k, h, hk => by
    obtain ⟨k, rfl⟩ := rounds (show 0 < k by omega)
    simp only [tontinelaw12_SpreadCounts.l0]
    rw [if_neg (by omega), List.take_of_length_le (by omega)]
    obtain ⟨b1, b2, b3⟩ := modL_facts xs hx
    have hle : (modL xs).sum ≤ 1000000 := by omega
    show (spread_Slots.f (modL xs)).bind _ = _
    simp only [spread_Slots.f, Option.bind_some]
    obtain ⟨k, rfl⟩ := rounds (show 0 < k by omega)
    by_cases c : (modL xs).sum < 1
    · rw [if_pos c]
      simp only [tontinelaw12_SpreadCounts.j2, if_true]
      rw [slots_none (by by_cases h : sumOf (modL xs) = 0; · exact h
                         · have := (sumOf_ne _).1 h; omega)]; rfl
    · rw [if_neg c]
      by_cases c2 : (modL xs).sum > 64
      · simp only [tontinelaw12_SpreadCounts.j2, decide_eq_true c2, if_true]
        rw [slots_none (by by_cases h : sumOf (modL xs) = 0; · exact h
                           · have := (sumOf_ne _).1 h; omega)]; rfl
      · simp only [tontinelaw12_SpreadCounts.j2, decide_eq_false c2, Bool.false_eq_true, if_false]
        have hne : sumOf (modL xs) ≠ 0 := (sumOf_ne _).2 ⟨by
          by_cases h0 : xs = []
          · subst h0; simp [modL] at c
          · have := List.length_pos_iff.2 h0; omega, by omega, List.all_eq_true.2 (fun x hx => by have := b1 x hx; simp only [mayK, Bool.and_eq_true, decide_eq_true_eq]; omega), by omega, by omega⟩
        have hsl := slots_len hne
        exact check_loop (modL xs) _ _ (by omega) (by omega) (fun d hd => by
          rw [slots_count hne hd, cnt_get (fun x hx => (b1 x hx).1) hd]; simp [List.getD, hd]) hsl (modL xs).length 0 k (by omega) (by omega)
  | e + 1, i, k, h, hk => by
    obtain ⟨k, rfl⟩ := rounds (show 0 < k by omega)
    obtain ⟨s1, s2, s3, s4, s5⟩ := modL_step xs hx hl (show i < xs.length by omega)
    simp only [tontinelaw12_SpreadCounts.l0]
    rw [if_pos (by omega), if_pos (by omega), if_pos s1, s2]
    simp only [Option.bind_some]
    rw [if_pos s3, s4, w64 (n := (i : Int) + 1) (by omega) (by omega), show (i : Int) + 1 = ((i + 1 : Nat) : Int) by omega]
    exact make_loop xs hx hl e (i + 1) k (by omega) (by omega)
theorem SpreadCounts : tontinelaw12_SpreadCounts.Pure := by
  intro l0 _ _ hw
  refine ⟨9000, ?_⟩
  unfold tontinelaw12_SpreadCounts.f
  rw [known_tells 9000 (by omega)]
  simp only [Option.bind_some, if_true]
  by_cases c : (l0.length : Int) < 1
  · rw [if_pos c]; simp [tontinelaw12_SpreadCounts.j0]
  · rw [if_neg c]
    by_cases c2 : (l0.length : Int) > 6
    · rw [decide_eq_true c2]; simp [tontinelaw12_SpreadCounts.j0]
    · rw [decide_eq_false c2]
      show tontinelaw12_SpreadCounts.j0 (8999 + 1) l0 false = some true
      simp only [tontinelaw12_SpreadCounts.j0, Bool.false_eq_true, if_false]
      exact make_loop l0 (fun x hx => u8_wf (hw x hx)) (by omega) l0.length 0 8999 (by omega) (by omega)
end Go.Proofs.Ytgkhnmeemiloaaa.Pure
