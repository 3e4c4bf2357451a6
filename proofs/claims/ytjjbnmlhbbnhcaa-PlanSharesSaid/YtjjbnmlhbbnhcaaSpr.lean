/- spread.sum: its walk. Conditions: none. -/
import Derived.Test.YtjjbnmlhbbnhcaaBaseC
import Derived.Test.YtjjbnmlhbbnhcaaOpen
set_option linter.unusedVariables false
set_option linter.unusedSimpArgs false
namespace Go.Proofs.Ytjjbnmlhbbnhcaa
open Go.RowKit

/-- What a slice of ints shows, to be read: its cells alone. -/
def RdI (w : World) (v : Value) (xs : List Int) : Prop := ∃ ao c, v = .slice ao xs.length c ∧ (ao = none → xs = []) ∧ ∀ a, ao = some a → ∀ j u, xs[j]? = some u → w.cell? (a.add j) = some (.int .i64 u)
theorem RdI.upd {w w' : World} {v : Value} {xs : List Int} (h : RdI w v xs) (u : Upd NoB w w') : RdI w' v xs := by
  obtain ⟨ao, c, rfl, h1, h2⟩ := h
  refine ⟨ao, c, rfl, h1, fun a ha j x hx => ?_⟩
  have hc := h2 a ha j x hx
  exact (World.cell?_of_block (w := w) (a := a.add j) (u.keep _ (World.block_lt_of_cell? w _ hc) (fun h => h))).trans hc
theorem RdI.at {w : World} {v : Value} {xs : List Int} (h : RdI w v xs) {i : Nat} (hi : i < xs.length) : ∃ b o c, v = .slice (some ⟨b, o, none⟩) xs.length c ∧ ∀ i x, xs[i]? = some x → w.cell? ⟨b, o + i, none⟩ = some (.int .i64 x) := by
  obtain ⟨ao, c, rfl, h3, h4⟩ := h
  cases ao with
  | none => have := h3 rfl; subst this; simp at hi
  | some a =>
    obtain ⟨b, o, s⟩ := a
    have hc := h4 _ rfl
    have hs : s = none := by
      have h0 := hc 0 (xs[0]'(by omega)) (by simp)
      cases s with
      | none => rfl
      | some z => simp [Addr.add, World.cell?] at h0; split at h0 <;> simp at h0
    subst hs
    refine ⟨b, o, c, rfl, fun i x hx => ?_⟩
    rw [← Addr.add_lit]
    exact hc _ x hx
def mayK (k : Int) : Bool := decide (0 ≤ k) && decide (k ≤ 64)
/-- What sum tells. -/
def sumOf (l : List Int) : Int := if l.all mayK && decide (1 ≤ l.length) && decide (l.length ≤ 6) && decide (l.sum ≤ 64) then l.sum else 0

theorem sum_bound : ∀ (l : List Int), l.all mayK = true → 0 ≤ l.sum ∧ l.sum ≤ 64 * (l.length : Int)
  | [], _ => by simp
  | x :: r, h => by
    simp only [List.all_cons, Bool.and_eq_true] at h
    have h1 : 0 ≤ x ∧ x ≤ 64 := by have := h.1; simp only [mayK, Bool.and_eq_true, decide_eq_true_eq] at this; exact this
    have := sum_bound r h.2
    simp only [List.sum_cons, List.length_cons]
    omega

set_option maxHeartbeats 4000000 in
set_option maxRecDepth 100000 in
theorem sp_sum_fair (w : World) (v : Value) (l : List Int) (h : RdI w v l) (hn : l.length ≤ 1000000000) :
    Calls Try.prog 37 #[v] w fun e w' => e = .returned (.int .i64 (sumOf l)) ∧ w = w' := by
  have h' := h
  obtain ⟨ao, c, rfl, _⟩ := h'
  have HR := Lib.hid h
  clear h
  go_enter Try.func37, Try.ntmps37
  go_wp2
  go_loopw [3, 8] (fun s i wr => ∃ k : Nat, k ≤ l.length ∧ i = .int .i64 k ∧ s = .int .i64 (l.take k).sum ∧ Hid ((l.take k).all mayK = true) ∧ w = wr) (fun _ i _ => l.length - (intOf i).toNat)
  case atStart => exact ⟨0, Nat.zero_le _, rfl, by simp, Lib.hid (by simp), rfl⟩
  case round =>
    obtain ⟨k, hk, rfl, rfl, hH, rfl⟩ := hrel
    obtain ⟨b1, b2⟩ := sum_bound _ hH.out
    have b3 : (l.take k).length ≤ k := List.length_take_le _ _
    by_cases hlt : k < l.length
    · obtain ⟨y, hy⟩ : ∃ y, l[k]? = some y := ⟨l[k], by simp [hlt]⟩
      obtain ⟨sb, o, c', hv, hcell⟩ := HR.out.at hlt
      cases hv
      have g0 : w.cell? ⟨sb, o + k, none⟩ = some (.int .i64 y) := hcell k y hy
      have ht : l.take (k + 1) = l.take k ++ [y] := by rw [List.take_add_one, hy]; rfl
      have HT := Lib.hid ht
      have HY := Lib.hid hy
      obtain ⟨s, hs⟩ : ∃ s, s = (l.take k).sum := ⟨_, rfl⟩
      rw [← hs] at b1 b2 ⊢
      have HSS := Lib.hid hs
      clear hcell hy ht hs
      have hb4 : s ≤ 64000000000 := by omega
      by_cases c1 : 0 ≤ y
      · by_cases c2 : y ≤ 64
        · have d1 : decide (y < 0) = false := decide_eq_false (by omega)
          have d2 : decide (64 < y) = false := decide_eq_false (by omega)
          go_wp2
          refine ⟨⟨k + 1, hlt, by go_num, by rw [HT.out, List.sum_append, ← HSS.out]; simp, Lib.hid (by rw [HT.out, List.all_append, hH.out]; simp [mayK, c1, c2]), trivial⟩, by simp [intOf]; omega⟩
        · have d1 : decide (y < 0) = false := decide_eq_false (by omega)
          have d2 : decide (64 < y) = true := decide_eq_true (by omega)
          go_wp2
          go_ret
          refine ⟨?_, rfl⟩
          have : l.all mayK = false := by
            rw [List.all_eq_false]; exact ⟨y, List.mem_of_getElem? HY.out, by simp [mayK]; omega⟩
          simp [sumOf, this]
      · have d1 : decide (y < 0) = true := decide_eq_true (by omega)
        go_wp2
        go_ret
        refine ⟨?_, rfl⟩
        have : l.all mayK = false := by
          rw [List.all_eq_false]; exact ⟨y, List.mem_of_getElem? HY.out, by simp [mayK]; omega⟩
        simp [sumOf, this]
    · have hke : k = l.length := by omega
      subst hke
      rw [List.take_of_length_le (Nat.le_refl _)] at hH b1 b2 b3 ⊢
      obtain ⟨s, hs⟩ : ∃ s, s = l.sum := ⟨_, rfl⟩
      have HSS := Lib.hid hs
      rw [← hs] at b1 b2 ⊢
      clear hs
      have hsum : sumOf l = if 1 ≤ l.length ∧ l.length ≤ 6 ∧ s ≤ 64 then s else 0 := by
        unfold sumOf
        rw [hH.out, ← HSS.out]
        by_cases a1 : 1 ≤ l.length <;> by_cases a2 : l.length ≤ 6 <;> by_cases a3 : s ≤ 64 <;> simp [a1, a2, a3]
      have HSUM := Lib.hid hsum
      clear hsum
      by_cases a1 : 1 ≤ l.length
      · have d1 : decide ((l.length : Int) < 1) = false := decide_eq_false (by omega)
        have d1' : decide (l.length < 1) = false := decide_eq_false (by omega)
        by_cases a2 : l.length ≤ 6
        · have d2 : decide ((6 : Int) < (l.length : Int)) = false := decide_eq_false (by omega)
          have d2' : decide (6 < l.length) = false := decide_eq_false (by omega)
          by_cases a3 : s ≤ 64
          · have d3 : decide (64 < s) = false := decide_eq_false (by omega)
            go_wp2
            go_ret
            exact ⟨by rw [HSUM.out, if_pos ⟨a1, a2, a3⟩]; rfl, rfl⟩
          · have d3 : decide (64 < s) = true := decide_eq_true (by omega)
            go_wp2
            go_ret
            exact ⟨by rw [HSUM.out, if_neg (by omega)]; rfl, rfl⟩
        · have d2 : decide ((6 : Int) < (l.length : Int)) = true := decide_eq_true (by omega)
          have d2' : decide (6 < l.length) = true := decide_eq_true (by omega)
          go_wp2
          go_ret
          exact ⟨by rw [HSUM.out, if_neg (by omega)]; rfl, rfl⟩
      · have d1 : decide ((l.length : Int) < 1) = true := decide_eq_true (by omega)
        have d1' : decide (l.length < 1) = true := decide_eq_true (by omega)
        go_wp2
        go_ret
        exact ⟨by rw [HSUM.out, if_neg (by omega)]; rfl, rfl⟩
set_option maxHeartbeats 4000000 in
set_option maxRecDepth 100000 in
theorem sp_sum_long (w : World) (v : Value) (l : List Int) (h : RdI w v l) (hn : 1000000000 < l.length) (hm : l.length ≤ 9223372036854775807) :
    Calls Try.prog 37 #[v] w fun e w' => e = .returned (.int .i64 (0 : Int)) ∧ w = w' := by
  have h' := h
  obtain ⟨ao, c, rfl, _⟩ := h'
  have HR := Lib.hid h
  clear h
  go_enter Try.func37, Try.ntmps37
  go_wp2
  go_loopw [3, 8] (fun s i wr => ∃ (k : Nat) (z : Int), k ≤ l.length ∧ i = .int .i64 k ∧ s = .int .i64 z ∧ w = wr) (fun _ i _ => l.length - (intOf i).toNat)
  case atStart => exact ⟨0, 0, Nat.zero_le _, rfl, rfl, rfl⟩
  case round =>
    obtain ⟨k, z, hk, rfl, rfl, rfl⟩ := hrel
    by_cases hlt : k < l.length
    · obtain ⟨y, hy⟩ : ∃ y, l[k]? = some y := ⟨l[k], by simp [hlt]⟩
      obtain ⟨sb, o, c', hv, hcell⟩ := HR.out.at hlt
      cases hv
      have g0 : w.cell? ⟨sb, o + k, none⟩ = some (.int .i64 y) := hcell k y hy
      clear hcell hy
      by_cases c1 : 0 ≤ y
      · by_cases c2 : y ≤ 64
        · have d1 : decide (y < 0) = false := decide_eq_false (by omega)
          have d2 : decide (64 < y) = false := decide_eq_false (by omega)
          go_wp2
          refine ⟨⟨k + 1, _, hlt, by go_num, rfl, trivial⟩, by simp [intOf]; omega⟩
        · have d1 : decide (y < 0) = false := decide_eq_false (by omega)
          have d2 : decide (64 < y) = true := decide_eq_true (by omega)
          go_wp2
          go_ret
          exact ⟨rfl, rfl⟩
      · have d1 : decide (y < 0) = true := decide_eq_true (by omega)
        go_wp2
        go_ret
        exact ⟨rfl, rfl⟩
    · have d1 : decide ((l.length : Int) < 1) = false := decide_eq_false (by omega)
      have d1' : decide (l.length < 1) = false := decide_eq_false (by omega)
      have d2 : decide ((6 : Int) < (l.length : Int)) = true := decide_eq_true (by omega)
      have d2' : decide (6 < l.length) = true := decide_eq_true (by omega)
      go_wp2
      go_ret
      exact ⟨rfl, rfl⟩
theorem sp_sum (w : World) (v : Value) (l : List Int) (h : RdI w v l) (hm : l.length ≤ 9223372036854775807) :
    Calls Try.prog 37 #[v] w fun e w' => e = .returned (.int .i64 (sumOf l)) ∧ w = w' := by
  by_cases hn : l.length ≤ 1000000000
  · exact sp_sum_fair w v l h hn
  · rw [show sumOf l = 0 by
      unfold sumOf
      rw [if_neg]
      simp only [Bool.and_eq_true, decide_eq_true_eq]
      omega]
    exact sp_sum_long w v l h (by omega) hm
end Go.Proofs.Ytjjbnmlhbbnhcaa
