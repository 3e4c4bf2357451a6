/- The law TimerLast: its walk. Conditions: none. -/
import Derived.Test.YtgkhnmeemiloaaaTimK
import Derived.Test.YtgkhnmeemiloaaaOpen
import Derived.OpenShut
set_option linter.unusedVariables false
set_option linter.unusedSimpArgs false
namespace Go.Proofs.Ytgkhnmeemiloaaa
open Go.RowKit

def u8E : Enc Int := ⟨1, by decide, fun n => [.int .u8 n], fun _ => rfl, by intro a u hu; simp at hu; subst hu; rfl⟩
def lastL (l : List Int) (k : Nat) : List (Int × Int) := if k = 0 then [(1, 1000), (9, 2000)] else [(1, 1000), (5, l.getD (k - 1) 0), (9, 2000)]
theorem lastL_set (l : List Int) (k : Nat) : tmSet 5 (l.getD k 0) (lastL l k) = lastL l (k + 1) := by
  unfold lastL
  by_cases h : k = 0
  · subst h; simp [tmSet]
  · rw [if_neg h, if_neg (by omega)]; simp [tmSet]
theorem lastL_len (l : List Int) (k : Nat) : (lastL l k).length ≤ 3 := by unfold lastL; split <;> simp

/-- A cell of an argument, later on. -/
theorem rd_cell {α : Type} {E : Enc α} {w w' : World} {v : Value} {xs : List α} (h : Rd E w v xs) (hU : Upd NoB w w') : Rd E w' v xs := h.upd hU (fun _ _ _ _ _ h => h)

theorem last_due (t y : Int) (ht : t ≤ 255) : (restOf t [(1, 1000), (9, 2000)] = [(1, 1000), (9, 2000)] ∧ dueOf t [(1, 1000), (9, 2000)] = []) ∧
    (y ≤ t → restOf t [(1, 1000), (5, y), (9, 2000)] = [(1, 1000), (9, 2000)] ∧ dueOf t [(1, 1000), (5, y), (9, 2000)] = [5]) ∧
    (¬ y ≤ t → restOf t [(1, 1000), (5, y), (9, 2000)] = [(1, 1000), (5, y), (9, 2000)] ∧ dueOf t [(1, 1000), (5, y), (9, 2000)] = []) := by
  have e1 : ¬ (1000 ≤ t) := by omega
  have e2 : ¬ (2000 ≤ t) := by omega
  refine ⟨⟨by simp [restOf, e1, e2], by simp [dueOf, e1, e2]⟩, fun h => ⟨by simp [restOf, e1, e2, h], by simp [dueOf, e1, e2, h]⟩, fun h => ⟨by simp [restOf, e1, e2, h], by simp [dueOf, e1, e2, h]⟩⟩

set_option maxHeartbeats 4000000 in
set_option maxRecDepth 100000 in
theorem law_last (w : World) (ao : Option Addr) (c : Nat) (l : List Int) (drop : Bool) (tick : Int) (hrd : Rd u8E w (.slice ao l.length c) l) (hl : ∀ x ∈ l, 0 ≤ x ∧ x ≤ 255) (ht : 0 ≤ tick ∧ tick ≤ 255) (hmax : l.length ≤ 9223372036854775807) :
    Calls Try.prog 5 #[.slice ao l.length c, .bool drop, .int .u8 tick] w fun e w' => e = .returned (.bool true) ∧ Upd NoB w w' := by
  have HRD := Lib.hid hrd
  have HL := Lib.hid hl
  clear hrd hl
  by_cases h0 : l.length = 0
  · have h0' : ((l.length : Int) == 0) = true := by simp [h0]
    go_enter Try.func5, Try.ntmps5
    go_wp2_with (go_at_call 12; refine (tm_known w).mono ?_; rintro e w1 ⟨rfl, h1⟩; have H1 := Lib.hid h1; clear h1)
    go_ret
    exact ⟨rfl, H1.out⟩
  · have h0' : ((l.length : Int) == 0) = false := by simp; intro h; simp [h] at h0
    by_cases h20 : 20 < l.length
    · have h20' : decide ((20 : Int) < (l.length : Int)) = true := by simp; omega
      go_enter Try.func5, Try.ntmps5
      go_wp2_with (go_at_call 12; refine (tm_known w).mono ?_; rintro e w1 ⟨rfl, h1⟩; have H1 := Lib.hid h1; clear h1)
      go_ret
      exact ⟨rfl, H1.out⟩
    · have h20' : decide ((20 : Int) < (l.length : Int)) = false := by simp; omega
      go_enter Try.func5, Try.ntmps5
      go_wp2_with (first
        | (go_at_call 12; refine (tm_known w).mono ?_; rintro e w1 ⟨rfl, h1⟩; have H1 := Lib.hid h1; clear h1)
        | (go_at_call 13; refine (ts_new _).mono ?_; rintro e w2 ⟨b, rfl, h2⟩; have H2 := Lib.hid h2; clear h2))
      have hU2 : Upd NoB w w2 := by obtain ⟨_, _, _, hu⟩ := H2.out; exact H1.out.trans hu
      have hts : TS w w2 (.pointer (some ⟨b, 0, none⟩)) [] := by obtain ⟨F, g1, g2, g3⟩ := H2.out; exact ⟨F, g1, fun b hb => Nat.le_trans H1.out.size (g2 b hb), hU2⟩
      have HTS := Lib.hid hts
      clear hts hU2 H1 H2
      refine (ts_set HTS.out 1 1000 (by decide)).mono ?_
      rintro e w3 ⟨rfl, h3⟩
      have H3 := Lib.hid h3
      clear h3
      go_wp2_with fail
      refine (ts_set H3.out 9 2000 (by decide)).mono ?_
      rintro e w4 ⟨rfl, h4⟩
      rw [show tmSet 9 2000 (tmSet 1 1000 []) = lastL l 0 by rfl] at h4
      have H4 := Lib.hid h4
      clear h4 HTS H3
      go_wp2
      go_loopw [8] (fun i wr => ∃ k : Nat, k ≤ l.length ∧ i = .int .i64 k ∧ Hid (TS w wr (.pointer (some ⟨b, 0, none⟩)) (lastL l k))) (fun i _ => l.length - (intOf i).toNat)
      case atStart => exact ⟨0, Nat.zero_le _, rfl, H4.out⟩
      case round =>
        obtain ⟨k, hk, rfl, hT⟩ := hrel
        have hU : Upd NoB w wr := by obtain ⟨_, _, _, hu⟩ := hT.out; exact hu
        have hrd' := rd_cell HRD.out hU
        have HU := Lib.hid hU
        clear hU
        by_cases hlt : k < l.length
        · obtain ⟨y, hy⟩ : ∃ y, l[k]? = some y := ⟨l[k], by simp [hlt]⟩
          have hy' : l.getD k 0 = y := by simp [List.getD, hy]
          have hyb := HL.out y (List.mem_of_getElem? hy)
          obtain ⟨ab, o, c', hv, _, _, hcell⟩ := hrd'.at hlt
          cases hv
          have g0 : wr.cell? ⟨ab, o + k, none⟩ = some (.int .u8 y) := by have := hcell k 0 y _ hy rfl; simpa [u8E] using this
          have hset := ts_set hT.out 5 y (by have := lastL_len l k; omega)
          rw [← hy', lastL_set l k] at hset
          rw [hy'] at hset
          have HS := Lib.hid hset
          have hb1 := hyb.1
          have hb2 := hyb.2
          clear hset hcell hrd' hT hy hy' hyb
          go_wp2_with (go_at_call 14; refine HS.out.mono ?_; rintro e w5 ⟨rfl, h5⟩; have H5 := Lib.hid h5; clear h5)
          exact ⟨⟨k + 1, hlt, by go_num, H5.out⟩, by simp [intOf]; omega⟩
        · have hke : k = l.length := by omega
          subst hke
          obtain ⟨m, hm⟩ : ∃ m, l.length = m + 1 := ⟨l.length - 1, by omega⟩
          obtain ⟨y, hy⟩ : ∃ y, l[m]? = some y := ⟨l[m]'(by omega), by simp⟩
          have hyb := HL.out y (List.mem_of_getElem? hy)
          have hL : lastL l l.length = [(1, 1000), (5, y), (9, 2000)] := by
            unfold lastL; rw [if_neg h0, hm]; simp [List.getD, hy]
          rw [hL] at hT
          cases drop with
          | true =>
            have hd := ts_drop hT.out 5 (by simp)
            rw [show (tmPlace 5 [((1 : Int), (1000 : Int)), (5, y), (9, 2000)]).2 = true by simp [tmPlace], show tmDrop 5 [((1 : Int), (1000 : Int)), (5, y), (9, 2000)] = [(1, 1000), (9, 2000)] by simp [tmDrop]] at hd
            have HD := Lib.hid hd
            clear hd hT hrd' hL hy hyb hm
            go_wp2_with (go_at_call 16; refine HD.out.mono ?_; rintro e w5 ⟨rfl, h5⟩; have H5 := Lib.hid h5; clear h5)
            have hdue := ts_due H5.out tick (by decide)
            rw [(last_due tick 0 ht.2).1.1, (last_due tick 0 ht.2).1.2] at hdue
            have HDUE := Lib.hid hdue
            clear hdue H5
            refine HDUE.out.mono ?_
            rintro e w6 ⟨v, rfl, h6⟩
            obtain ⟨ao6, c6, rfl, _⟩ := h6.rd
            have HLEN := Lib.hid (ts_len h6.ts)
            have HUF : Hid (Upd NoB w w6) := by obtain ⟨_, _, _, h⟩ := h6.ts; exact h
            clear h6 HDUE
            go_wp2_with (go_at_call 23; refine HLEN.out.mono ?_; rintro e w' ⟨rfl, rfl⟩)
            go_ret
            exact ⟨by simp, HUF.out⟩
          | false =>
            have hm1 : ((l.length : Int) - 1) = (m : Int) := by omega
            obtain ⟨ab, o, c', hv, _, _, hcell⟩ := hrd'.at (i := m) (by omega)
            cases hv
            have g0 : wr.cell? ⟨ab, o + m, none⟩ = some (.int .u8 y) := by have := hcell m 0 y _ hy rfl; simpa [u8E] using this
            have hml : m < l.length := by omega
            have hdue := ts_due hT.out tick (by simp)
            by_cases hyt : y ≤ tick
            · rw [((last_due tick y ht.2).2.1 hyt).1, ((last_due tick y ht.2).2.1 hyt).2] at hdue
              have HDUE := Lib.hid hdue
              have hyd : decide (y ≤ tick) = true := by simpa using hyt
              have hb1 := hyb.1
              have hb2 := hyb.2
              rw [hm] at hm1
              have HY := Lib.hid hy
              clear hdue hT hrd' hL hy hyb hcell hyt
              go_wp2_with fail
              refine HDUE.out.mono ?_
              rintro e w6 ⟨v, rfl, h6⟩
              obtain ⟨b6, o6, c6, rfl, _, _, hc6⟩ := h6.rd.at (i := 0) (by decide)
              have g6 : w6.cell? ⟨b6, o6, none⟩ = some (.int .i64 5) := by have := hc6 0 0 5 _ rfl rfl; simpa using this
              have HLEN := Lib.hid (ts_len h6.ts)
              have HUF : Hid (Upd NoB w w6) := by obtain ⟨_, _, _, h⟩ := h6.ts; exact h
              have g7 : w6.cell? ⟨ab, o + m, none⟩ = some (.int .u8 y) := by
                obtain ⟨ab', o', c'', hv', _, _, hcell'⟩ := (rd_cell HRD.out HUF.out).at (i := m) hml
                cases hv'
                have := hcell' m 0 y _ HY.out rfl; simpa [u8E] using this
              clear h6 HDUE hc6
              go_wp2_with (go_at_call 23; refine HLEN.out.mono ?_; rintro e w' ⟨rfl, rfl⟩)
              all_goals (go_ret; exact ⟨by simp, HUF.out⟩)
            · rw [((last_due tick y ht.2).2.2 hyt).1, ((last_due tick y ht.2).2.2 hyt).2] at hdue
              have HDUE := Lib.hid hdue
              have hyd : decide (y ≤ tick) = false := by simpa using hyt
              have hb1 := hyb.1
              have hb2 := hyb.2
              rw [hm] at hm1
              have HY := Lib.hid hy
              clear hdue hT hrd' hL hy hyb hcell hyt
              go_wp2_with fail
              refine HDUE.out.mono ?_
              rintro e w6 ⟨v, rfl, h6⟩
              obtain ⟨ao6, c6, rfl, _⟩ := h6.rd
              have HLEN := Lib.hid (ts_len h6.ts)
              have HUF : Hid (Upd NoB w w6) := by obtain ⟨_, _, _, h⟩ := h6.ts; exact h
              have g7 : w6.cell? ⟨ab, o + m, none⟩ = some (.int .u8 y) := by
                obtain ⟨ab', o', c'', hv', _, _, hcell'⟩ := (rd_cell HRD.out HUF.out).at (i := m) hml
                cases hv'
                have := hcell' m 0 y _ HY.out rfl; simpa [u8E] using this
              clear h6 HDUE
              go_wp2_with (go_at_call 23; refine HLEN.out.mono ?_; rintro e w' ⟨rfl, rfl⟩)
              all_goals (go_ret; exact ⟨by simp, HUF.out⟩)
theorem rd_max {α : Type} {E : Enc α} {w : World} {ao : Option Addr} {c : Nat} {l : List α} (h : Rd E w (.slice ao l.length c) l) : l.length ≤ 9223372036854775807 := by
  obtain ⟨_, _, e, h1, h2, _⟩ := h
  cases e
  simp only [maxLen] at h2
  omega
theorem last_row (w : World) (ao : Option Addr) (c : Nat) (l : List Int) (drop : Bool) (tick : Int) (hrd : Rd (kE .u8) w (.slice ao l.length c) l) (hl : ∀ x ∈ l, (Lit.int .u8 x).wf = true) (ht : (Lit.int .u8 tick).wf = true) :
    Calls Try.prog 5 #[.slice ao l.length c, .bool drop, .int .u8 tick] w fun e w' => e = .returned (.bool true) ∧ Upd NoB w w' :=
  law_last w ao c l drop tick hrd (fun x hx => bounds_u8 (hl x hx)) (bounds_u8 ht) (rd_max hrd)
end Go.Proofs.Ytgkhnmeemiloaaa
