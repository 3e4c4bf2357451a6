/- The law TimerApart: its walk. Conditions: none. -/
import Derived.Test.YtgkhnmeemiloaaaTimS
import Derived.Test.YtgkhnmeemiloaaaTimL
set_option linter.unusedVariables false
set_option linter.unusedSimpArgs false
namespace Go.Proofs.Ytgkhnmeemiloaaa
open Go.RowKit

set_option maxHeartbeats 1000000 in
set_option maxRecDepth 100000 in
theorem law_has (w : World) (v : Value) (l : List Int) (id : Int) (h : Rd intE w v l) (hn : l.length ≤ 1000000000) :
    Calls Try.prog 24 #[v, .int .i64 id] w fun e w' => e = .returned (.bool (decide (id ∈ l))) ∧ Upd NoB w w' := by
  have h' := h
  obtain ⟨ao, c, rfl, _⟩ := h'
  have HR := Lib.hid h
  clear h
  go_enter Try.func24, Try.ntmps24
  go_wp2
  go_loopw [5] (fun i wr => ∃ k : Nat, k ≤ l.length ∧ i = .int .i64 k ∧ Hid (∀ j, j < k → l[j]? ≠ some id) ∧ w = wr) (fun i _ => l.length - (intOf i).toNat)
  case atStart => exact ⟨0, Nat.zero_le _, rfl, fun j hj => by omega, rfl⟩
  case round =>
    obtain ⟨k, hk, rfl, hH, rfl⟩ := hrel
    by_cases hlt : k < l.length
    · obtain ⟨y, hy⟩ : ∃ y, l[k]? = some y := ⟨l[k], by simp [hlt]⟩
      obtain ⟨sb, o, c', hv, _, _, hcell⟩ := HR.out.at hlt
      cases hv
      have g0 : w.cell? ⟨sb, o + k, none⟩ = some (.int .i64 y) := by have := hcell k 0 y _ hy rfl; simpa [intE] using this
      have HY := Lib.hid hy
      clear hcell hy
      by_cases he : y = id
      · have he' : (y == id) = true := by simpa using he
        go_wp2
        go_ret
        have := List.mem_of_getElem? HY.out
        rw [he] at this
        exact ⟨by simp [this], Upd.refl _ _⟩
      · have he' : (y == id) = false := by simpa using he
        go_wp2
        refine ⟨⟨k + 1, hlt, by go_num, fun j hj => ?_, trivial⟩, by simp [intOf]; omega⟩
        by_cases hj' : j = k
        · subst hj'; rw [HY.out]; simpa using he
        · exact hH.out j (by omega)
    · have hke : k = l.length := by omega
      subst hke
      go_wp2
      go_ret
      refine ⟨?_, Upd.refl _ _⟩
      have : ¬ id ∈ l := fun hm => by
        obtain ⟨j, hj⟩ := List.getElem?_of_mem hm
        exact hH.out j (List.getElem?_eq_some_iff.1 hj).1 hj
      simp [this]

def Apt (w wr : World) (p q : Value) (n m : Nat) : Prop := ∃ l l', TS2 w wr p q l l' ∧ Srt l ∧ Srt l' ∧ l.length ≤ n ∧ l'.length ≤ m
theorem apt_set {w wr : World} {p q : Value} {n m : Nat} (h : Apt w wr p q n m) (id u : Int) (hn : n ≤ 1000000) :
    Calls Try.prog 14 #[p, .int .i64 id, .int .i64 u] wr fun e w' => e = .returned (.tuple #[]) ∧ Apt w w' p q (n + 1) m := by
  obtain ⟨l, l', h1, h2, h3, h4, h5⟩ := h
  refine (t2_set h1 id u (by omega)).mono ?_
  rintro e w' ⟨rfl, g⟩
  exact ⟨rfl, _, l', g, h2.set id u, h3, by have := tmSet_len id u l; omega, h5⟩
theorem apt_set' {w wr : World} {p q : Value} {n m : Nat} (h : Apt w wr p q n m) (id u : Int) (hn : m ≤ 1000000) :
    Calls Try.prog 14 #[q, .int .i64 id, .int .i64 u] wr fun e w' => e = .returned (.tuple #[]) ∧ Apt w w' p q n (m + 1) := by
  obtain ⟨l, l', h1, h2, h3, h4, h5⟩ := h
  refine (t2_set' h1 id u (by omega)).mono ?_
  rintro e w' ⟨rfl, g⟩
  exact ⟨rfl, l, _, g, h2, h3.set id u, h4, by have := tmSet_len id u l'; omega⟩
/-- The last calls: both wake. -/
theorem apt_end {w wr : World} {p q : Value} {n m : Nat} (h : Apt w wr p q n m) (k t : Int) (hn : n ≤ 1000000) (hm : m ≤ 1000000) :
    Calls Try.prog 14 #[p, .int .i64 k, .int .i64 100] wr fun e w1 => e = .returned (.tuple #[]) ∧
    Calls Try.prog 14 #[q, .int .i64 k, .int .i64 100] w1 fun e w2 => e = .returned (.tuple #[]) ∧
    Calls Try.prog 19 #[p, .int .i64 t] w2 fun e w3 => ∃ v, e = .returned v ∧
    Calls Try.prog 19 #[q, .int .i64 t] w3 fun e w4 => ∃ v', e = .returned v' ∧
    Calls Try.prog 24 #[v, .int .i64 k] w4 fun e w5 => e = .returned (.bool (decide (100 ≤ t))) ∧
    Calls Try.prog 24 #[v', .int .i64 k] w5 fun e w6 => e = .returned (.bool (decide (100 ≤ t))) ∧ Upd NoB w w6 := by
  obtain ⟨l, l', h1, h2, h3, h4, h5⟩ := h
  have l1 := tmSet_len k 100 l
  have l2 := tmSet_len k 100 l'
  refine (t2_set h1 k 100 (by omega)).mono ?_
  rintro e w1 ⟨rfl, g1⟩
  refine ⟨rfl, (t2_set' g1 k 100 (by omega)).mono ?_⟩
  rintro e w2 ⟨rfl, g2⟩
  refine ⟨rfl, (t2_due g2 t (by omega)).mono ?_⟩
  rintro e w3 ⟨v, rfl, g3⟩
  refine ⟨v, rfl, (tr_due g3 t (by omega)).mono ?_⟩
  rintro e w4 ⟨v', rfl, g4, g5, g6⟩
  have d1 := due_length t (tmSet k 100 l)
  have d2 := due_length t (tmSet k 100 l')
  refine ⟨v', rfl, (law_has w4 v _ k g5 (by omega)).mono ?_⟩
  rintro e w5 ⟨rfl, g7⟩
  refine ⟨by rw [decide_eq_decide.2 (due_set h2 k 100 t)], (law_has w5 v' _ k (rd_cell g6 g7) (by omega)).mono ?_⟩
  rintro e w6 ⟨rfl, g8⟩
  exact ⟨by rw [decide_eq_decide.2 (due_set h3 k 100 t)], (g4.trans g7).trans g8⟩

set_option maxHeartbeats 4000000 in
set_option maxRecDepth 100000 in
theorem law_apart (w : World) (ao : Option Addr) (c : Nat) (l : List Int) (bo : Option Addr) (d : Nat) (m : List Int) (k tick : Int) (hrd : Rd u8E w (.slice ao l.length c) l) (hl : ∀ x ∈ l, 0 ≤ x ∧ x ≤ 255) (hrm : Rd u8E w (.slice bo m.length d) m) (hm : ∀ x ∈ m, 0 ≤ x ∧ x ≤ 255)
    (hk : 0 ≤ k ∧ k ≤ 255) (ht : 0 ≤ tick ∧ tick ≤ 255) (hmaxl : l.length ≤ 9223372036854775807) (hmaxm : m.length ≤ 9223372036854775807) :
    Calls Try.prog 6 #[.slice ao l.length c, .slice bo m.length d, .int .u8 k, .int .u8 tick] w fun e w' => e = .returned (.bool true) ∧ Upd NoB w w' := by
  have HRD := Lib.hid hrd
  have HL := Lib.hid hl
  have HRM := Lib.hid hrm
  have HM := Lib.hid hm
  clear hrd hl hrm hm
  by_cases h20 : 20 < l.length
  · have h20' : decide ((20 : Int) < (l.length : Int)) = true := by simp; omega
    go_enter Try.func6, Try.ntmps6
    go_wp2_with (go_at_call 12; refine (tm_known w).mono ?_; rintro e w1 ⟨rfl, h1⟩; have H1 := Lib.hid h1; clear h1)
    go_ret
    exact ⟨rfl, H1.out⟩
  have h20' : decide ((20 : Int) < (l.length : Int)) = false := by simp; omega
  by_cases g20 : 20 < m.length
  · have g20' : decide ((20 : Int) < (m.length : Int)) = true := by simp; omega
    go_enter Try.func6, Try.ntmps6
    go_wp2_with (go_at_call 12; refine (tm_known w).mono ?_; rintro e w1 ⟨rfl, h1⟩; have H1 := Lib.hid h1; clear h1)
    go_ret
    exact ⟨rfl, H1.out⟩
  have g20' : decide ((20 : Int) < (m.length : Int)) = false := by simp; omega
  have hkm : 0 ≤ k.tmod 20 ∧ k.tmod 20 ≤ 19 := by rw [Int.tmod_eq_emod_of_nonneg hk.1]; omega
  go_enter Try.func6, Try.ntmps6
  go_wp2_with (go_at_call 12; refine (tm_known w).mono ?_; rintro e w1 ⟨rfl, h1⟩; have H1 := Lib.hid h1; clear h1)
  refine (ts_new w1).mono ?_
  rintro e w2 ⟨b, rfl, h2⟩
  have hT : TS w w2 (.pointer (some ⟨b, 0, none⟩)) [] := by obtain ⟨F, g1, g2, g3⟩ := h2; exact ⟨F, g1, fun b hb => Nat.le_trans H1.out.size (g2 b hb), H1.out.trans g3⟩
  have HT := Lib.hid hT
  clear hT h2 H1
  go_wp2_with fail
  refine (t2_new HT.out).mono ?_
  rintro e w3 ⟨b', rfl, h3⟩
  have hA : Apt w w3 (.pointer (some ⟨b, 0, none⟩)) (.pointer (some ⟨b', 0, none⟩)) 0 0 := ⟨[], [], h3, Srt.nil, Srt.nil, Nat.le_refl _, Nat.le_refl _⟩
  have HA := Lib.hid hA
  clear hA h3 HT
  go_wp2
  go_loopw [12] (fun i wr => ∃ k : Nat, k ≤ l.length ∧ i = .int .i64 k ∧ Hid (Apt w wr (.pointer (some ⟨b, 0, none⟩)) (.pointer (some ⟨b', 0, none⟩)) k 0)) (fun i _ => l.length - (intOf i).toNat)
  case atStart => exact ⟨0, Nat.zero_le _, rfl, HA.out⟩
  case round =>
    obtain ⟨n, hn, rfl, hT⟩ := hrel
    have hU : Upd NoB w wr := by obtain ⟨_, _, ⟨_, _, _, _, _, _, _, hu⟩, _⟩ := hT.out; exact hu
    by_cases hlt : n < l.length
    · obtain ⟨y, hy⟩ : ∃ y, l[n]? = some y := ⟨l[n], by simp [hlt]⟩
      have hyb := HL.out y (List.mem_of_getElem? hy)
      obtain ⟨ab, o, c', hv, _, _, hcell⟩ := (rd_cell HRD.out hU).at hlt
      cases hv
      have g0 : wr.cell? ⟨ab, o + n, none⟩ = some (.int .u8 y) := by have := hcell n 0 y _ hy rfl; simpa [u8E] using this
      have HS := Lib.hid (apt_set hT.out n y (by omega))
      have hb1 := hyb.1
      have hb2 := hyb.2
      clear hcell hT hy hyb hU
      go_wp2_with (go_at_call 14; refine HS.out.mono ?_; rintro e w5 ⟨rfl, h5⟩; have H5 := Lib.hid h5; clear h5)
      exact ⟨⟨n + 1, hlt, by go_num, H5.out⟩, by simp [intOf]; omega⟩
    · have hke : n = l.length := by omega
      subst hke
      clear hU HA
      go_wp2
      go_loopw [13] (fun i wr => ∃ k : Nat, k ≤ m.length ∧ i = .int .i64 k ∧ Hid (Apt w wr (.pointer (some ⟨b, 0, none⟩)) (.pointer (some ⟨b', 0, none⟩)) l.length k)) (fun i _ => m.length - (intOf i).toNat)
      case atStart => exact ⟨0, Nat.zero_le _, rfl, hT.out⟩
      case round =>
        clear hT
        obtain ⟨n, hn, rfl, hT⟩ := hrel
        have hU : Upd NoB w wr := by obtain ⟨_, _, ⟨_, _, _, _, _, _, _, hu⟩, _⟩ := hT.out; exact hu
        by_cases hlt : n < m.length
        · obtain ⟨y, hy⟩ : ∃ y, m[n]? = some y := ⟨m[n], by simp [hlt]⟩
          have hyb := HM.out y (List.mem_of_getElem? hy)
          obtain ⟨ab, o, c', hv, _, _, hcell⟩ := (rd_cell HRM.out hU).at hlt
          cases hv
          have g0 : wr.cell? ⟨ab, o + n, none⟩ = some (.int .u8 y) := by have := hcell n 0 y _ hy rfl; simpa [u8E] using this
          have HS := Lib.hid (apt_set' hT.out n y (by omega))
          have hb1 := hyb.1
          have hb2 := hyb.2
          clear hcell hT hy hyb hU
          go_wp2_with (go_at_call 14; refine HS.out.mono ?_; rintro e w5 ⟨rfl, h5⟩; have H5 := Lib.hid h5; clear h5)
          exact ⟨⟨n + 1, hlt, by go_num, H5.out⟩, by simp [intOf]; omega⟩
        · have hke : n = m.length := by omega
          subst hke
          have HE := Lib.hid (apt_end hT.out (k % 20) tick (by omega) (by omega))
          clear hU hT
          go_wp2_with fail
          refine HE.out.mono ?_
          clear HE
          rintro e w5 ⟨rfl, h5⟩
          have HE := Lib.hid h5
          clear h5
          go_wp2_with fail
          refine HE.out.mono ?_
          clear HE
          rintro e w6 ⟨rfl, h6⟩
          have HE := Lib.hid h6
          clear h6
          go_wp2_with fail
          refine HE.out.mono ?_
          clear HE
          rintro e w7 ⟨v7, rfl, h7⟩
          have HE := Lib.hid h7
          clear h7
          go_wp2_with fail
          refine HE.out.mono ?_
          clear HE
          rintro e w8 ⟨v8, rfl, h8⟩
          have HE := Lib.hid h8
          clear h8
          go_wp2_with fail
          refine HE.out.mono ?_
          clear HE
          rintro e w9 ⟨rfl, h9⟩
          have HE := Lib.hid h9
          clear h9
          by_cases h100 : 100 ≤ tick
          · rw [show decide (100 ≤ tick) = true by simpa using h100] at HE ⊢
            have hd : decide ((100 : Int) ≤ tick) = true := by simpa using h100
            go_wp2_with (refine HE.out.mono ?_; rintro e w10 ⟨rfl, h10⟩; have H10 := Lib.hid h10; clear h10 HE)
            go_ret
            exact ⟨by simp, H10.out⟩
          · rw [show decide (100 ≤ tick) = false by simpa using h100] at HE ⊢
            have hd : decide ((100 : Int) ≤ tick) = false := by simpa using h100
            go_wp2_with (refine HE.out.mono ?_; rintro e w10 ⟨rfl, h10⟩; have H10 := Lib.hid h10; clear h10 HE)
            go_ret
            exact ⟨by simp, H10.out⟩
theorem apart_row (w : World) (ao : Option Addr) (c : Nat) (l : List Int) (bo : Option Addr) (d : Nat) (m : List Int) (k tick : Int) (hrd : Rd (kE .u8) w (.slice ao l.length c) l) (hl : ∀ x ∈ l, (Lit.int .u8 x).wf = true) (hrm : Rd (kE .u8) w (.slice bo m.length d) m) (hm : ∀ x ∈ m, (Lit.int .u8 x).wf = true)
    (hk : (Lit.int .u8 k).wf = true) (ht : (Lit.int .u8 tick).wf = true) :
    Calls Try.prog 6 #[.slice ao l.length c, .slice bo m.length d, .int .u8 k, .int .u8 tick] w fun e w' => e = .returned (.bool true) ∧ Upd NoB w w' :=
  law_apart w ao c l bo d m k tick hrd (fun x hx => bounds_u8 (hl x hx)) hrm (fun x hx => bounds_u8 (hm x hx)) (bounds_u8 hk) (bounds_u8 ht) (rd_max hrd) (rd_max hrm)
end Go.Proofs.Ytgkhnmeemiloaaa
