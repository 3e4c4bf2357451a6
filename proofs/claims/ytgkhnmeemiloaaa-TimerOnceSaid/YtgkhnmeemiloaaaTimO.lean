/- The law TimerOnce: its walk. Conditions: none. -/
import Derived.Test.YtgkhnmeemiloaaaTimS
import Derived.Test.YtgkhnmeemiloaaaTimL
set_option linter.unusedVariables false
set_option linter.unusedSimpArgs false
namespace Go.Proofs.Ytgkhnmeemiloaaa
open Go.RowKit

def rowL (l : List Int) (k : Nat) : List (Int × Int) := (List.range k).map (fun (i : Nat) => ((i : Int), l.getD i 0))
theorem tmSet_end (id u : Int) : ∀ (l : List (Int × Int)), (∀ x ∈ l, x.1 < id) → tmSet id u l = l ++ [(id, u)]
  | [], _ => rfl
  | x :: r, h => by
    have := h x (by simp)
    rw [tmSet, if_neg (by omega), if_neg (by omega), tmSet_end id u r (fun y hy => h y (by simp [hy]))]
    rfl
theorem rowL_set (l : List Int) (k : Nat) : tmSet k (l.getD k 0) (rowL l k) = rowL l (k + 1) := by
  rw [tmSet_end]
  · simp [rowL, List.range_succ]
  · intro x hx
    simp only [rowL, List.mem_map, List.mem_range] at hx
    obtain ⟨i, hi, rfl⟩ := hx
    show (i : Int) < k
    omega
theorem rowL_len (l : List Int) (k : Nat) : (rowL l k).length = k := by simp [rowL]
def left (l : List Int) (t : Int) : List (Int × Int) := (rowL l l.length).filter (fun p => decide (t ≤ p.2))
theorem left_zero (l : List Int) (h : ∀ x ∈ l, 0 ≤ x ∧ x ≤ 255) : left l 0 = rowL l l.length := by
  unfold left
  rw [List.filter_eq_self]
  intro x hx
  simp only [rowL, List.mem_map, List.mem_range] at hx
  obtain ⟨i, hi, rfl⟩ := hx
  have := h (l.getD i 0) (by simp [List.getD, hi])
  simpa using this.1
theorem left_end (l : List Int) (h : ∀ x ∈ l, 0 ≤ x ∧ x ≤ 255) : left l 256 = [] := by
  unfold left
  rw [List.filter_eq_nil_iff]
  intro x hx
  simp only [rowL, List.mem_map, List.mem_range] at hx
  obtain ⟨i, hi, rfl⟩ := hx
  have := h (l.getD i 0) (by simp [List.getD, hi])
  simp only [decide_eq_true_eq]
  omega
theorem left_rest (l : List Int) (t : Int) : restOf t (left l t) = left l (t + 1) := by
  unfold restOf left
  rw [List.filter_filter]
  congr 1
  funext p
  rw [← decide_not, ← Bool.decide_and, decide_eq_decide]
  omega
theorem left_srt (l : List Int) (t : Int) : Srt (left l t) := by
  refine List.Pairwise.filter _ ?_
  unfold rowL
  exact List.pairwise_map.2 (List.Pairwise.imp (fun h => by show ((_ : Nat) : Int) < _; omega) List.pairwise_lt_range)
theorem left_due (l : List Int) (t : Int) (x : Int) (h : x ∈ dueOf t (left l t)) : ∃ i : Nat, x = i ∧ l[i]? = some t := by
  obtain ⟨u, hu, ht⟩ := (mem_due t x).1 h
  simp only [left, List.mem_filter, rowL, List.mem_map, List.mem_range, decide_eq_true_eq] at hu
  obtain ⟨⟨i, hi, he⟩, h2⟩ := hu
  cases he
  refine ⟨i, rfl, ?_⟩
  have : l.getD i 0 = t := by omega
  rw [← this]
  simp [List.getD, hi]

def OnceRel (w : World) (l : List Int) (p : Value) (wo ti : Value) (wr : World) : Prop :=
  ∃ (t k : Nat), t ≤ 256 ∧ ti = .int .i64 t ∧ wo = .int .i64 k ∧ k + (left l t).length = l.length ∧ TS w wr p (left l t)

set_option maxHeartbeats 4000000 in
set_option maxRecDepth 100000 in
theorem law_once (w : World) (ao : Option Addr) (c : Nat) (l : List Int) (hrd : Rd u8E w (.slice ao l.length c) l) (hl : ∀ x ∈ l, 0 ≤ x ∧ x ≤ 255) (hmaxl : l.length ≤ 9223372036854775807) :
    Calls Try.prog 4 #[.slice ao l.length c] w fun e w' => e = .returned (.bool true) ∧ Upd NoB w w' := by
  have HRD := Lib.hid hrd
  have HL := Lib.hid hl
  clear hrd hl
  by_cases h20 : 30 < l.length
  · have h20' : decide ((30 : Int) < (l.length : Int)) = true := by simp; omega
    go_enter Try.func4, Try.ntmps4
    go_wp2_with (go_at_call 12; refine (tm_known w).mono ?_; rintro e w1 ⟨rfl, h1⟩; have H1 := Lib.hid h1; clear h1)
    go_ret
    exact ⟨rfl, H1.out⟩
  have h20' : decide ((30 : Int) < (l.length : Int)) = false := by simp; omega
  go_enter Try.func4, Try.ntmps4
  go_wp2_with (go_at_call 12; refine (tm_known w).mono ?_; rintro e w1 ⟨rfl, h1⟩; have H1 := Lib.hid h1; clear h1)
  refine (ts_new w1).mono ?_
  rintro e w2 ⟨b, rfl, h2⟩
  have hT : TS w w2 (.pointer (some ⟨b, 0, none⟩)) (rowL l 0) := by obtain ⟨F, g1, g2, g3⟩ := h2; exact ⟨F, g1, fun b hb => Nat.le_trans H1.out.size (g2 b hb), H1.out.trans g3⟩
  have HT := Lib.hid hT
  clear hT h2 H1
  go_wp2
  go_loopw [4] (fun i wr => ∃ k : Nat, k ≤ l.length ∧ i = .int .i64 k ∧ Hid (TS w wr (.pointer (some ⟨b, 0, none⟩)) (rowL l k))) (fun i _ => l.length - (intOf i).toNat)
  case atStart => exact ⟨0, Nat.zero_le _, rfl, HT.out⟩
  case round =>
    clear HT
    obtain ⟨n, hn, rfl, hT⟩ := hrel
    have hU : Upd NoB w wr := by obtain ⟨_, _, _, hu⟩ := hT.out; exact hu
    by_cases hlt : n < l.length
    · obtain ⟨y, hy⟩ : ∃ y, l[n]? = some y := ⟨l[n], by simp [hlt]⟩
      have hy' : l.getD n 0 = y := by simp [List.getD, hy]
      have hyb := HL.out y (List.mem_of_getElem? hy)
      obtain ⟨ab, o, c', hv, _, _, hcell⟩ := (rd_cell HRD.out hU).at hlt
      cases hv
      have g0 : wr.cell? ⟨ab, o + n, none⟩ = some (.int .u8 y) := by have := hcell n 0 y _ hy rfl; simpa [u8E] using this
      have hS := ts_set hT.out n y (by rw [rowL_len]; omega)
      rw [← hy', rowL_set, hy'] at hS
      have HS := Lib.hid hS
      have hb1 := hyb.1
      have hb2 := hyb.2
      clear hcell hT hy hy' hyb hU hS
      go_wp2_with (go_at_call 14; refine HS.out.mono ?_; rintro e w5 ⟨rfl, h5⟩; have H5 := Lib.hid h5; clear h5)
      exact ⟨⟨n + 1, hlt, by go_num, H5.out⟩, by simp [intOf]; omega⟩
    · have hke : n = l.length := by omega
      subst hke
      clear hU
      go_wp2
      go_loopw [5, 6] (OnceRel w l (.pointer (some ⟨b, 0, none⟩))) (fun _ i _ => 256 - (intOf i).toNat)
      case atStart => exact ⟨0, 0, by omega, rfl, rfl, by rw [show ((0 : Nat) : Int) = 0 from rfl, left_zero l HL.out, rowL_len]; omega, by rw [show ((0 : Nat) : Int) = 0 from rfl, left_zero l HL.out]; exact hT.out⟩
      case round =>
        clear hT
        obtain ⟨t, k, ht, rfl, rfl, hk, hT⟩ := hrel
        by_cases htt : t < 256
        · have hD := ts_due hT t (by omega)
          rw [left_rest] at hD
          have hsum := due_length t (left l t)
          rw [left_rest] at hsum
          have hsrt := (left_srt l t).due (t := (t : Int))
          have hmem := left_due l t
          obtain ⟨d, hd⟩ : ∃ d, d = dueOf t (left l t) := ⟨_, rfl⟩
          rw [← hd] at hD hsum hsrt hmem
          have HD := Lib.hid hD
          have HK := Lib.hid hk
          have HSUM := Lib.hid hsum
          have HSRT := Lib.hid hsrt
          have HMEM := Lib.hid hmem
          have htt' : (t : Int) < 256 := by omega
          have hdl : d.length ≤ 30 := by omega
          have hkl : k ≤ 30 := by omega
          clear hD hk hsum hsrt hmem hT hd
          go_wp2_with fail
          refine HD.out.mono ?_
          rintro e w6 ⟨v, rfl, h6⟩
          have H6 := Lib.hid h6
          have hr6 := h6.rd
          have hv6 := hr6
          obtain ⟨ao6, c6, rfl, _⟩ := hv6
          have HR6 := Lib.hid hr6
          have hts := h6.ts
          have HTS := Lib.hid hts
          have hu6 : Upd NoB w w6 := by obtain ⟨_, _, _, hu⟩ := hts; exact hu
          have HU6 := Lib.hid hu6
          clear h6 hr6 HD hts hu6
          go_wp2
          go_loopw [5, 8] (fun wo i wr => ∃ j : Nat, j ≤ d.length ∧ i = .int .i64 j ∧ wo = .int .i64 ((k : Int) + j) ∧ Hid (∃ n, wr = w6.drewN n)) (fun _ i _ => d.length - (intOf i).toNat)
          case atStart => exact ⟨0, Nat.zero_le _, rfl, by simp, ⟨0, rfl⟩⟩
          case round =>
            obtain ⟨j, hj, rfl, rfl, hW⟩ := hrel
            have hcw : ∀ a, wr.cell? a = w6.cell? a := by obtain ⟨n, rfl⟩ := hW.out; intro a; simp
            by_cases hjl : j < d.length
            · obtain ⟨x, hx⟩ : ∃ x, d[j]? = some x := ⟨d[j], by simp [hjl]⟩
              obtain ⟨i, rfl, hi⟩ := HMEM.out x (List.mem_of_getElem? hx)
              have hil : i < l.length := (List.getElem?_eq_some_iff.1 hi).1
              obtain ⟨db, od, c1, hv1, _, _, hcell1⟩ := HR6.out.at hjl
              cases hv1
              have g0 : wr.cell? ⟨db, od + j, none⟩ = some (.int .i64 i) := by rw [hcw]; have := hcell1 j 0 _ _ hx rfl; simpa [intE] using this
              obtain ⟨ab, oa, c2, hv2, _, _, hcell2⟩ := (rd_cell HRD.out HU6.out).at hil
              cases hv2
              have g1 : wr.cell? ⟨ab, oa + i, none⟩ = some (.int .u8 t) := by rw [hcw]; have := hcell2 i 0 _ _ hi rfl; simpa [u8E] using this
              have q1 : decide ((i : Int) < 0) = false := by simp
              have q2 : decide ((l.length : Int) ≤ (i : Int)) = false := by simp; omega
              have q3 : ((t : Int) == (t : Int)) = true := by simp
              have htb : (t : Int) ≤ 255 := by omega
              have q2' : decide (l.length ≤ i) = false := by simp; omega
              have q3' : ((t : Int) != (t : Int)) = false := by simp
              have hw : IntKind.i64.wrap (t : Int) = (t : Int) := IntWalk.i64_in _ (by omega)
              by_cases hj0 : j = 0
              · subst hj0
                rw [Nat.add_zero] at g0
                have HC := Lib.hid hcell1
                clear hcell1 hcell2 hx hi HC hcw
                go_wp2
                go_quiet (fail)
                go_wp2
                exact ⟨⟨1, hjl, by go_num, by go_num, by obtain ⟨n, h⟩ := hW.out; exact ⟨n + nq, by rw [h, World.drewN_drewN]⟩⟩, by simp [intOf]; omega⟩
              · obtain ⟨m, hm⟩ : ∃ m, j = m + 1 := ⟨j - 1, by omega⟩
                obtain ⟨y, hy⟩ : ∃ y, d[m]? = some y := ⟨d[m]'(by omega), by simp⟩
                obtain ⟨i', rfl, hi'⟩ := HMEM.out y (List.mem_of_getElem? hy)
                have g2 : wr.cell? ⟨db, od + m, none⟩ = some (.int .i64 i') := by rw [hcw]; have := hcell1 m 0 _ _ hy rfl; simpa [intE] using this
                have hlt2 : i' < i := by
                  have := List.pairwise_iff_getElem.1 HSRT.out m j (by omega) hjl (by omega)
                  rw [(List.getElem?_eq_some_iff.1 hy).2, (List.getElem?_eq_some_iff.1 hx).2] at this
                  omega
                have q4 : decide ((0 : Int) < (j : Int)) = true := by simp; omega
                have q5 : ((j : Int) - 1) = (m : Int) := by omega
                have q7 : m < d.length := by omega
                have q4' : decide (0 < j) = true := by simp; omega
                have q6' : decide (i ≤ i') = false := by simp; omega
                have q8 : ((i' : Int) < (i : Int)) := by omega
                have q6 : decide ((i : Int) ≤ (i' : Int)) = false := by simp; omega
                clear hcell1 hcell2 hx hi hy hi' hcw hm
                go_wp2
                go_quiet (fail)
                go_wp2
                exact ⟨⟨j + 1, hjl, by go_num, by go_num, by obtain ⟨n, h⟩ := hW.out; exact ⟨n + nq, by rw [h, World.drewN_drewN]⟩⟩, by simp [intOf]; omega⟩
            · have hje : j = d.length := by omega
              subst hje
              clear hcw
              go_wp2
              obtain ⟨nd, rfl⟩ := hW.out
              refine ⟨⟨t + 1, k + d.length, htt, by go_num, by go_num, by have e1 := HK.out; have e2 := HSUM.out; rw [show ((t + 1 : Nat) : Int) = (t : Int) + 1 by omega]; omega, by have h := HTS.out; obtain ⟨F, h1, h2, h3⟩ := h; exact ⟨F, h1.upd (Upd.drewN NoB _ _) (fun _ _ h => h), h2, h3.trans (Upd.drewN _ _ _)⟩⟩, by simp [intOf]; omega⟩
        · have hte : t = 256 := by omega
          subst hte
          have h0 : left l ((256 : Nat) : Int) = [] := left_end l HL.out
          rw [h0] at hT hk
          simp only [List.length_nil, Nat.add_zero] at hk
          subst hk
          have HLEN := Lib.hid (ts_len hT)
          have hu6 : Upd NoB w wr := by obtain ⟨_, _, _, hu⟩ := hT; exact hu
          have HU6 := Lib.hid hu6
          clear hT h0 hu6
          go_wp2_with (go_at_call 23; refine HLEN.out.mono ?_; rintro e w' ⟨rfl, rfl⟩)
          go_ret
          exact ⟨by simp, HU6.out⟩
theorem once_row (w : World) (ao : Option Addr) (c : Nat) (l : List Int) (hrd : Rd (kE .u8) w (.slice ao l.length c) l) (hl : ∀ x ∈ l, (Lit.int .u8 x).wf = true) :
    Calls Try.prog 4 #[.slice ao l.length c] w fun e w' => e = .returned (.bool true) ∧ Upd NoB w w' :=
  law_once w ao c l hrd (fun x hx => bounds_u8 (hl x hx)) (rd_max hrd)
end Go.Proofs.Ytgkhnmeemiloaaa
