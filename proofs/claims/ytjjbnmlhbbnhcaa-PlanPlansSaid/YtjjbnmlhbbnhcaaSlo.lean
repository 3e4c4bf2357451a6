/- spread.Slots: its walk. Conditions: none. -/
import Derived.Test.YtjjbnmlhbbnhcaaSpr
import Derived.Test.YtjjbnmlhbbnhcaaSort
import Derived.Test.YtjjbnmlhbbnhcaaSlp
set_option linter.unusedVariables false
set_option linter.unusedSimpArgs false
namespace Go.Proofs.Ytjjbnmlhbbnhcaa
open Go.RowKit

theorem infoC : (Try.prog.info? 59).map (fun i => (i.zero, i.size, i.bytes)) = some (some (.complex .f64 0 0), 1, 16) := by kernel_rfl
theorem infoI : (Try.prog.info? 3).map (fun i => (i.zero, i.size, i.bytes)) = some (some (.int .i64 0), 1, 8) := by kernel_rfl
theorem etyC : Ety Try.prog cE 59 (.complex .f64 0 0) := by
  obtain ⟨i, hi, hz, hs, hb⟩ := info_parts infoC
  exact ⟨⟨i, hi, hz, hs, by omega⟩, rfl⟩

/-- The quanta of a domain that is to have n. -/
def qrow (F d n : Nat) : List CQ := (List.range n).map fun k => (qb F n k, fd d)
def qall (F : Nat) (cs : List Int) (i : Nat) : List CQ := (List.range i).flatMap fun d => qrow F d (cs.getD d 0).toNat
theorem qall_succ (F : Nat) (cs : List Int) (i : Nat) : qall F cs (i + 1) = qall F cs i ++ qrow F i (cs.getD i 0).toNat := by
  simp [qall, List.range_succ, List.flatMap_append]
theorem qall_eq (F : Nat) (l : List Int) : qall F l l.length = (quanta l).map (gq F l) := by
  simp only [qall, quanta, List.map_flatMap, List.map_map]
  rfl
theorem quo_run (W : World) (x y r : Nat) (h : floatBits .quo .f64 x y = some r) : (binOp .quo 60 (.float .f64 x) (.float .f64 y)).run Try.prog W = .ok (.float .f64 r) W := run_float_arith W .quo _ .f64 x y r h
theorem quo_qb (W : World) (F m k : Nat) (hF : F ≤ 64) (hm : 0 < m) (hmF : m ≤ F) (hk : k < m) : (binOp .quo 60 (.float .f64 (floatOfInt .f64 (((2 * k + 1) * F : Nat) : Int))) (.float .f64 (floatOfInt .f64 ((2 * m : Nat) : Int)))).run Try.prog W = .ok (.float .f64 (qb F m k)) W :=
  quo_run W _ _ _ (qb_some (qOk_le hF hmF hk))
theorem qall_sum (F : Nat) (l : List Int) (hM : ∀ x ∈ l, 0 ≤ x) : ∀ i, i ≤ l.length → ((qall F l i).length : Int) = (l.take i).sum
  | 0, _ => by simp [qall]
  | i + 1, h => by
    have ih := qall_sum F l hM i (by omega)
    obtain ⟨y, hy⟩ : ∃ y, l[i]? = some y := ⟨l[i]'(by omega), by simp⟩
    have h0 := hM y (List.mem_of_getElem? hy)
    rw [qall_succ, List.take_add_one, hy, List.length_append, List.sum_append, show l.getD i 0 = y by simp [List.getD, hy]]
    simp only [qrow, List.length_map, List.length_range, Option.toList_some, List.sum_cons, List.sum_nil]
    omega
theorem qall_len (F : Nat) (l : List Int) (i : Nat) (hM : ∀ x ∈ l, 0 ≤ x ∧ x ≤ F) (hF : F ≤ 64) (hl : l.length ≤ 6) (hi : i ≤ l.length) : (qall F l i).length ≤ 1000 := by
  have h1 := qall_sum F l (fun x hx => (hM x hx).1) i hi
  have h2 : ∀ (r : List Int), (∀ x ∈ r, 0 ≤ x ∧ x ≤ (F : Int)) → r.sum ≤ 64 * (r.length : Int) := by
    intro r
    induction r with
    | nil => intro _; simp
    | cons x r ih =>
      intro h
      have := h x (by simp)
      have := ih (fun y hy => h y (by simp [hy]))
      simp only [List.sum_cons, List.length_cons]
      omega
  have h3 := h2 (l.take i) (fun x hx => hM x (List.mem_of_mem_take hx))
  have h4 : (l.take i).length ≤ 6 := Nat.le_trans (List.length_take_le' _ _) hl
  omega
theorem sum_mem : ∀ (l : List Int), (∀ x ∈ l, 0 ≤ x) → ∀ x ∈ l, x ≤ l.sum
  | [], _, x, h => by simp at h
  | y :: r, h, x, hx => by
    have h0 : ∀ r : List Int, (∀ x ∈ r, 0 ≤ x) → 0 ≤ r.sum := by
      intro r
      induction r with
      | nil => intro _; simp
      | cons z r ih => intro h; have := h z (by simp); have := ih (fun y hy => h y (by simp [hy])); simp only [List.sum_cons]; omega
    have h1 := h y (by simp)
    have h2 := h0 r (fun z hz => h z (by simp [hz]))
    rw [List.sum_cons]
    rcases List.mem_cons.1 hx with rfl | hx
    · omega
    · have := sum_mem r (fun z hz => h z (by simp [hz])) x hx; omega
/-- What sum says of counts that may be so. -/
theorem sumOf_pos {l : List Int} {F : Nat} (hF : sumOf l = F) (hz : (F : Int) ≠ 0) : (∀ x ∈ l, 0 ≤ x ∧ x ≤ F) ∧ F ≤ 64 ∧ l.length ≤ 6 ∧ l.sum = F ∧ 0 < F := by
  unfold sumOf at hF
  split at hF
  · rename_i hc
    simp only [Bool.and_eq_true, decide_eq_true_eq] at hc
    obtain ⟨⟨⟨h1, h2⟩, h3⟩, h4⟩ := hc
    have h5 : ∀ x ∈ l, 0 ≤ x := fun x hx => by
      have := List.all_eq_true.1 h1 x hx
      simp only [mayK, Bool.and_eq_true, decide_eq_true_eq] at this
      exact this.1
    exact ⟨fun x hx => ⟨h5 x hx, hF ▸ sum_mem l h5 x hx⟩, by omega, h3, hF, by omega⟩
  · exact absurd hF.symm hz
theorem cnt_le {l : List Int} {F : Nat} (hM : ∀ x ∈ l, 0 ≤ x ∧ x ≤ F) (d : Nat) : cnt l d ≤ F := by
  unfold cnt
  cases h : l[d]? with
  | none => simp [List.getD, h]
  | some x => have := hM x (List.mem_of_getElem? h); simp [List.getD, h]; omega
theorem cE_ok {F : Nat} {l : List Int} (hF : F ≤ 64) (hl : l.length ≤ 6) (hM : ∀ x ∈ l, 0 ≤ x ∧ x ≤ (F : Int)) : ∀ q ∈ (quanta l).map (gq F l), SQ q := by
  intro q hq
  obtain ⟨x, hx, rfl⟩ := List.mem_map.1 hq
  obtain ⟨h1, h2⟩ := mem_quanta.1 hx
  obtain ⟨f1, f2, _⟩ := fd_ok (d := x.2) (by omega)
  exact ⟨qb_ok hF (cnt_le hM _) h2, f1, by show fx (fd x.2) < _; rw [f2]; omega⟩
theorem convF (W : World) (d : Nat) (h : d < 6) : (convert 60 3 (.float .f64 (fd d))).run Try.prog W = .ok (.int .i64 (d : Int)) W :=
  run_convert_float_int W 60 3 .f64 .i64 (fd d) d (by kernel_rfl) Try.underlying3 (fd_ok h).2.2
def SloRel1 (w : World) (F : Nat) (l : List Int) (vq _v5 _v6 _v7 vi : Value) (wr : World) : Prop :=
  ∃ (i : Nat) (F1 : Nat → Prop), i ≤ l.length ∧ vi = .int .i64 i ∧ Row cE tC wr F1 vq (qall F l i) ∧ (∀ b, F1 b → w.heap.size ≤ b) ∧ Upd NoB w wr
def SloRel3 (w : World) (B2 : Nat) (F : Nat → Prop) (vq : Value) (ys : List CQ) (out : List Int) (vo _v10 vi : Value) (wr : World) : Prop :=
  ∃ (i : Nat), i ≤ out.length ∧ vi = .int .i64 i ∧ Row cE tC wr F vq ys ∧ (∀ b, F b → b < B2) ∧ wr.ownsRow B2 3 1 vo (out.take i).length ((out.take i).map (Value.int .i64)) ∧ w.heap.size ≤ B2 ∧ B2 ≤ wr.heap.size ∧ Upd NoB w wr
def SloRel2 (w : World) (F : Nat) (l : List Int) (i m : Nat) (vq _v7 vk : Value) (wr : World) : Prop :=
  ∃ (k : Nat) (F1 : Nat → Prop), k ≤ m ∧ vk = .int .i64 k ∧ Row cE tC wr F1 vq (qall F l i ++ (qrow F i m).take k) ∧ (∀ b, F1 b → w.heap.size ≤ b) ∧ Upd NoB w wr

def SloPost (w : World) (l : List Int) (e : Ending) (w' : World) : Prop :=
  ∃ v0, e = .returned v0 ∧ w'.ownsRow w.heap.size 3 1 v0 (slotsOf l).length ((slotsOf l).map (Value.int .i64)) ∧ Upd NoB w w'
set_option maxHeartbeats 4000000 in
set_option maxRecDepth 100000 in
theorem sp_slots (w : World) (v : Value) (l : List Int) (h : RdI w v l) (hn : l.length ≤ 9223372036854775807) :
    Calls Try.prog 22 #[v] w (SloPost w l) := by
  have h' := h
  obtain ⟨ao, c, rfl, _⟩ := h'
  have HR := Lib.hid h
  have HSUM := Lib.hid (sp_sum w _ l h hn)
  clear h
  by_cases hz : sumOf l = 0
  · rw [hz] at HSUM
    go_enter Try.func22, Try.ntmps22
    go_wp2_with (refine HSUM.out.mono ?_; rintro e w' ⟨rfl, rfl⟩)
    go_ret
    refine ⟨_, rfl, ?_, Upd.refl _ _⟩
    rw [show slotsOf l = [] by rw [slotsOf, if_pos hz]]
    exact World.ownsRow_nil _ _ _ _
  · obtain ⟨F, hF⟩ : ∃ F : Nat, sumOf l = F := by
      refine ⟨(sumOf l).toNat, ?_⟩
      unfold sumOf at hz ⊢
      split at hz
      · rename_i hc
        rw [if_pos hc]
        simp only [Bool.and_eq_true] at hc
        have := (sum_bound l hc.1.1.1).1
        omega
      · exact absurd rfl hz
    rw [hF] at HSUM hz
    have hF0 : ((F : Int) == 0) = false := by simpa using hz
    obtain ⟨hM, hF64, hl6, hsF, hFp⟩ := sumOf_pos hF hz
    have HSF := Lib.hid hsF
    clear hsF
    have HM := Lib.hid hM
    have HZ := Lib.hid hF
    clear hF hz hM
    go_enter Try.func22, Try.ntmps22
    go_wp2_with (refine HSUM.out.mono ?_; rintro e w' ⟨rfl, rfl⟩)
    go_loopw [4, 5, 6, 7, 17] (SloRel1 w F l) (fun _ _ _ _ i _ => l.length - (intOf i).toNat)
    case atStart => exact ⟨0, NoB, Nat.zero_le _, rfl, Row.nil _ _ _, fun _ h => h.elim, Upd.refl _ _⟩
    case round =>
      obtain ⟨i, F1, hi, rfl, hr, hf, hu⟩ := hrel
      by_cases hlt : i < l.length
      · obtain ⟨m, hm⟩ : ∃ m : Nat, l[i]? = some (m : Int) := by
          have := HM.out l[i] (by simp)
          exact ⟨l[i].toNat, by simp [hlt]; omega⟩
        obtain ⟨sb, o, c', hv, hcell⟩ := (HR.out.upd hu).at hlt
        cases hv
        have g0 : wr.cell? ⟨sb, o + i, none⟩ = some (.int .i64 m) := hcell i _ hm
        have hmF : m ≤ F := by have := HM.out (m : Int) (List.mem_of_getElem? hm); omega
        have HMM := Lib.hid hm
        have HR1 := Lib.hid hr
        have HF1 := Lib.hid hf
        have HU := Lib.hid hu
        clear hcell hm hr hf hu
        go_wp2
        go_loopw [4, 7, 23] (SloRel2 w F l i m) (fun _ _ k _ => m - (intOf k).toNat)
        case atStart => exact ⟨0, F1, Nat.zero_le _, rfl, by simpa using HR1.out, HF1.out, HU.out⟩
        case round =>
          clear HR1 HF1 HU F1
          obtain ⟨k, F2, hk, rfl, hr, hf, hu⟩ := hrel
          by_cases hlt2 : k < m
          · obtain ⟨N, hN⟩ : ∃ N, N = (2 * k + 1) * F := ⟨_, rfl⟩
            obtain ⟨D, hD⟩ : ∃ D, D = 2 * m := ⟨_, rfl⟩
            have hNb : N ≤ 8256 := by rw [hN]; exact Nat.le_trans (Nat.mul_le_mul (show 2 * k + 1 ≤ 129 by omega) hF64) (by decide)
            have q1 : (2 * (k : Int) + 1) * (F : Int) = (N : Int) := by rw [hN]; simp
            have q2 : (2 : Int) * (m : Int) = (D : Int) := by omega
            have hq : ∀ W, (binOp .quo 60 (.float .f64 (floatOfInt .f64 (N : Int))) (.float .f64 (floatOfInt .f64 (D : Int)))).run Try.prog W = .ok (.float .f64 (qb F m k)) W := fun W => by
              rw [hN, hD]; exact quo_qb W F m k hF64 (by omega) hmF hlt2
            have hfd : floatOfInt .f64 (i : Int) = fd i := rfl
            obtain ⟨r, hr2⟩ : ∃ r, r = qb F m k := ⟨_, rfl⟩
            obtain ⟨s, hs2⟩ : ∃ s, s = fd i := ⟨_, rfl⟩
            rw [← hr2] at hq
            rw [← hs2] at hfd
            have htk : (qrow F i m).take (k + 1) = (qrow F i m).take k ++ [(r, s)] := by
              rw [List.take_add_one, hr2, hs2]; simp [qrow, hlt2]
            obtain ⟨v1, w1, G1, ha1, hb1, hc1, hd1⟩ := app_new (ty := 58) (x := ((r, s) : CQ)) Try.underlying58 etyC hr (by have := qall_len F l i (HM.out) hF64 hl6 hi; have : ((qrow F i m).take k).length ≤ k := List.length_take_le _ _; simp; omega) (Upd.alloc _ wr _) (Blk.new _ 59 (cE.enc (r, s)))
            have hfin : SloRel2 w F l i m v1 u7 (.int .i64 ((k : Int) + 1)) w1 := by
              refine ⟨k + 1, G1, hlt2, by go_num, by rw [htk, ← List.append_assoc]; exact hb1, ?_, hu.then hc1 (fun x hx hx' => by have := hf x hx'; omega)⟩
              intro x hx
              rcases hd1 x hx with h | h
              · exact hf x h
              · have := hu.size; omega
            have HA := Lib.hid ha1
            have HFIN := Lib.hid hfin
            clear ha1 hb1 hc1 hd1 hfin hr hf hu hN hD htk hr2 hs2
            go_wp2_with (at_builtin; refine wpList_append_by ⟨rfl, rfl, rfl, rfl⟩ HA.out ?_)
            exact ⟨HFIN.out, by simp [intOf]; omega⟩
          · have hke : k = m := by omega
            subst hke
            have hfin : SloRel1 w F l u4 u5 u6 u7 (.int .i64 ((i : Int) + 1)) wr := by
              refine ⟨i + 1, F2, hlt, by go_num, ?_, hf, hu⟩
              rw [qall_succ, show (l.getD i 0).toNat = k by simp [List.getD, HMM.out]]
              rw [List.take_of_length_le (by simp [qrow])] at hr
              exact hr
            have HFIN := Lib.hid hfin
            clear hfin hr hf hu
            go_wp2
            exact ⟨HFIN.out, by simp [intOf]; omega⟩
      · have hie : i = l.length := by omega
        subst hie
        obtain ⟨vb, vo, vc, cur, hv, _⟩ : ∃ b o c cur, u4 = .slice (some ⟨b, o, none⟩) (qall F l l.length).length c ∧ wr.heap[b]? = some (.cells cur tC (0, 0)) := by
          have hlen := qall_sum F l (fun x hx => (HM.out x hx).1) l.length (Nat.le_refl _)
          rw [List.take_of_length_le (Nat.le_refl _), HSF.out] at hlen
          rcases hr with ⟨_, h0, _⟩ | ⟨b, o, c, cur, h1, _, h2, _⟩
          · rw [h0] at hlen; simp at hlen; omega
          · exact ⟨b, o, c, cur, h1, h2⟩
        subst hv
        have hlq := qall_len F l l.length HM.out hF64 hl6 hi
        have hSQ := cE_ok hF64 hl6 HM.out
        rw [← qall_eq] at hSQ
        have hsrt := s_sort cmp_ok wr F1 vb vo vc _ (qall F l l.length) hr hSQ (by omega)
        have HSRT := Lib.hid hsrt
        have HF1 := Lib.hid hf
        have HU := Lib.hid hu
        obtain ⟨nq, hnq⟩ : ∃ nq, nq = (qall F l l.length).length := ⟨_, rfl⟩
        rw [← hnq] at HSRT hlq ⊢
        have HNQ := Lib.hid hnq
        clear hsrt hr hf hu hSQ hnq
        unfold byV at HSRT
        go_wp2_with fail
        refine HSRT.out.mono ?_
        rintro e w2 ⟨rfl, ys, z1, z2, z3, z4⟩
        have hys : ys = (qsort l).map (gq F l) := by
          refine sorted_eq (by omega) hF64 hl6 (cnt_le HM.out) ?_ ?_
          · rw [← qall_eq]; exact z3.perm
          · rw [List.pairwise_iff_getElem]
            intro a b ha hb hab
            refine z4 a b _ _ (Nat.zero_le _) hab ?_ (List.getElem?_eq_getElem ha) (List.getElem?_eq_getElem hb)
            have := z3.perm.length_eq
            rw [HNQ.out]; omega
        obtain ⟨out, hout⟩ : ∃ out, out = slotsOf l := ⟨_, rfl⟩
        have hol : out.length = nq := by
          have := z3.perm.length_eq
          rw [HNQ.out, ← this, hys, hout, slotsOf, if_neg (by rw [HZ.out]; omega), List.length_map, List.length_map]
        have hel : ∀ i, i < nq → ∃ q d, ys[i]? = some (q, fd d) ∧ d < 6 ∧ out[i]? = some (d : Int) := by
          intro i hi
          rw [← hol] at hi
          rw [hout, slotsOf, if_neg (by rw [HZ.out]; omega)] at hi ⊢
          have hi' : i < (qsort l).length := by simpa using hi
          refine ⟨qb F (cnt l (qsort l)[i].2) (qsort l)[i].1, (qsort l)[i].2, ?_, ?_, ?_⟩
          · rw [hys, List.getElem?_map, List.getElem?_eq_getElem hi']; rfl
          · have := (mem_quanta.1 ((qsort_perm l).mem_iff.1 (List.getElem_mem hi'))).1; omega
          · rw [List.getElem?_map, List.getElem?_eq_getElem hi']; rfl
        have HEL := Lib.hid hel
        have HOUT := Lib.hid hout
        have HOL := Lib.hid hol
        have HRW := Lib.hid z1
        have HU2 := Lib.hid (HU.out.then z2 (fun x hx hx' => by have := HF1.out x hx'; omega))
        obtain ⟨B2, hB2⟩ : ∃ B2, B2 = w2.heap.size := ⟨_, rfl⟩
        have HFB : Hid (∀ b, F1 b → b < B2) := Lib.hid (by rw [hB2]; exact z1.lt)
        have hwB : w.heap.size ≤ B2 := by rw [hB2]; exact HU2.out.size
        have hBw : B2 ≤ w2.heap.size := by omega
        clear z1 z2 z3 z4 hys hel hout hol HSRT HU hB2
        go_wp2
        go_loopw [8, 10, 48] (SloRel3 w B2 F1 (.slice (some ⟨vb, vo, none⟩) nq vc) ys out) (fun _ _ i _ => nq - (intOf i).toNat)
        case atStart => exact ⟨0, Nat.zero_le _, rfl, HRW.out, HFB.out, World.ownsRow_nil _ _ _ _, hwB, hBw, HU2.out⟩
        case round =>
          clear HRW HU2 HFB hBw
          obtain ⟨i, hi, rfl, hr, hf, hown, hwB, hBw, hu⟩ := hrel
          rw [HOL.out] at hi
          by_cases hlt3 : i < nq
          · obtain ⟨q, d, hy, hd6, ho⟩ := HEL.out i hlt3
            have g0 := row_cell hr hy
            have hcv := fun W => convF W d hd6
            have htk : out.take (i + 1) = out.take i ++ [(d : Int)] := by rw [List.take_add_one, ho]; rfl
            obtain ⟨ti, hti, htz, hts, htb⟩ := info_parts infoI
            have hlen : (out.take i).length = i := by rw [List.length_take, HOL.out]; omega
            obtain ⟨v1, w1, ha1, hb1, hc1, hd1⟩ := run_append_own (w := wr.alloc (.cells #[.int .i64 (d : Int)] 3)) (P := Try.prog) B2 26 26 3 ti (.int .i64 0) 1 8 Try.underlying26 hti htz hts htb rfl (by decide) u8 _ _ (hown.alloc _) ⟨wr.heap.size, 0, none⟩ 1 1 [.int .i64 (d : Int)] rfl
              (by intro j u hj; cases j with | zero => (simp at hj; subst hj; rw [Addr.add_lit]; go_simp) | succ j => simp at hj) (by intro u hu; simp at hu; subst hu; rfl) (by unfold maxLen; omega) (by omega) (by have := hu.size; simp; omega)
            have hfin : SloRel3 w B2 F1 (.slice (some ⟨vb, vo, none⟩) nq vc) ys out v1 u10 (.int .i64 ((i : Int) + 1)) w1 := by
              have hup : Upd (fun b => u8.ownBlock = some b) wr w1 := (Upd.alloc _ _ _).trans (Upd.ofGrown hc1 (fun b hb => hb))
              refine ⟨i + 1, by rw [HOL.out]; exact hlt3, by go_num, hr.upd hup (fun b hb hbb => ?_), hf, by rw [htk]; simpa using hb1, hwB, Nat.le_trans hBw hup.size, hu.then hup (fun x hx hx' => ?_)⟩
              · have := (hown.lt b hbb).1; have := hf b hb; omega
              · have := (hown.lt x hx').1; omega
            have HA := Lib.hid ha1
            have HFIN := Lib.hid hfin
            clear ha1 hb1 hc1 hd1 hfin hr hf hu hown hwB hBw hy ho htk hti htz hts htb hlen
            go_wp2_with (at_builtin; refine wpList_append_by ⟨rfl, rfl, rfl, rfl⟩ HA.out ?_)
            exact ⟨HFIN.out, by simp [intOf]; omega⟩
          · have hin : i = nq := by omega
            subst hin
            have hfin : SloPost w l (.returned u8) wr := by
              refine ⟨u8, rfl, ?_, hu⟩
              rw [List.take_of_length_le (by rw [HOL.out]; exact Nat.le_refl _), HOUT.out] at hown
              exact ⟨hown.1, hown.2.imp id (fun ⟨g, cap, cur, h1, h2, r⟩ => ⟨g, cap, cur, h1, Nat.le_trans hwB h2, r⟩)⟩
            have HFIN := Lib.hid hfin
            clear hfin hr hf hu hown
            go_wp2
            go_ret
            exact HFIN.out
end Go.Proofs.Ytjjbnmlhbbnhcaa
