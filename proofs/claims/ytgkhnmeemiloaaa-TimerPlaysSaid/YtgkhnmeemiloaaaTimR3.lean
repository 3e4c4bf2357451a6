/- The document's timers: walks of Due, Next; SameInts. Conditions: none. -/
import Derived.Test.YtgkhnmeemiloaaaTimR2
import Derived.Test.YtgkhnmeemiloaaaTim2
import Derived.Deep.QuietTactic
import Derived.BigQuiet
set_option linter.unusedVariables false
set_option linter.unusedSimpArgs false
namespace Go.Proofs.Ytgkhnmeemiloaaa
open Go.RowKit

def RDueRel (w : World) (l : List (Int × Int)) (t : Int) (n : Nat) (v r i : Value) (wr : World) : Prop :=
  ∃ (k : Nat) (F1 F2 : Nat → Prop), k ≤ n ∧ i = .int .i64 k ∧ Row intE 3 wr F1 v (dueOf t (l.take k)) ∧ Row slE 61 wr F2 r (restOf t (l.take k)) ∧ (∀ x, F1 x → w.heap.size ≤ x ∧ ¬ F2 x) ∧ (∀ x, F2 x → w.heap.size ≤ x) ∧ Upd NoB w wr

set_option maxHeartbeats 1000000 in
set_option maxRecDepth 100000 in
theorem rt_due (w : World) (F : Nat → Prop) (p : Value) (l : List (Int × Int)) (t : Int) (h : RtAt w F p l) (hn : l.length ≤ 1000000000) :
    Calls Try.prog 20 #[p, .int .i64 t] w fun e w' => ∃ v F' G, e = .returned v ∧ RtAt w' F' p (restOf t l) ∧ Upd F w w' ∧ (∀ b, F' b → F b ∨ w.heap.size ≤ b) ∧ Row intE 3 w' G v (dueOf t l) ∧ ∀ x, G x → w.heap.size ≤ x ∧ ¬ F' x := by
  obtain ⟨b, sv, G, rfl, hb, hr, hnb, rfl⟩ := h
  obtain ⟨ao, c, rfl, hlc⟩ := row_form hr
  have h0 : w.cell? ⟨b, 0, none⟩ = some (.slice ao l.length c) := hb.cell 0
  have hf0 := hb.frozen 0
  have hbl := hb.lt
  have hrd := hr.rd
  have hgl := hr.lt
  obtain ⟨n, hN⟩ : ∃ n, n = l.length := ⟨_, rfl⟩
  rw [← hN] at h0 hlc hn hrd hr
  have HB := Lib.hid hb
  have HR := Lib.hid hr
  have HNB := Lib.hid hnb
  have HRD := Lib.hid hrd
  have HN := Lib.hid hN
  have HGL := Lib.hid hgl
  clear hb hr hnb hrd hN hgl
  go_enter Try.func20, Try.ntmps20
  go_wp2
  go_loopw [5, 6, 7] (RDueRel w l t n) (fun _ _ i _ => n - (intOf i).toNat)
  case atStart => exact ⟨0, NoB, NoB, Nat.zero_le _, rfl, Row.nil _ _ _, Row.nil _ _ _, fun _ h => h.elim, fun _ h => h.elim, Upd.refl _ _⟩
  case round =>
    obtain ⟨k, F1, F2, hk, rfl, hr1, hr2, hd1, hd2, hU⟩ := hrel
    have gc0 : wr.cell? ⟨b, 0, none⟩ = some (.slice ao n c) := (World.cell?_of_block (w := w) (a := ⟨b, _, none⟩) (hU.keep b hbl (fun x => x))).trans h0
    by_cases hlt : k < n
    · obtain ⟨y, hy⟩ : ∃ y, l[k]? = some y := ⟨l[k]'(by rw [← HN.out]; exact hlt), by simp⟩
      obtain ⟨sb, o, c', hv, _, _, hcell⟩ := Rd.at (E := slE) (xs := l) (v := .slice ao n c) (w := w) (by have := HRD.out; exact this) (i := k) (by rw [← HN.out]; exact hlt)
      rw [← HN.out] at hv
      cases hv
      have hsb : sb < w.heap.size := HGL.out sb (by
        have hr := HR.out
        rcases hr with ⟨h, _⟩ | ⟨b', o', c', cur, h, rfl, hh, _⟩
        · cases h
        · cases h; rfl)
      have g0 : wr.cell? ⟨sb, o + k * 2, none⟩ = some (.int .i64 y.1) := (World.cell?_of_block (w := w) (a := ⟨sb, _, none⟩) (hU.keep sb hsb (fun x => x))).trans (hcell k 0 y _ hy rfl)
      have g1 : wr.cell? ⟨sb, o + k * 2 + 1, none⟩ = some (.int .i64 y.2) := (World.cell?_of_block (w := w) (a := ⟨sb, _, none⟩) (hU.keep sb hsb (fun x => x))).trans (hcell k 1 y _ hy rfl)
      obtain ⟨hs1, hs2⟩ := due_take t l k y hy
      have hlen := due_len t l k
      have hl1 := hlen.1
      have hl2 := hlen.2
      obtain ⟨v1, w1, G1, ha1, hb1, hc1, hd1'⟩ := app_new (ty := 35) (x := y.1) Try.underlying35 etyInt hr1 (by omega) (Upd.alloc NoB wr _) (Blk.new wr 3 (intE.enc y.1))
      obtain ⟨v2, w2, G2, ha2, hb2, hc2, hd2'⟩ := app_new (ty := 27) (x := y) Try.underlying27 etyRs hr2 (by omega) (Upd.alloc NoB wr _) (Blk.new wr 61 (slE.enc y))
      have hsz := hU.size
      by_cases hyt : y.2 ≤ t
      · obtain ⟨e1, e2⟩ := hs1 hyt
        have hfin : RDueRel w l t n v1 u6 (.int .i64 ((k : Int) + 1)) w1 := by
          refine ⟨k + 1, G1, F2, hlt, by go_num, by rw [e1]; exact hb1, by rw [e2]; exact hr2.upd hc1 (fun x hx hx' => (hd1 x hx').2 hx), ?_, hd2, hU.then hc1 (fun x hx hx' => by have := (hd1 x hx').1; omega)⟩
          intro x hx
          rcases hd1' x hx with h | h
          · exact hd1 x h
          · exact ⟨by omega, fun h2 => by have := hr2.lt x h2; omega⟩
        have HA := Lib.hid ha1
        have HFIN := Lib.hid hfin
        clear hs1 hs2 hlen ha1 ha2 hb1 hb2 hc1 hc2 hd1' hd2' hr1 hr2 hd1 hd2 hU hy hcell e1 e2 hfin hl1 hl2
        go_wp2_with (at_builtin; refine wpList_append_by ⟨rfl, rfl, rfl, rfl⟩ HA.out ?_)
        exact ⟨HFIN.out, by simp [intOf]; omega⟩
      · obtain ⟨e1, e2⟩ := hs2 (by omega)
        have hfin : RDueRel w l t n u5 v2 (.int .i64 ((k : Int) + 1)) w2 := by
          refine ⟨k + 1, F1, G2, hlt, by go_num, by rw [e1]; exact hr1.upd hc2 (fun x hx hx' => (hd1 x hx).2 hx'), by rw [e2]; exact hb2, ?_, ?_, hU.then hc2 (fun x hx hx' => by have := hd2 x hx'; omega)⟩
          · intro x hx
            refine ⟨(hd1 x hx).1, fun h2 => ?_⟩
            rcases hd2' x h2 with h | h
            · exact (hd1 x hx).2 h
            · have := hr1.lt x hx; omega
          · intro x hx
            rcases hd2' x hx with h | h
            · exact hd2 x h
            · omega
        have HA := Lib.hid ha2
        have HFIN := Lib.hid hfin
        clear hs1 hs2 hlen ha1 ha2 hb1 hb2 hc1 hc2 hd1' hd2' hr1 hr2 hd1 hd2 hU hy hcell e1 e2 hfin hl1 hl2
        go_wp2_with (at_builtin; refine wpList_append_by ⟨rfl, rfl, rfl, rfl⟩ HA.out ?_)
        exact ⟨HFIN.out, by simp [intOf]; omega⟩
    · have hke : k = n := by omega
      subst hke
      have hbb := (HB.out.upd hU (fun x => x))
      have gf := hbb.frozen 0
      rw [List.take_of_length_le (by rw [HN.out]; exact Nat.le_refl _)] at hr1 hr2
      obtain ⟨ao2, c2, rfl, _⟩ := row_form hr2
      have hfin : ∃ F', RtAt (wr.setCell ⟨b, 0, none⟩ (.slice ao2 (restOf t l).length c2)) F' (.pointer (some ⟨b, 0, none⟩)) (restOf t l) ∧ Upd (OrB (OneB b) G) w (wr.setCell ⟨b, 0, none⟩ (.slice ao2 (restOf t l).length c2)) ∧ (∀ x, F' x → OrB (OneB b) G x ∨ w.heap.size ≤ x) ∧ ∃ H, Row intE 3 (wr.setCell ⟨b, 0, none⟩ (.slice ao2 (restOf t l).length c2)) H u5 (dueOf t l) ∧ ∀ x, H x → w.heap.size ≤ x ∧ ¬ F' x := by
        have hF2 : ¬ F2 b := fun h => by have := hd2 b h; omega
        refine ⟨OrB (OneB b) F2, ⟨b, _, F2, rfl, (HB.out.upd hU (fun x => x)).set 0 _, hr2.upd (Upd.setCell (F := OneB b) wr _ _ rfl) (fun x hx hxb => hF2 (by cases hxb; exact hx)), hF2, rfl⟩, (hU.mono (fun x _ hx => hx.elim)).trans (Upd.setCell wr _ _ (.inl rfl)), ?_, F1, hr1.upd (Upd.setCell (F := OneB b) wr _ _ rfl) (fun x hx hxb => by cases hxb; have := (hd1 _ hx).1; omega), fun x hx => ⟨(hd1 x hx).1, ?_⟩⟩
        · rintro x (rfl | hx)
          · exact .inl (.inl rfl)
          · exact .inr (hd2 x hx)
        · rintro (rfl | hx')
          · have := (hd1 _ hx).1; omega
          · exact (hd1 x hx).2 hx'
      have HFIN := Lib.hid hfin
      clear hfin hr1 hr2 hd1 hd2 hU hbb
      go_wp2
      go_ret
      obtain ⟨F', h1, h2, h3, H, h4, h5⟩ := HFIN.out
      exact ⟨_, F', H, rfl, h1, h2, h3, h4, h5⟩

set_option maxHeartbeats 1000000 in
set_option maxRecDepth 100000 in
theorem rt_next (w : World) (F : Nat → Prop) (p : Value) (l : List (Int × Int)) (h : RtAt w F p l) (hn : l.length ≤ 1000000000) : Calls Try.prog 22 #[p] w fun e w' => e = .returned (.tuple #[.int .i64 (tmNextOf l).1, .bool (tmNextOf l).2]) ∧ Upd NoB w w' := by
  obtain ⟨b, sv, G, rfl, hb, hr, hnb, rfl⟩ := h
  obtain ⟨ao, c, rfl, hlc⟩ := row_form hr
  have h0 : w.cell? ⟨b, 0, none⟩ = some (.slice ao l.length c) := hb.cell 0
  cases l with
  | nil =>
    clear hb hr hnb
    go_enter Try.func22, Try.ntmps22
    go_wp2
    go_loopw [4, 5] (fun v i wr => v = .int .i64 0 ∧ i = .int .i64 0 ∧ w = wr) (fun _ _ _ => 0)
    case atStart => exact ⟨rfl, rfl, rfl⟩
    case round =>
      obtain ⟨rfl, rfl, rfl⟩ := hrel
      simp only [List.length_nil] at h0
      go_wp2
      go_quiet (fail)
      go_wp2
      go_ret2
      exact ⟨rfl, Upd.drewN _ _ _⟩
  | cons x r =>
    obtain ⟨n, hN⟩ : ∃ n, n = (x :: r).length := ⟨_, rfl⟩
    have hpos : 0 < n := by rw [hN]; simp
    obtain ⟨sb, o, c', hv, _, _, hcell⟩ := hr.rd.at (i := 0) (by simp)
    cases hv
    have hbl := hb.lt
    have hsb : sb < w.heap.size := by
      rcases hr with ⟨h, _⟩ | ⟨b', o', c', cur, h, rfl, hh, _⟩
      · cases h
      · cases h; exact lt_of_block hh
    have h1 : w.cell? ⟨sb, o + 1, none⟩ = some (.int .i64 x.2) := hcell 0 1 x _ rfl rfl
    have hne : ((n : Int) == 0) = false := by simp; omega
    have HC := Lib.hid hcell
    rw [← hN] at h0 hlc hn
    have HN := Lib.hid hN
    clear hb hr hnb hcell hN
    go_enter Try.func22, Try.ntmps22
    go_wp2
    go_loopw [4, 5] (fun v i wr => ∃ k : Nat, k ≤ n ∧ i = .int .i64 k ∧ v = .int .i64 (if k = 0 then 0 else (r.take (k - 1)).foldl (fun m y => min m y.2) x.2) ∧ Upd NoB w wr) (fun _ i _ => n - (intOf i).toNat)
    case atStart => exact ⟨0, Nat.zero_le _, rfl, rfl, Upd.refl _ _⟩
    case round =>
      obtain ⟨k, hk, rfl, rfl, hU⟩ := hrel
      have gc0 : wr.cell? ⟨b, 0, none⟩ = some (.slice (some ⟨sb, o, none⟩) n c) := (World.cell?_of_block (w := w) (a := ⟨b, _, none⟩) (hU.keep b hbl (fun x => x))).trans h0
      by_cases hlt : k < n
      · obtain ⟨y, hy⟩ : ∃ y, (x :: r)[k]? = some y := by
          refine ⟨(x :: r)[k]'(by rw [← HN.out]; exact hlt), by simp⟩
        have g1 : wr.cell? ⟨sb, o + k * 2 + 1, none⟩ = some (.int .i64 y.2) := (World.cell?_of_block (w := w) (a := ⟨sb, _, none⟩) (hU.keep sb hsb (fun x => x))).trans (HC.out k 1 y _ hy rfl)
        have hst := next_step x r k y hy
        have HU := Lib.hid hU
        have HY := Lib.hid hy
        by_cases hk0 : k = 0
        · subst hk0
          have hy0 : x = y := by simpa using hy
          subst hy0
          clear hU hy hst
          go_wp2
          exact ⟨⟨1, hlt, by go_num, by simp, HU.out⟩, by simp [intOf]; omega⟩
        · have hk0' : ((k : Int) == 0) = false := by simp; omega
          rw [if_neg hk0]
          obtain ⟨q, hq⟩ : ∃ q, q = (r.take (k - 1)).foldl (fun m y => min m y.2) x.2 := ⟨_, rfl⟩
          rw [← hq] at hst ⊢
          have HST := Lib.hid hst
          clear hU hy hst hq
          by_cases hyq : y.2 < q
          · have hyq' : decide (y.2 < q) = true := by simpa using hyq
            go_wp2
            exact ⟨⟨k + 1, hlt, by go_num, by rw [if_neg (by omega), Nat.add_sub_cancel, ← HST.out, if_pos hyq], HU.out⟩, by simp [intOf]; omega⟩
          · have hyq' : decide (y.2 < q) = false := by simpa using hyq
            go_wp2
            exact ⟨⟨k + 1, hlt, by go_num, by rw [if_neg (by omega), Nat.add_sub_cancel, ← HST.out, if_neg hyq], HU.out⟩, by simp [intOf]; omega⟩
      · have hke : k = n := by omega
        subst hke
        have hk0 : ¬ k = 0 := by omega
        rw [if_neg hk0]
        have HU := Lib.hid hU
        clear hU
        go_wp2
        go_quiet (fail)
        go_wp2
        go_ret2
        refine ⟨?_, HU.out.trans (Upd.drewN _ _ _)⟩
        have := HN.out
        simp only [List.length_cons] at this
        rw [List.take_of_length_le (by omega)]
        simp [tmNextOf, hpos]

set_option maxHeartbeats 1000000 in
set_option maxRecDepth 100000 in
theorem same_ints (w : World) (v v' : Value) (l m : List Int) (h : Rd intE w v l) (g : Rd intE w v' m) (hn : l.length ≤ 1000000000) (hm : m.length ≤ 1000000000) :
    Calls Try.prog 18 #[v, v'] w fun e w' => e = .returned (.bool (decide (l = m))) ∧ Upd NoB w w' := by
  have h' := h
  obtain ⟨ao, c, rfl, _⟩ := h'
  have g' := g
  obtain ⟨bo, d, rfl, _⟩ := g'
  have HR := Lib.hid h
  have GR := Lib.hid g
  clear h g
  by_cases hlen : l.length = m.length
  · have hne : ((l.length : Int) != (m.length : Int)) = false := by rw [hlen]; simp
    go_enter Try.func18, Try.ntmps18
    go_wp2
    go_loopw [5] (fun i wr => ∃ k : Nat, k ≤ l.length ∧ i = .int .i64 k ∧ Hid (l.take k = m.take k ∧ ∃ n, wr = w.drewN n)) (fun i _ => l.length - (intOf i).toNat)
    case atStart => exact ⟨0, Nat.zero_le _, rfl, ⟨by simp, 0, rfl⟩⟩
    case round =>
      obtain ⟨k, hk, rfl, hH⟩ := hrel
      have hcw : ∀ a, wr.cell? a = w.cell? a := by obtain ⟨_, n, rfl⟩ := hH.out; intro a; simp
      by_cases hlt : k < l.length
      · have hlt' : k < m.length := by omega
        obtain ⟨y, hy⟩ : ∃ y, l[k]? = some y := ⟨l[k], by simp [hlt]⟩
        obtain ⟨z, hz⟩ : ∃ z, m[k]? = some z := ⟨m[k], by simp [hlt']⟩
        obtain ⟨sb, o, c', hv, _, _, hcell⟩ := HR.out.at hlt
        cases hv
        obtain ⟨tb, p, d', hv, _, _, hcell'⟩ := GR.out.at hlt'
        cases hv
        have g0 : wr.cell? ⟨sb, o + k, none⟩ = some (.int .i64 y) := by rw [hcw]; have := hcell k 0 y _ hy rfl; simpa [intE] using this
        have g1 : wr.cell? ⟨tb, p + k, none⟩ = some (.int .i64 z) := by rw [hcw]; have := hcell' k 0 z _ hz rfl; simpa [intE] using this
        have HY := Lib.hid hy
        have HZ := Lib.hid hz
        clear hcell hcell' hy hz hcw
        by_cases he : y = z
        · have he' : (y != z) = false := by simpa using he
          go_wp2
          go_quiet (fail)
          go_wp2
          refine ⟨⟨k + 1, hlt, by go_num, ⟨?_, ?_⟩⟩, by simp [intOf]; omega⟩
          · rw [List.take_add_one, List.take_add_one, hH.out.1, HY.out, HZ.out, he]
          · obtain ⟨n, h⟩ := hH.out.2; exact ⟨n + nq, by rw [h, World.drewN_drewN]⟩
        · have he' : (y != z) = true := by simpa using he
          go_wp2
          go_quiet (fail)
          go_wp2
          go_ret
          refine ⟨?_, ?_⟩
          · have : ¬ l = m := fun e => by
              have h1 := HY.out; have h2 := HZ.out
              rw [e, h2] at h1; cases h1; exact he rfl
            simp [this]
          · obtain ⟨n, h⟩ := hH.out.2; rw [h, World.drewN_drewN]; exact Upd.drewN _ _ _
      · have hke : k = l.length := by omega
        subst hke
        clear hcw
        go_wp2
        go_ret
        obtain ⟨n, h⟩ := hH.out.2
        refine ⟨?_, by rw [h]; exact Upd.drewN _ _ _⟩
        have h1 := hH.out.1
        rw [List.take_of_length_le (Nat.le_refl _), List.take_of_length_le (by omega)] at h1
        simp [h1]
  · have hne : ((l.length : Int) != (m.length : Int)) = true := by simp; omega
    go_enter Try.func18, Try.ntmps18
    go_wp2
    go_ret
    refine ⟨?_, Upd.refl _ _⟩
    have : ¬ l = m := fun e => hlen (by rw [e])
    simp [this]
end Go.Proofs.Ytgkhnmeemiloaaa
