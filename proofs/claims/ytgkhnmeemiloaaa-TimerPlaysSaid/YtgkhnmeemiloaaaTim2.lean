/- The program's timers: walks of Drop, Due, Next, New, Len. Conditions: none. -/
import Derived.Test.YtgkhnmeemiloaaaTim
set_option linter.unusedVariables false
set_option linter.unusedSimpArgs false
namespace Go.Proofs.Ytgkhnmeemiloaaa
open Go.RowKit

set_option maxHeartbeats 1000000 in
set_option maxRecDepth 100000 in
theorem tm_drop (w : World) (F : Nat → Prop) (p : Value) (l : List (Int × Int)) (id : Int) (h : TmAt w F p l) (hn : l.length ≤ 1000000000) :
    Calls Try.prog 16 #[p, .int .i64 id] w (TmPost F w p (.bool (tmPlace id l).2) (tmDrop id l)) := by
  have h' := h
  obtain ⟨b, sv, G, rfl, hb, hr, hnb, rfl⟩ := h
  obtain ⟨ao, c, rfl, hlc⟩ := row_form hr
  have h0 : w.cell? ⟨b, 0, none⟩ = some (.slice ao l.length c) := hb.cell 0
  have hf0 := hb.frozen 0
  have hplace := place_any w b ao c l id h0 hr.rd hn
  obtain ⟨r, hR⟩ : ∃ r, r = tmPlace id l := ⟨_, rfl⟩
  have hle := tmPlace_le id l
  rw [← hR] at hplace hle ⊢
  by_cases ht : r.2 = true
  · obtain ⟨x, hx, hxe, _, hdr⟩ := tmPlace_there id 0 l (hR ▸ ht)
    rw [← hR] at hx hdr
    have hi : r.1 < l.length := (List.getElem?_eq_some_iff.1 hx).1
    have hdel := del_sl w G (.slice ao l.length c) l hr r.1 hi hn
    rw [← hdr] at hdel
    have HP := Lib.hid hplace
    have HT := Lib.hid ht
    have HD := Lib.hid hdel
    have HB := Lib.hid hb
    have hnb' := Lib.hid hnb
    clear hplace hdr hx hxe hR hr ht hdel hb hnb h'
    go_enter Try.func16, Try.ntmps16
    go_wp2_with (first
      | (go_at_call 31; refine HP.out.mono ?_; rintro e w' ⟨rfl, rfl⟩; rw [HT.out])
      | (go_at_call 33; refine HD.out.mono ?_; rintro e w' ⟨v', F', rfl, hr', hu', hF'⟩; obtain ⟨ao', c', rfl, _⟩ := row_form hr'; have hb2 := HB.out.upd hu' hnb'.out; have hc2 : w'.cell? ⟨b, 0, none⟩ = some (.slice ao l.length c) := hb2.cell 0; have hf2 := hb2.frozen 0; have HN := Lib.hid (fun R => PsAt.put HB.out hnb'.out hu' hr' hF' R); clear hr' hu' hF' hb2))
    go_ret
    rw [HT.out]
    exact HN.out _
  · have ht' : r.2 = false := by simpa using ht
    obtain ⟨_, hdr⟩ := tmPlace_not id 0 l (hR ▸ ht')
    rw [hdr]
    have HP := Lib.hid hplace
    have HT := Lib.hid ht'
    have HH := Lib.hid h'
    clear hplace hdr hR hr ht ht' hb hnb h'
    go_enter Try.func16, Try.ntmps16
    go_wp2_with (go_at_call 31; refine HP.out.mono ?_; rintro e w' ⟨rfl, rfl⟩; rw [HT.out])
    go_ret
    rw [HT.out]
    exact ⟨_, rfl, HH.out, Upd.refl _ _, fun x hx => .inl hx⟩

theorem tm_new (w : World) : Calls Try.prog 13 #[] w fun e w' => e = .returned (.pointer (some ⟨w.heap.size, 0, none⟩)) ∧ w' = w.alloc (.cells #[.slice none 0 0] 55 (0,0)) := by
  go_enter Try.func13, Try.ntmps13
  go_wp2
  go_ret
  exact ⟨rfl, rfl⟩
theorem tm_new_at (w : World) : TmAt (w.alloc (.cells #[.slice none 0 0] 55 (0,0))) (OrB (OneB w.heap.size) NoB) (.pointer (some ⟨w.heap.size, 0, none⟩)) [] :=
  ⟨w.heap.size, _, NoB, rfl, Blk.new w _ [_], Row.nil _ _ _, fun h => h, rfl⟩

theorem tm_len (w : World) (F : Nat → Prop) (p : Value) (l : List (Int × Int)) (h : TmAt w F p l) : Calls Try.prog 23 #[p] w fun e w' => e = .returned (.int .i64 l.length) ∧ w = w' := by
  obtain ⟨b, sv, G, rfl, hb, hr, hnb, rfl⟩ := h
  obtain ⟨ao, c, rfl, hlc⟩ := row_form hr
  have h0 : w.cell? ⟨b, 0, none⟩ = some (.slice ao l.length c) := hb.cell 0
  clear hb hr hnb
  go_enter Try.func23, Try.ntmps23
  go_wp2
  go_ret
  exact ⟨rfl, rfl⟩

/-- Next: the least time; of nobody: 0, false. -/
def tmNextOf : List (Int × Int) → Int × Bool
  | [] => (0, false)
  | x :: r => (r.foldl (fun m y => min m y.2) x.2, true)

theorem next_step (x : Int × Int) (r : List (Int × Int)) (k : Nat) (y : Int × Int) (hy : (x :: r)[k]? = some y) :
    (if y.2 < (r.take (k - 1)).foldl (fun m y => min m y.2) x.2 then y.2 else (r.take (k - 1)).foldl (fun m y => min m y.2) x.2) = (r.take k).foldl (fun m y => min m y.2) x.2 := by
  cases k with
  | zero => simp at hy; subst hy; simp
  | succ k =>
    have hy' : r[k]? = some y := by simpa using hy
    have ht : r.take (k + 1) = r.take k ++ [y] := by
      rw [List.take_add_one, hy']; rfl
    rw [ht, List.foldl_append]
    simp only [Nat.add_sub_cancel, List.foldl_cons, List.foldl_nil]
    generalize List.foldl (fun m y => min m y.2) x.2 (List.take k r) = m
    split <;> omega

set_option maxHeartbeats 1000000 in
set_option maxRecDepth 100000 in
theorem tm_next (w : World) (F : Nat → Prop) (p : Value) (l : List (Int × Int)) (h : TmAt w F p l) (hn : l.length ≤ 1000000000) : Calls Try.prog 21 #[p] w fun e w' => e = .returned (.tuple #[.int .i64 (tmNextOf l).1, .bool (tmNextOf l).2]) ∧ Upd NoB w w' := by
  obtain ⟨b, sv, G, rfl, hb, hr, hnb, rfl⟩ := h
  obtain ⟨ao, c, rfl, hlc⟩ := row_form hr
  have h0 : w.cell? ⟨b, 0, none⟩ = some (.slice ao l.length c) := hb.cell 0
  cases l with
  | nil =>
    clear hb hr hnb
    go_enter Try.func21, Try.ntmps21
    go_wp2
    go_ret2
    exact ⟨rfl, Upd.refl _ _⟩
  | cons x r =>
    obtain ⟨n, hN⟩ : ∃ n, n = (x :: r).length := ⟨_, rfl⟩
    have hpos : 0 < n := by rw [hN]; simp
    obtain ⟨sb, o, c', hv, _, _, hcell⟩ := hr.rd.at (i := 0) (by simp)
    cases hv
    have hbl := hb.lt
    have hsb : sb < w.heap.size := by
      rcases hr with ⟨h, _⟩ | ⟨b', o', c', cur, h, rfl, hh, _⟩
      · cases h
      · cases h; exact lt_of_block hh
    have h1 : w.cell? ⟨sb, o + 1, none⟩ = some (.int .i64 x.2) := hcell 0 1 x _ rfl rfl
    have hne : ((n : Int) == 0) = false := by simp; omega
    have HC := Lib.hid hcell
    rw [← hN] at h0 hlc hn
    have HN := Lib.hid hN
    clear hb hr hnb hcell hN
    go_enter Try.func21, Try.ntmps21
    go_wp2
    go_loopw [4, 25] (fun v i wr => ∃ k : Nat, k ≤ n ∧ i = .int .i64 k ∧ v = .int .i64 ((r.take (k - 1)).foldl (fun m y => min m y.2) x.2) ∧ Upd NoB w wr) (fun _ i _ => n - (intOf i).toNat)
    case atStart => exact ⟨0, Nat.zero_le _, rfl, rfl, Upd.refl _ _⟩
    case round =>
      obtain ⟨k, hk, rfl, rfl, hU⟩ := hrel
      by_cases hlt : k < n
      · obtain ⟨y, hy⟩ : ∃ y, (x :: r)[k]? = some y := by
          refine ⟨(x :: r)[k]'(by rw [← HN.out]; exact hlt), by simp⟩
        have g0 : wr.cell? ⟨sb, o + k * 2, none⟩ = some (.int .i64 y.1) := (World.cell?_of_block (w := w) (a := ⟨sb, _, none⟩) (hU.keep sb hsb (fun x => x))).trans (HC.out k 0 y _ hy rfl)
        have g1 : wr.cell? ⟨sb, o + k * 2 + 1, none⟩ = some (.int .i64 y.2) := (World.cell?_of_block (w := w) (a := ⟨sb, _, none⟩) (hU.keep sb hsb (fun x => x))).trans (HC.out k 1 y _ hy rfl)
        have HU := Lib.hid hU
        have HY := Lib.hid hy
        clear hU hy
        go_wp2
        exact ⟨⟨k + 1, hlt, by go_num, by rw [next_step x r k y HY.out]; simp, HU.out.trans (Upd.alloc _ _ _)⟩, by simp [intOf]; omega⟩
      · have hke : k = n := by omega
        subst hke
        have HU := Lib.hid hU
        clear hU
        go_wp2
        go_ret2
        refine ⟨?_, HU.out⟩
        have := HN.out
        simp only [List.length_cons] at this
        rw [List.take_of_length_le (by omega)]
        rfl

def dueOf (t : Int) (l : List (Int × Int)) : List Int := (l.filter (fun p => decide (p.2 ≤ t))).map (·.1)
def restOf (t : Int) (l : List (Int × Int)) : List (Int × Int) := l.filter (fun p => !decide (p.2 ≤ t))
theorem infoInt : (Try.prog.info? 3).map (fun i => (i.zero, i.size, i.bytes)) = some (some (.int .i64 0), 1, 8) := by kernel_rfl
theorem etyInt : Ety Try.prog intE 3 (.int .i64 0) := by
  obtain ⟨i, hi, hz, hs, hb⟩ := info_parts infoInt
  exact ⟨⟨i, hi, hz, hs, by omega⟩, rfl⟩

theorem due_take (t : Int) (l : List (Int × Int)) (k : Nat) (y : Int × Int) (hy : l[k]? = some y) : (y.2 ≤ t → dueOf t (l.take (k + 1)) = dueOf t (l.take k) ++ [y.1] ∧ restOf t (l.take (k + 1)) = restOf t (l.take k)) ∧ (t < y.2 → dueOf t (l.take (k + 1)) = dueOf t (l.take k) ∧ restOf t (l.take (k + 1)) = restOf t (l.take k) ++ [y]) := by
  have ht : l.take (k + 1) = l.take k ++ [y] := by rw [List.take_add_one, hy]; rfl
  rw [ht]
  constructor
  · intro h; simp [dueOf, restOf, List.filter_append, h]
  · intro h
    have : ¬ y.2 ≤ t := by omega
    simp [dueOf, restOf, List.filter_append, this]

/-- What has been found so far. -/
def DueRel (w : World) (l : List (Int × Int)) (t : Int) (n : Nat) (v r i : Value) (wr : World) : Prop :=
  ∃ (k : Nat) (F1 F2 : Nat → Prop), k ≤ n ∧ i = .int .i64 k ∧ Row intE 3 wr F1 v (dueOf t (l.take k)) ∧ Row slE 58 wr F2 r (restOf t (l.take k)) ∧ (∀ x, F1 x → w.heap.size ≤ x ∧ ¬ F2 x) ∧ (∀ x, F2 x → w.heap.size ≤ x) ∧ Upd NoB w wr

theorem due_len (t : Int) (l : List (Int × Int)) (k : Nat) : (dueOf t (l.take k)).length ≤ k ∧ (restOf t (l.take k)).length ≤ k := by
  have := List.length_take_le k l
  constructor
  · simp only [dueOf, List.length_map]; exact Nat.le_trans (List.length_filter_le _ _) this
  · exact Nat.le_trans (List.length_filter_le _ _) this

theorem new_two (w : World) (o : Obj) (T' : TypeId) (cs : List Value) : Blk ((w.alloc o).alloc (.cells cs.toArray T')) (w.heap.size + 1) T' cs := by
  have := Blk.new (w.alloc o) T' cs
  simpa using this
theorem upd_two (w : World) (o o' : Obj) : Upd NoB w ((w.alloc o).alloc o') := (Upd.alloc _ _ _).trans (Upd.alloc _ _ _)

set_option maxHeartbeats 1000000 in
set_option maxRecDepth 100000 in
theorem tm_due (w : World) (F : Nat → Prop) (p : Value) (l : List (Int × Int)) (t : Int) (h : TmAt w F p l) (hn : l.length ≤ 1000000000) :
    Calls Try.prog 19 #[p, .int .i64 t] w fun e w' => ∃ v F' G, e = .returned v ∧ TmAt w' F' p (restOf t l) ∧ Upd F w w' ∧ (∀ b, F' b → F b ∨ w.heap.size ≤ b) ∧ Row intE 3 w' G v (dueOf t l) ∧ ∀ x, G x → w.heap.size ≤ x ∧ ¬ F' x := by
  obtain ⟨b, sv, G, rfl, hb, hr, hnb, rfl⟩ := h
  obtain ⟨ao, c, rfl, hlc⟩ := row_form hr
  have h0 : w.cell? ⟨b, 0, none⟩ = some (.slice ao l.length c) := hb.cell 0
  have hf0 := hb.frozen 0
  have hbl := hb.lt
  have hrd := hr.rd
  have hgl := hr.lt
  obtain ⟨n, hN⟩ : ∃ n, n = l.length := ⟨_, rfl⟩
  rw [← hN] at h0 hlc hn hrd hr
  have HB := Lib.hid hb
  have HR := Lib.hid hr
  have HNB := Lib.hid hnb
  have HRD := Lib.hid hrd
  have HN := Lib.hid hN
  have HGL := Lib.hid hgl
  clear hb hr hnb hrd hN hgl
  go_enter Try.func19, Try.ntmps19
  go_wp2
  go_loopw [5, 6, 14] (DueRel w l t n) (fun _ _ i _ => n - (intOf i).toNat)
  case atStart => exact ⟨0, NoB, NoB, Nat.zero_le _, rfl, Row.nil _ _ _, Row.nil _ _ _, fun _ h => h.elim, fun _ h => h.elim, Upd.refl _ _⟩
  case round =>
    obtain ⟨k, F1, F2, hk, rfl, hr1, hr2, hd1, hd2, hU⟩ := hrel
    by_cases hlt : k < n
    · obtain ⟨y, hy⟩ : ∃ y, l[k]? = some y := ⟨l[k]'(by rw [← HN.out]; exact hlt), by simp⟩
      obtain ⟨sb, o, c', hv, _, _, hcell⟩ := Rd.at (E := slE) (xs := l) (v := .slice ao n c) (w := w) (by have := HRD.out; exact this) (i := k) (by rw [← HN.out]; exact hlt)
      rw [← HN.out] at hv
      cases hv
      have hsb : sb < w.heap.size := HGL.out sb (by
        have hr := HR.out
        rcases hr with ⟨h, _⟩ | ⟨b', o', c', cur, h, rfl, hh, _⟩
        · cases h
        · cases h; rfl)
      have g0 : wr.cell? ⟨sb, o + k * 2, none⟩ = some (.int .i64 y.1) := (World.cell?_of_block (w := w) (a := ⟨sb, _, none⟩) (hU.keep sb hsb (fun x => x))).trans (hcell k 0 y _ hy rfl)
      have g1 : wr.cell? ⟨sb, o + k * 2 + 1, none⟩ = some (.int .i64 y.2) := (World.cell?_of_block (w := w) (a := ⟨sb, _, none⟩) (hU.keep sb hsb (fun x => x))).trans (hcell k 1 y _ hy rfl)
      obtain ⟨hs1, hs2⟩ := due_take t l k y hy
      have hlen := due_len t l k
      have hl1 := hlen.1
      have hl2 := hlen.2
      obtain ⟨v1, w1, G1, ha1, hb1, hc1, hd1'⟩ := app_new (ty := 35) (x := y.1) Try.underlying35 etyInt hr1 (by omega) (upd_two wr (.cells #[.int .i64 y.1, .int .i64 y.2] 58) _) (new_two _ _ 3 (intE.enc y.1))
      obtain ⟨v2, w2, G2, ha2, hb2, hc2, hd2'⟩ := app_new (ty := 53) (x := y) Try.underlying53 etySl hr2 (by omega) (upd_two wr (.cells #[.int .i64 y.1, .int .i64 y.2] 58) _) (new_two _ _ 58 (slE.enc y))
      have hsz := hU.size
      by_cases hyt : y.2 ≤ t
      · obtain ⟨e1, e2⟩ := hs1 hyt
        have hfin : DueRel w l t n v1 u6 (.int .i64 ((k : Int) + 1)) w1 := by
          refine ⟨k + 1, G1, F2, hlt, by go_num, by rw [e1]; exact hb1, by rw [e2]; exact hr2.upd hc1 (fun x hx hx' => (hd1 x hx').2 hx), ?_, hd2, hU.then hc1 (fun x hx hx' => by have := (hd1 x hx').1; omega)⟩
          intro x hx
          rcases hd1' x hx with h | h
          · exact hd1 x h
          · exact ⟨by omega, fun h2 => by have := hr2.lt x h2; omega⟩
        have HA := Lib.hid ha1
        have HFIN := Lib.hid hfin
        clear hs1 hs2 hlen ha1 ha2 hb1 hb2 hc1 hc2 hd1' hd2' hr1 hr2 hd1 hd2 hU hy hcell e1 e2 hfin hl1 hl2
        go_wp2_with (at_builtin; refine wpList_append_by ⟨rfl, rfl, rfl, rfl⟩ HA.out ?_)
        exact ⟨HFIN.out, by simp [intOf]; omega⟩
      · obtain ⟨e1, e2⟩ := hs2 (by omega)
        have hfin : DueRel w l t n u5 v2 (.int .i64 ((k : Int) + 1)) w2 := by
          refine ⟨k + 1, F1, G2, hlt, by go_num, by rw [e1]; exact hr1.upd hc2 (fun x hx hx' => (hd1 x hx).2 hx'), by rw [e2]; exact hb2, ?_, ?_, hU.then hc2 (fun x hx hx' => by have := hd2 x hx'; omega)⟩
          · intro x hx
            refine ⟨(hd1 x hx).1, fun h2 => ?_⟩
            rcases hd2' x h2 with h | h
            · exact (hd1 x hx).2 h
            · have := hr1.lt x hx; omega
          · intro x hx
            rcases hd2' x hx with h | h
            · exact hd2 x h
            · omega
        have HA := Lib.hid ha2
        have HFIN := Lib.hid hfin
        clear hs1 hs2 hlen ha1 ha2 hb1 hb2 hc1 hc2 hd1' hd2' hr1 hr2 hd1 hd2 hU hy hcell e1 e2 hfin hl1 hl2
        go_wp2_with (at_builtin; refine wpList_append_by ⟨rfl, rfl, rfl, rfl⟩ HA.out ?_)
        exact ⟨HFIN.out, by simp [intOf]; omega⟩
    · have hke : k = n := by omega
      subst hke
      have hbb := (HB.out.upd hU (fun x => x))
      have gc : wr.cell? ⟨b, 0, none⟩ = some (.slice ao k c) := by rw [HN.out]; exact hbb.cell 0
      have gf := hbb.frozen 0
      rw [List.take_of_length_le (by rw [HN.out]; exact Nat.le_refl _)] at hr1 hr2
      obtain ⟨ao2, c2, rfl, _⟩ := row_form hr2
      have hfin : ∃ F', TmAt (wr.setCell ⟨b, 0, none⟩ (.slice ao2 (restOf t l).length c2)) F' (.pointer (some ⟨b, 0, none⟩)) (restOf t l) ∧ Upd (OrB (OneB b) G) w (wr.setCell ⟨b, 0, none⟩ (.slice ao2 (restOf t l).length c2)) ∧ (∀ x, F' x → OrB (OneB b) G x ∨ w.heap.size ≤ x) ∧ ∃ H, Row intE 3 (wr.setCell ⟨b, 0, none⟩ (.slice ao2 (restOf t l).length c2)) H u5 (dueOf t l) ∧ ∀ x, H x → w.heap.size ≤ x ∧ ¬ F' x := by
        have hF2 : ¬ F2 b := fun h => by have := hd2 b h; omega
        refine ⟨OrB (OneB b) F2, ⟨b, _, F2, rfl, (HB.out.upd hU (fun x => x)).set 0 _, hr2.upd (Upd.setCell (F := OneB b) wr _ _ rfl) (fun x hx hxb => hF2 (by cases hxb; exact hx)), hF2, rfl⟩, (hU.mono (fun x _ hx => hx.elim)).trans (Upd.setCell wr _ _ (.inl rfl)), ?_, F1, hr1.upd (Upd.setCell (F := OneB b) wr _ _ rfl) (fun x hx hxb => by cases hxb; have := (hd1 _ hx).1; omega), fun x hx => ⟨(hd1 x hx).1, ?_⟩⟩
        · rintro x (rfl | hx)
          · exact .inl (.inl rfl)
          · exact .inr (hd2 x hx)
        · rintro (rfl | hx')
          · have := (hd1 _ hx).1; omega
          · exact (hd1 x hx).2 hx'
      have HFIN := Lib.hid hfin
      clear hfin hr1 hr2 hd1 hd2 hU hbb
      go_wp2
      go_ret
      obtain ⟨F', h1, h2, h3, H, h4, h5⟩ := HFIN.out
      exact ⟨_, F', H, rfl, h1, h2, h3, h4, h5⟩
end Go.Proofs.Ytgkhnmeemiloaaa
