/- Texts put together: The program's timers at rows of sleepers (tmE): walks. Timers as one part of memory: their operations. A kernel as one part of memory; thread, Runnable, Run, Sleep, Exit, Wait, Signal. A kernel: Wait, Signal, Weight, Nodes, count. A kernel: count, adds, Spawn, Group. A kernel: Spawn, Group, Wake. A kernel: New. A kernel: Wake. A kernel: Threads. A kernel as one part of memory: what its operations make of it. tontinelaw10.ready. tontinelaw10.known: the states. A kernel's numbers, plainly. Conditions: none. -/
import Derived.Test.YtlhjibkkkhgonaaGreatMgKb4
set_option linter.unusedVariables false
set_option linter.unusedSimpArgs false
namespace Go.Proofs.YtlhjibkkkhgonaaGreat
open Go.RowKit
def TmAt (w : World) (F : Nat → Prop) (p : Value) (l : List (Int × Int)) : Prop := PsAt tmE 86 99 w F p l
def TmPost (F : Nat → Prop) (w : World) (p R : Value) (l : List (Int × Int)) (e : Ending) (w' : World) : Prop := PsPost tmE 86 99 F w p R l e w'

set_option maxHeartbeats 1000000 in
set_option maxRecDepth 100000 in
theorem place_any (w : World) (b : Nat) (ao : Option Addr) (c : Nat) (l : List (Int × Int)) (id : Int) (h : w.cell? ⟨b, 0, none⟩ = some (.slice ao l.length c)) (hr : Rd tmE w (.slice ao l.length c) l) (hn : l.length ≤ 1000000000) :
    Calls Tryz.prog 49 #[.pointer (some ⟨b, 0, none⟩), .int .i64 id] w fun e w' => e = .returned (.tuple #[.int .i64 (tmPlace id l).1, .bool (tmPlace id l).2]) ∧ w = w' := by
  go_enter Tryz.func49, Tryz.ntmps49
  go_wp2
  refine wp_scope_g 0 (fun n a' w' => w = w' ∧ ∃ (k : Nat), k ≤ l.length ∧ n = l.length - k ∧ Hid ((tmPlace id l).1 = (tmPlace id (l.drop k)).1 + k ∧ (tmPlace id l).2 = (tmPlace id (l.drop k)).2) ∧ ∃ (u2 u3 u7 u8 u9 u10 u11 u12 u13 u14 u15 u16 u17 u18 u19 u20 u21 u22 u23 u24 u25 u26 u27 u28 u29 u30 u31 u32 u33 u34 u35 u36 u37 u38 u39 : Value), a' = { tmps := #[.pointer (some ⟨b, 0, none⟩), .int .i64 id, u2, u3, .int .i64 0, .bool false, .int .i64 k, u7, u8, u9, u10, u11, u12, u13, u14, u15, u16, u17, u18, u19, u20, u21, u22, u23, u24, u25, u26, u27, u28, u29, u30, u31, u32, u33, u34, u35, u36, u37, u38, u39], defers := [] }) rfl ?_ ?_
  · rintro n a' w' ⟨rfl, k, hk, rfl, hH, _, _, _, _, _, _, _, _, _, _, _, _, _, _, _, _, _, _, _, _, _, _, _, _, _, _, _, _, _, _, _, _, _, _, _, rfl⟩ K hK
    by_cases hlt : k < l.length
    · obtain ⟨sb, o, c', hv, _, _, hcell⟩ := hr.at hlt
      cases hv
      have hx : l[k]? = some l[k] := by simp [hlt]
      have h0 : w.cell? ⟨sb, o + k * 2, none⟩ = some (.int .i64 l[k].1) := hcell k 0 l[k] _ hx rfl
      have hne : ((k : Int) == (l.length : Int)) = false := by simp; omega
      have hd : l.drop k = l[k] :: l.drop (k + 1) := List.drop_eq_getElem_cons hlt
      rw [hd] at hH
      have HD := Lib.hid hd
      clear hd hcell
      go_wp2
      · have hlt' : id < l[k].1 := by assumption
        simp only [Exit.jump]
        go_wp2
        go_ret2
        have := hH.out
        simp only [tmPlace, if_pos hlt'] at this
        exact ⟨by rw [this.1, this.2]; simp, rfl⟩
      · have hle : l[k].1 ≤ id := by assumption
        have heq : (l[k].1 == id) = true := by assumption
        simp only [Exit.jump]
        go_wp2
        go_ret2
        have := hH.out
        simp only [tmPlace, if_neg (show ¬ id < l[k].1 by omega), if_pos (beq_iff_eq.1 heq)] at this
        exact ⟨by rw [this.1, this.2]; simp, rfl⟩
      · have hle : l[k].1 ≤ id := by assumption
        have heq : (l[k].1 == id) = false := by assumption
        have := hH.out
        simp only [tmPlace, if_neg (show ¬ id < l[k].1 by omega), if_neg (beq_eq_false_iff_ne.1 heq)] at this
        go_step3
        refine ⟨rfl, hK _ _ ⟨l.length - (k + 1), by omega, rfl, k + 1, hlt, rfl, ⟨by rw [this.1]; omega, this.2⟩, ?_⟩⟩
        (repeat apply Exists.intro)
        rfl
    · have hke : k = l.length := by omega
      subst hke
      have hH' := hH.out
      simp only [List.drop_length, tmPlace, Nat.zero_add] at hH'
      have HH := Lib.hid hH'
      clear hH'
      go_wp2
      simp only [Exit.jump]
      go_wp2
      go_ret2
      exact ⟨by rw [HH.out.1, HH.out.2]; simp, rfl⟩
  · intro K hK
    go_wp2
    go_step3
    go_step
    go_step
    refine hK _ _ _ ⟨rfl, 0, Nat.zero_le _, rfl, ⟨by simp, by simp⟩, ?_⟩
    (repeat apply Exists.intro)
    rfl

set_option maxHeartbeats 1000000 in
set_option maxRecDepth 100000 in
theorem tm_set (w : World) (F : Nat → Prop) (p : Value) (l : List (Int × Int)) (id u : Int) (h : TmAt w F p l) (hn : l.length ≤ 1000000000) :
    Calls Tryz.prog 35 #[p, .int .i64 id, .int .i64 u] w (TmPost F w p (.tuple #[]) (tmSet id u l)) := by
  obtain ⟨b, sv, G, rfl, hb, hr, hnb, rfl⟩ := h
  obtain ⟨ao, c, rfl, hlc⟩ := row_form hr
  have h0 : w.cell? ⟨b, 0, none⟩ = some (.slice ao l.length c) := hb.cell 0
  have hf0 := hb.frozen 0
  have hplace := place_any w b ao c l id h0 hr.rd hn
  obtain ⟨r, hR⟩ : ∃ r, r = tmPlace id l := ⟨_, rfl⟩
  have hle := tmPlace_le id l
  rw [← hR] at hplace hle
  by_cases ht : r.2 = true
  · obtain ⟨x, hx, hxe, hset, _⟩ := tmPlace_there id u l (hR ▸ ht)
    rw [← hR] at hx hset
    have hi : r.1 < l.length := (List.getElem?_eq_some_iff.1 hx).1
    obtain ⟨sb, o, c', hv, _, _, hcell⟩ := hr.rd.at hi
    cases hv
    have h1 : w.cell? ⟨sb, o + r.1 * 2 + 1, none⟩ = some (.int .i64 x.2) := hcell r.1 1 x _ hx rfl
    have hf1 : w.frozen? ⟨sb, o + r.1 * 2 + 1, none⟩ = false := hr.frozen rfl _
    have hnew : TmPost (OrB (OneB b) G) w (.pointer (some ⟨b, 0, none⟩)) (.tuple #[]) (tmSet id u l) (.returned (.tuple #[])) (w.setCell ⟨sb, o + r.1 * 2 + 1, none⟩ (.int .i64 u)) := by
      have hG : G sb := by
        rcases hr with ⟨h, _⟩ | ⟨b', o', c', cur, h, rfl, _⟩
        · cases h
        · cases h; rfl
      have hup : Upd G w (w.setCell ⟨sb, o + r.1 * 2 + 1, none⟩ (.int .i64 u)) := Upd.setCell w _ _ hG
      refine ⟨OrB (OneB b) G, rfl, ⟨b, .slice (some ⟨sb, o, none⟩) l.length c, G, rfl, hb.upd hup hnb, ?_, hnb, rfl⟩, hup.mono (fun x _ hx => .inr hx), fun x hx => .inl hx⟩
      rw [hset]
      exact Row.set (E := tmE) (x' := (id, u)) hr hx (by show [Value.int .i64 id, .int .i64 u] = [Value.int .i64 x.1, .int .i64 u]; rw [hxe]) (by decide)
    have hp := Lib.hid hnew
    have HP := Lib.hid hplace
    have HT := Lib.hid ht
    have hi' : (r.1 : Int) < (l.length : Int) := by omega
    clear hnew hplace hset hx hxe hR hcell hr ht
    go_enter Tryz.func35, Tryz.ntmps35
    go_wp2_with (go_at_call 49; refine HP.out.mono ?_; rintro e w' ⟨rfl, rfl⟩; rw [HT.out])
    go_end0
    exact hp.out
  · have ht' : r.2 = false := by simpa using ht
    obtain ⟨hset, _⟩ := tmPlace_not id u l (hR ▸ ht')
    rw [← hR] at hset
    have hins := fun (W : World) (hW : Upd NoB w W) (yb : Nat) (hyb : Blk W yb 99 (tmE.enc (id, u))) (hlt : w.heap.size ≤ yb) => ins_tm W G (.slice ao l.length c) l (id, u) (hr.upd hW (fun x _ hx => hx)) yb _ hyb (fun hx => by have := hr.lt _ hx; omega) r.1 hle hn
    rw [← hset] at hins
    have HP := Lib.hid hplace
    have HT := Lib.hid ht'
    have HI := Lib.hid hins
    have HB := Lib.hid hb
    have hbl := hb.lt
    have hnb' := Lib.hid hnb
    have HGl := Lib.hid hr.lt
    clear hplace hset hR hr ht ht' hb hnb hins
    go_enter Tryz.func35, Tryz.ntmps35
    go_wp2_with (first
      | (go_at_call 49; refine HP.out.mono ?_; rintro e w' ⟨rfl, rfl⟩; rw [HT.out])
      | (go_at_call 59; refine (HI.out _ (Upd.alloc _ _ _) _ (Blk.new _ _ _) (Nat.le_refl _)).mono ?_; rintro e w' ⟨v', F', rfl, hr', hu', hF'⟩; obtain ⟨ao', c', rfl, _⟩ := row_form hr'; have hb2 := (HB.out.upd (Upd.alloc NoB _ _) (fun x => x)).upd hu' hnb'.out; have hc2 : w'.cell? ⟨b, 0, none⟩ = some (.slice ao l.length c) := hb2.cell 0; have hf2 := hb2.frozen 0; have HR' := Lib.hid hr'; have HU' := Lib.hid hu'; have HF' := Lib.hid hF'; have HB2 := Lib.hid hb2; clear hr' hu' hF' hb2))
    go_end0
    have hup : Upd G w w' := (Upd.alloc NoB w _ |>.mono (fun x _ hx => hx.elim)).trans HU'.out
    have hFb : ¬ F' b := fun hx => by
      rcases HF'.out b hx with h | h
      · exact hnb'.out h
      · simp at h; omega
    refine ⟨OrB (OneB b) F', rfl, ⟨b, _, F', rfl, HB2.out.set 0 _, HR'.out.upd (Upd.setCell (F := OneB b) w' _ _ rfl) (fun x hx hxb => hFb (by cases hxb; exact hx)), hFb, rfl⟩, (hup.mono (fun x _ hx => .inr hx)).trans (Upd.setCell w' _ _ (.inl rfl)), ?_⟩
    rintro x (rfl | hx)
    · exact .inl (.inl rfl)
    · rcases HF'.out x hx with h | h
      · exact .inl (.inr h)
      · exact .inr (by simp at h; omega)
set_option maxHeartbeats 1000000 in
set_option maxRecDepth 100000 in
theorem tm_drop (w : World) (F : Nat → Prop) (p : Value) (l : List (Int × Int)) (id : Int) (h : TmAt w F p l) (hn : l.length ≤ 1000000000) :
    Calls Tryz.prog 31 #[p, .int .i64 id] w (TmPost F w p (.bool (tmPlace id l).2) (tmDrop id l)) := by
  have h' := h
  obtain ⟨b, sv, G, rfl, hb, hr, hnb, rfl⟩ := h
  obtain ⟨ao, c, rfl, hlc⟩ := row_form hr
  have h0 : w.cell? ⟨b, 0, none⟩ = some (.slice ao l.length c) := hb.cell 0
  have hf0 := hb.frozen 0
  have hplace := place_any w b ao c l id h0 hr.rd hn
  obtain ⟨r, hR⟩ : ∃ r, r = tmPlace id l := ⟨_, rfl⟩
  have hle := tmPlace_le id l
  rw [← hR] at hplace hle ⊢
  by_cases ht : r.2 = true
  · obtain ⟨x, hx, hxe, _, hdr⟩ := tmPlace_there id 0 l (hR ▸ ht)
    rw [← hR] at hx hdr
    have hi : r.1 < l.length := (List.getElem?_eq_some_iff.1 hx).1
    have hdel := del_tm w G (.slice ao l.length c) l hr r.1 hi hn
    rw [← hdr] at hdel
    have HP := Lib.hid hplace
    have HT := Lib.hid ht
    have HD := Lib.hid hdel
    have HB := Lib.hid hb
    have hnb' := Lib.hid hnb
    clear hplace hdr hx hxe hR hr ht hdel hb hnb h'
    go_enter Tryz.func31, Tryz.ntmps31
    go_wp2_with (first
      | (go_at_call 49; refine HP.out.mono ?_; rintro e w' ⟨rfl, rfl⟩; rw [HT.out])
      | (go_at_call 50; refine HD.out.mono ?_; rintro e w' ⟨v', F', rfl, hr', hu', hF'⟩; obtain ⟨ao', c', rfl, _⟩ := row_form hr'; have hb2 := HB.out.upd hu' hnb'.out; have hc2 : w'.cell? ⟨b, 0, none⟩ = some (.slice ao l.length c) := hb2.cell 0; have hf2 := hb2.frozen 0; have HN := Lib.hid (fun R => PsAt.put HB.out hnb'.out hu' hr' hF' R); clear hr' hu' hF' hb2))
    go_ret
    rw [HT.out]
    exact HN.out _
  · have ht' : r.2 = false := by simpa using ht
    obtain ⟨_, hdr⟩ := tmPlace_not id 0 l (hR ▸ ht')
    rw [hdr]
    have HP := Lib.hid hplace
    have HT := Lib.hid ht'
    have HH := Lib.hid h'
    clear hplace hdr hR hr ht ht' hb hnb h'
    go_enter Tryz.func31, Tryz.ntmps31
    go_wp2_with (go_at_call 49; refine HP.out.mono ?_; rintro e w' ⟨rfl, rfl⟩; rw [HT.out])
    go_ret
    rw [HT.out]
    exact ⟨_, rfl, HH.out, Upd.refl _ _, fun x hx => .inl hx⟩

theorem tm_new (w : World) : Calls Tryz.prog 26 #[] w fun e w' => e = .returned (.pointer (some ⟨w.heap.size, 0, none⟩)) ∧ w' = w.alloc (.cells #[.slice none 0 0] 86 (0,0)) := by
  go_enter Tryz.func26, Tryz.ntmps26
  go_wp2
  go_ret
  exact ⟨rfl, rfl⟩
theorem tm_new_at (w : World) : TmAt (w.alloc (.cells #[.slice none 0 0] 86 (0,0))) (OrB (OneB w.heap.size) NoB) (.pointer (some ⟨w.heap.size, 0, none⟩)) [] :=
  ⟨w.heap.size, _, NoB, rfl, Blk.new w _ [_], Row.nil _ _ _, fun h => h, rfl⟩

theorem infoIntT : (Tryz.prog.info? 3).map (fun i => (i.zero, i.size, i.bytes)) = some (some (.int .i64 0), 1, 8) := by kernel_rfl
theorem etyIntT : Ety Tryz.prog intE 3 (.int .i64 0) := by
  obtain ⟨i, hi, hz, hs, hb⟩ := info_parts infoIntT
  exact ⟨⟨i, hi, hz, hs, by omega⟩, rfl⟩

/-- What has been found so far. -/
def DueRel (w : World) (l : List (Int × Int)) (t : Int) (n : Nat) (v r i : Value) (wr : World) : Prop :=
  ∃ (k : Nat) (F1 F2 : Nat → Prop), k ≤ n ∧ i = .int .i64 k ∧ Row intE 3 wr F1 v (dueOf t (l.take k)) ∧ Row tmE 99 wr F2 r (restOf t (l.take k)) ∧ (∀ x, F1 x → w.heap.size ≤ x ∧ ¬ F2 x) ∧ (∀ x, F2 x → w.heap.size ≤ x) ∧ Upd NoB w wr

theorem new_two (w : World) (o : Obj) (T' : TypeId) (cs : List Value) : Blk ((w.alloc o).alloc (.cells cs.toArray T')) (w.heap.size + 1) T' cs := by
  have := Blk.new (w.alloc o) T' cs
  simpa using this
theorem upd_two (w : World) (o o' : Obj) : Upd NoB w ((w.alloc o).alloc o') := (Upd.alloc _ _ _).trans (Upd.alloc _ _ _)

set_option maxHeartbeats 1000000 in
set_option maxRecDepth 100000 in
theorem tm_due (w : World) (F : Nat → Prop) (p : Value) (l : List (Int × Int)) (t : Int) (h : TmAt w F p l) (hn : l.length ≤ 1000000000) :
    Calls Tryz.prog 39 #[p, .int .i64 t] w fun e w' => ∃ v F' G, e = .returned v ∧ TmAt w' F' p (restOf t l) ∧ Upd F w w' ∧ (∀ b, F' b → F b ∨ w.heap.size ≤ b) ∧ Row intE 3 w' G v (dueOf t l) ∧ ∀ x, G x → w.heap.size ≤ x ∧ ¬ F' x := by
  obtain ⟨b, sv, G, rfl, hb, hr, hnb, rfl⟩ := h
  obtain ⟨ao, c, rfl, hlc⟩ := row_form hr
  have h0 : w.cell? ⟨b, 0, none⟩ = some (.slice ao l.length c) := hb.cell 0
  have hf0 := hb.frozen 0
  have hbl := hb.lt
  have hrd := hr.rd
  have hgl := hr.lt
  obtain ⟨n, hN⟩ : ∃ n, n = l.length := ⟨_, rfl⟩
  rw [← hN] at h0 hlc hn hrd hr
  have HB := Lib.hid hb
  have HR := Lib.hid hr
  have HNB := Lib.hid hnb
  have HRD := Lib.hid hrd
  have HN := Lib.hid hN
  have HGL := Lib.hid hgl
  clear hb hr hnb hrd hN hgl
  go_enter Tryz.func39, Tryz.ntmps39
  go_wp2
  go_loopw [5, 6, 14] (DueRel w l t n) (fun _ _ i _ => n - (intOf i).toNat)
  case atStart => exact ⟨0, NoB, NoB, Nat.zero_le _, rfl, Row.nil _ _ _, Row.nil _ _ _, fun _ h => h.elim, fun _ h => h.elim, Upd.refl _ _⟩
  case round =>
    obtain ⟨k, F1, F2, hk, rfl, hr1, hr2, hd1, hd2, hU⟩ := hrel
    by_cases hlt : k < n
    · obtain ⟨y, hy⟩ : ∃ y, l[k]? = some y := ⟨l[k]'(by rw [← HN.out]; exact hlt), by simp⟩
      obtain ⟨sb, o, c', hv, _, _, hcell⟩ := Rd.at (E := tmE) (xs := l) (v := .slice ao n c) (w := w) (by have := HRD.out; exact this) (i := k) (by rw [← HN.out]; exact hlt)
      rw [← HN.out] at hv
      cases hv
      have hsb : sb < w.heap.size := HGL.out sb (by
        have hr := HR.out
        rcases hr with ⟨h, _⟩ | ⟨b', o', c', cur, h, rfl, hh, _⟩
        · cases h
        · cases h; rfl)
      have g0 : wr.cell? ⟨sb, o + k * 2, none⟩ = some (.int .i64 y.1) := (World.cell?_of_block (w := w) (a := ⟨sb, _, none⟩) (hU.keep sb hsb (fun x => x))).trans (hcell k 0 y _ hy rfl)
      have g1 : wr.cell? ⟨sb, o + k * 2 + 1, none⟩ = some (.int .i64 y.2) := (World.cell?_of_block (w := w) (a := ⟨sb, _, none⟩) (hU.keep sb hsb (fun x => x))).trans (hcell k 1 y _ hy rfl)
      obtain ⟨hs1, hs2⟩ := due_take t l k y hy
      have hlen := due_len t l k
      have hl1 := hlen.1
      have hl2 := hlen.2
      obtain ⟨v1, w1, G1, ha1, hb1, hc1, hd1'⟩ := app_new (ty := 42) (x := y.1) Tryz.underlying42 etyIntT hr1 (by omega) (upd_two wr (.cells #[.int .i64 y.1, .int .i64 y.2] 99) _) (new_two _ _ 3 (intE.enc y.1))
      obtain ⟨v2, w2, G2, ha2, hb2, hc2, hd2'⟩ := app_new (ty := 84) (x := y) Tryz.underlying84 etyTm hr2 (by omega) (upd_two wr (.cells #[.int .i64 y.1, .int .i64 y.2] 99) _) (new_two _ _ 99 (tmE.enc y))
      have hsz := hU.size
      by_cases hyt : y.2 ≤ t
      · obtain ⟨e1, e2⟩ := hs1 hyt
        have hfin : DueRel w l t n v1 u6 (.int .i64 ((k : Int) + 1)) w1 := by
          refine ⟨k + 1, G1, F2, hlt, by go_num, by rw [e1]; exact hb1, by rw [e2]; exact hr2.upd hc1 (fun x hx hx' => (hd1 x hx').2 hx), ?_, hd2, hU.then hc1 (fun x hx hx' => by have := (hd1 x hx').1; omega)⟩
          intro x hx
          rcases hd1' x hx with h | h
          · exact hd1 x h
          · exact ⟨by omega, fun h2 => by have := hr2.lt x h2; omega⟩
        have HA := Lib.hid ha1
        have HFIN := Lib.hid hfin
        clear hs1 hs2 hlen ha1 ha2 hb1 hb2 hc1 hc2 hd1' hd2' hr1 hr2 hd1 hd2 hU hy hcell e1 e2 hfin hl1 hl2
        go_wp2_with (at_builtin; refine wpList_append_by ⟨rfl, rfl, rfl, rfl⟩ HA.out ?_)
        exact ⟨HFIN.out, by simp [intOf]; omega⟩
      · obtain ⟨e1, e2⟩ := hs2 (by omega)
        have hfin : DueRel w l t n u5 v2 (.int .i64 ((k : Int) + 1)) w2 := by
          refine ⟨k + 1, F1, G2, hlt, by go_num, by rw [e1]; exact hr1.upd hc2 (fun x hx hx' => (hd1 x hx).2 hx'), by rw [e2]; exact hb2, ?_, ?_, hU.then hc2 (fun x hx hx' => by have := hd2 x hx'; omega)⟩
          · intro x hx
            refine ⟨(hd1 x hx).1, fun h2 => ?_⟩
            rcases hd2' x h2 with h | h
            · exact (hd1 x hx).2 h
            · have := hr1.lt x hx; omega
          · intro x hx
            rcases hd2' x hx with h | h
            · exact hd2 x h
            · omega
        have HA := Lib.hid ha2
        have HFIN := Lib.hid hfin
        clear hs1 hs2 hlen ha1 ha2 hb1 hb2 hc1 hc2 hd1' hd2' hr1 hr2 hd1 hd2 hU hy hcell e1 e2 hfin hl1 hl2
        go_wp2_with (at_builtin; refine wpList_append_by ⟨rfl, rfl, rfl, rfl⟩ HA.out ?_)
        exact ⟨HFIN.out, by simp [intOf]; omega⟩
    · have hke : k = n := by omega
      subst hke
      have hbb := (HB.out.upd hU (fun x => x))
      have gc : wr.cell? ⟨b, 0, none⟩ = some (.slice ao k c) := by rw [HN.out]; exact hbb.cell 0
      have gf := hbb.frozen 0
      rw [List.take_of_length_le (by rw [HN.out]; exact Nat.le_refl _)] at hr1 hr2
      obtain ⟨ao2, c2, rfl, _⟩ := row_form hr2
      have hfin : ∃ F', TmAt (wr.setCell ⟨b, 0, none⟩ (.slice ao2 (restOf t l).length c2)) F' (.pointer (some ⟨b, 0, none⟩)) (restOf t l) ∧ Upd (OrB (OneB b) G) w (wr.setCell ⟨b, 0, none⟩ (.slice ao2 (restOf t l).length c2)) ∧ (∀ x, F' x → OrB (OneB b) G x ∨ w.heap.size ≤ x) ∧ ∃ H, Row intE 3 (wr.setCell ⟨b, 0, none⟩ (.slice ao2 (restOf t l).length c2)) H u5 (dueOf t l) ∧ ∀ x, H x → w.heap.size ≤ x ∧ ¬ F' x := by
        have hF2 : ¬ F2 b := fun h => by have := hd2 b h; omega
        refine ⟨OrB (OneB b) F2, ⟨b, _, F2, rfl, (HB.out.upd hU (fun x => x)).set 0 _, hr2.upd (Upd.setCell (F := OneB b) wr _ _ rfl) (fun x hx hxb => hF2 (by cases hxb; exact hx)), hF2, rfl⟩, (hU.mono (fun x _ hx => hx.elim)).trans (Upd.setCell wr _ _ (.inl rfl)), ?_, F1, hr1.upd (Upd.setCell (F := OneB b) wr _ _ rfl) (fun x hx hxb => by cases hxb; have := (hd1 _ hx).1; omega), fun x hx => ⟨(hd1 x hx).1, ?_⟩⟩
        · rintro x (rfl | hx)
          · exact .inl (.inl rfl)
          · exact .inr (hd2 x hx)
        · rintro (rfl | hx')
          · have := (hd1 _ hx).1; omega
          · exact (hd1 x hx).2 hx'
      have HFIN := Lib.hid hfin
      clear hfin hr1 hr2 hd1 hd2 hU hbb
      go_wp2
      go_ret
      obtain ⟨F', h1, h2, h3, H, h4, h5⟩ := HFIN.out
      exact ⟨_, F', H, rfl, h1, h2, h3, h4, h5⟩
end Go.Proofs.YtlhjibkkkhgonaaGreat
set_option linter.unusedVariables false
set_option linter.unusedSimpArgs false
namespace Go.Proofs.YtlhjibkkkhgonaaGreat
open Go.RowKit G
/-- Timers at b: sleepers by number. -/
def tmS (b : Nat) (l : List (Int × Int)) : SP := ⟨fun w F => TmAt w F (.pointer (some ⟨b, 0, none⟩)) l, fun h => PsAt.lt h, fun {w w' F} h a => by
  obtain ⟨b', sv, G, hp, hb, hr, hn, rfl⟩ := h
  refine ⟨b', sv, G, hp, (a.keep b' (.inl rfl)).trans hb, ?_, hn, rfl⟩
  rcases hr with hr | ⟨b2, o, c, cur, h1, rfl, hb2, r⟩
  · exact .inl hr
  · exact .inr ⟨b2, o, c, cur, h1, rfl, (a.keep b2 (.inr rfl)).trans hb2, r⟩⟩
section
variable (H : List SP) (b : Nat) (l : List (Int × Int))
theorem tmgNew : ∀ w, Sat w H → Calls Tryz.prog 26 #[] w (Ret (ι := Nat) (fun b => .pointer (some ⟨b, 0, none⟩)) fun b => tmS b [] :: H) := fun w hs =>
  (tm_new w).mono fun e w' ⟨he, hw⟩ => by
    subst hw
    exact ⟨w.heap.size, he, hs.fresh (Upd.alloc _ _ _) (G' := OrB (OneB w.heap.size) NoB) (tm_new_at w) (by
      rintro x (rfl | h)
      · exact Nat.le_refl _
      · exact h.elim)⟩
theorem tmCall {zs : List (Int × Int)} {f : FuncId} {vs : Array Value} {R : Value} (h : ∀ w F, TmAt w F (.pointer (some ⟨b, 0, none⟩)) l → Calls Tryz.prog f vs w (TmPost F w (.pointer (some ⟨b, 0, none⟩)) R zs)) :
    ∀ w, Sat w (tmS b l :: H) → Calls Tryz.prog f vs w (Ret (ι := Unit) (fun _ => R) fun _ => tmS b zs :: H) := by
  rintro w ⟨G, hG, _, h3⟩
  refine (h w G hG).mono ?_
  rintro e w' ⟨F', rfl, hr, hu, hf⟩
  have hp : Sat w (pinS (tmS b l) G :: H) := ⟨G, ⟨hG, rfl⟩, fun _ _ => trivial, h3⟩
  exact ⟨(), rfl, hp.change fun G' hG' => by
    obtain ⟨_, rfl⟩ := hG'
    exact ⟨hu, F', hr, hf⟩⟩
theorem tmgSet (id u : Int) (hn : l.length ≤ 1000000000) : ∀ w, Sat w (tmS b l :: H) → Calls Tryz.prog 35 #[.pointer (some ⟨b, 0, none⟩), .int .i64 id, .int .i64 u] w (Ret (ι := Unit) (fun _ => .tuple #[]) fun _ => tmS b (tmSet id u l) :: H) :=
  tmCall H b l fun w F h => tm_set w F _ l id u h hn
theorem tmgDrop (id : Int) (hn : l.length ≤ 1000000000) : ∀ w, Sat w (tmS b l :: H) → Calls Tryz.prog 31 #[.pointer (some ⟨b, 0, none⟩), .int .i64 id] w (Ret (ι := Unit) (fun _ => .bool (tmPlace id l).2) fun _ => tmS b (tmDrop id l) :: H) :=
  tmCall H b l fun w F h => tm_drop w F _ l id h hn
theorem tmgDue (t : Int) (hn : l.length ≤ 1000000000) : ∀ w, Sat w (tmS b l :: H) → Calls Tryz.prog 39 #[.pointer (some ⟨b, 0, none⟩), .int .i64 t] w (Ret (ι := Option Addr × Nat) (fun x => .slice x.1 (dueOf t l).length x.2) fun x => row (kE .i64) 3 (.slice x.1 (dueOf t l).length x.2) (dueOf t l) :: tmS b (restOf t l) :: H) := by
  rintro w ⟨G, hG, _, h3⟩
  refine (tm_due w G _ l t hG hn).mono ?_
  rintro e w' ⟨v, F', K, rfl, g1, g2, g3, g4, g5⟩
  have hp : Sat w (pinS (tmS b l) G :: H) := ⟨G, ⟨hG, rfl⟩, fun _ _ => trivial, h3⟩
  obtain ⟨ao, c, rfl, _⟩ := row_form g4
  refine ⟨(ao, c), rfl, Sat.openTwo (hp.change fun G' hG' => ?_)⟩
  obtain ⟨_, rfl⟩ := hG'
  refine ⟨g2, fun x => K x ∨ F' x, ⟨K, F', g4, g1, fun x hx => (g5 x hx).2, fun x => Iff.rfl⟩, ?_⟩
  rintro x (hx | hx)
  · exact .inr (g5 x hx).1
  · exact g3 x hx
end
end Go.Proofs.YtlhjibkkkhgonaaGreat
set_option linter.unusedVariables false
set_option linter.unusedSimpArgs false
namespace Go.Proofs.YtlhjibkkkhgonaaGreat
open Go.RowKit G
def kerS (k : Nat) (s : KS) : SP := exS fun p : Nat × Nat × Nat => two (pureS (KOk s)) (manyS [blk k 59 [.pointer (some ⟨p.1, 0, none⟩), .pointer (some ⟨p.2.1, 0, none⟩), .pointer (some ⟨p.2.2, 0, none⟩), .int .i64 s.mt, .int .i64 s.mg, .int .i64 s.nx], treeS p.1 s.N, tmS p.2.1 s.tm, obsS p.2.2 s.ob])
theorem Sat.openKer {k : Nat} {s : KS} {H : List SP} {w : World} (h : Sat w (kerS k s :: H)) : ∃ t m o, KOk s ∧ Sat w (blk k 59 [.pointer (some ⟨t, 0, none⟩), .pointer (some ⟨m, 0, none⟩), .pointer (some ⟨o, 0, none⟩), .int .i64 s.mt, .int .i64 s.mg, .int .i64 s.nx] :: treeS t s.N :: tmS m s.tm :: obsS o s.ob :: H) := by
  obtain ⟨⟨t, m, o⟩, h⟩ := Sat.openEx h
  obtain ⟨h1, h⟩ := Sat.openPure (Sat.openTwo h)
  exact ⟨t, m, o, h1, Sat.openMany h⟩
theorem Sat.closeKer {k t m o : Nat} {s : KS} {H : List SP} {w : World} (h1 : KOk s) (h : Sat w (blk k 59 [.pointer (some ⟨t, 0, none⟩), .pointer (some ⟨m, 0, none⟩), .pointer (some ⟨o, 0, none⟩), .int .i64 s.mt, .int .i64 s.mg, .int .i64 s.nx] :: treeS t s.N :: tmS m s.tm :: obsS o s.ob :: H)) : Sat w (kerS k s :: H) :=
  Sat.closeEx (t, m, o) (Sat.closeTwo (Sat.closePure h1 (Sat.closeMany (l := [blk k 59 [.pointer (some ⟨t, 0, none⟩), .pointer (some ⟨m, 0, none⟩), .pointer (some ⟨o, 0, none⟩), .int .i64 s.mt, .int .i64 s.mg, .int .i64 s.nx], treeS t s.N, tmS m s.tm, obsS o s.ob]) h)))
theorem nodup_le : ∀ {l m : List Int}, l.Nodup → (∀ x ∈ l, x ∈ m) → l.length ≤ m.length
  | [], m, _, _ => by simp
  | a :: l, m, h, hs => by
    obtain ⟨h1, h2⟩ := List.nodup_cons.1 h
    have ha : a ∈ m := hs a (by simp)
    have := nodup_le (l := l) (m := m.erase a) h2 fun x hx => (List.mem_erase_of_ne (by rintro rfl; exact h1 hx)).2 (hs x (by simp [hx]))
    rw [List.length_erase_of_mem ha] at this
    have h3 : 0 < m.length := List.length_pos_of_mem ha
    simp only [List.length_cons]; omega
theorem Off.mem {N : List Nr} {i : Int} (h : Off N i) : i ∈ N.map (·.id) := by
  obtain ⟨x, hx, e, _⟩ := h
  exact List.mem_map.2 ⟨x, hx, e⟩
theorem KOk.obb {s : KS} (h : KOk s) : ObB s.ob := fun o ho => ⟨(h.obc o ho).1, (h.obc o ho).2, by
  have h1 := nodup_le (h.obn o ho) (m := s.N.map (·.id)) fun i hi => (h.obo o ho i hi).mem
  have := h.wf.sk.len
  rw [List.length_map] at h1; omega⟩
theorem KOk.tml {s : KS} (h : KOk s) : s.tm.length ≤ 60 := by
  have h1 := nodup_le (l := s.tm.map (·.1)) (m := s.N.map (·.id)) (List.pairwise_map.2 (h.tm.imp fun {a b} hab => by omega)) fun i hi => by
    obtain ⟨p, hp, rfl⟩ := List.mem_map.1 hi
    exact (h.tmo p hp).mem
  have := h.wf.sk.len
  rw [List.length_map, List.length_map] at h1; omega
theorem kthr_eq (N : List Nr) (id : Int) : ((gt N id).isSome && ((gt N id).getD zeroN).thr && ((gt N id).getD zeroN).rdy) = isR N id := rfl
set_option maxRecDepth 100000 in
theorem thread_walk (H : List SP) (k t m o : Nat) (s : KS) (id : Int) : ∀ w, Sat w (blk k 59 [.pointer (some ⟨t, 0, none⟩), .pointer (some ⟨m, 0, none⟩), .pointer (some ⟨o, 0, none⟩), .int .i64 s.mt, .int .i64 s.mg, .int .i64 s.nx] :: treeS t s.N :: tmS m s.tm :: obsS o s.ob :: H) → Calls Tryz.prog 30 #[.pointer (some ⟨k, 0, none⟩), .int .i64 id] w (Ret (ι := Unit) (fun _ => .tuple #[.bool (isT s.N id), .bool (isR s.N id)]) fun _ => blk k 59 [.pointer (some ⟨t, 0, none⟩), .pointer (some ⟨m, 0, none⟩), .pointer (some ⟨o, 0, none⟩), .int .i64 s.mt, .int .i64 s.mg, .int .i64 s.nx] :: treeS t s.N :: tmS m s.tm :: obsS o s.ob :: H) := by
  refine enterG (fn := Tryz.f30) 31 [.pointer (some ⟨k, 0, none⟩), .int .i64 id] Tryz.func30 (by kernel_rfl) (by kernel_rfl) (by kernel_rfl) ?_
  refine seqR (by kernel_rfl) ?_
  refine regionR 2 (by kernel_rfl) (by kernel_rfl) ?_
  refine (run0 (z := 0) 2 [0, 1, 4, 5] [(0, .pointer (some ⟨k, 0, none⟩)), (1, .int .i64 id), (4, .bool false), (5, .bool false)] (fun _ => by kernel_rfl) (endR ?_) : RT _ _ _ _ _ _ 2 _)
  refine seqR (by kernel_rfl) ?_
  refine regionR 12 (by kernel_rfl) (by kernel_rfl) ?_
  refine (runR (H := (blk k 59 [.pointer (some ⟨t, 0, none⟩), .pointer (some ⟨m, 0, none⟩), .pointer (some ⟨o, 0, none⟩), .int .i64 s.mt, .int .i64 s.mg, .int .i64 s.nx] :: treeS t s.N :: tmS m s.tm :: obsS o s.ob :: H)) (z := 7) 5 [4, 5, 12, 13] [(4, .bool false), (5, .bool false), (12, .pointer (some ⟨t, 0, none⟩)), (13, .int .i64 id)] [(⟨k, 0, none⟩, .pointer (some ⟨t, 0, none⟩))] (hasC (blkAt (T := 59) (cs := [.pointer (some ⟨t, 0, none⟩), .pointer (some ⟨m, 0, none⟩), .pointer (some ⟨o, 0, none⟩), .int .i64 s.mt, .int .i64 s.mg, .int .i64 s.nx]) 0 rfl rfl) has0) (fun _ => by kernel_rfl) ?_ : RT _ _ _ _ _ _ 12 _)
  refine (stepR (z := 6) (callS 42 [.pointer (some ⟨t, 0, none⟩), .int .i64 id] (some 14) (fun _ => .tuple #[.agg #[.int .i64 ((gt s.N id).getD zeroN).id, .int .i64 ((gt s.N id).getD zeroN).par, .int .i64 ((gt s.N id).getD zeroN).wt, .int .i64 ((gt s.N id).getD zeroN).pass, .bool ((gt s.N id).getD zeroN).thr, .bool ((gt s.N id).getD zeroN).rdy], .bool (gt s.N id).isSome]) (fun _ => (blk k 59 [.pointer (some ⟨t, 0, none⟩), .pointer (some ⟨m, 0, none⟩), .pointer (some ⟨o, 0, none⟩), .int .i64 s.mt, .int .i64 s.mg, .int .i64 s.nx] :: treeS t s.N :: tmS m s.tm :: obsS o s.ob :: H)) (fun _ => by kernel_rfl) (chg_at (H := (blk k 59 [.pointer (some ⟨t, 0, none⟩), .pointer (some ⟨m, 0, none⟩), .pointer (some ⟨o, 0, none⟩), .int .i64 s.mt, .int .i64 s.mg, .int .i64 s.nx] :: treeS t s.N :: tmS m s.tm :: obsS o s.ob :: H)) 1 rfl (trNode _ t s.N id))) (fun _ => ?_) : RT _ _ _ _ _ _ 7 _)
  cases hg : gt s.N id with
  | none =>
    refine (run0 (z := 3) 3 [4, 5, 15, 16] [(4, .bool false), (5, .bool false), (15, .agg #[.int .i64 zeroN.id, .int .i64 zeroN.par, .int .i64 zeroN.wt, .int .i64 zeroN.pass, .bool zeroN.thr, .bool zeroN.rdy]), (16, .bool false)] (fun _ => by kernel_rfl) ?_ : RT _ _ _ _ _ _ 6 _)
    refine (stepR (z := 2) (newS 71 [.int .i64 0, .int .i64 0, .int .i64 0, .int .i64 0, .bool false, .bool false] (some 6) (fun b => .pointer (some ⟨b, 0, none⟩)) (fun _ _ => by kernel_rfl)) (fun b1 => ?_) : RT _ _ _ _ _ _ 3 _)
    refine (stepR (z := 1) (storeS [(0, .int .i64 zeroN.id), (1, .int .i64 zeroN.par), (2, .int .i64 zeroN.wt), (3, .int .i64 zeroN.pass), (4, .bool zeroN.thr), (5, .bool zeroN.rdy)] [.int .i64 zeroN.id, .int .i64 zeroN.par, .int .i64 zeroN.wt, .int .i64 zeroN.pass, .bool zeroN.thr, .bool zeroN.rdy] (fun _ => by kernel_rfl) (by kernel_rfl) (by kernel_rfl)) (fun _ => ?_) : RT _ _ _ _ _ _ 2 _)
    refine (run0 (z := 0) 1 [6, 4, 5, 7] [(6, .pointer (some ⟨b1, 0, none⟩)), (4, .bool false), (5, .bool false), (7, .bool false)] (fun _ => by kernel_rfl) (endR ?_) : RT _ _ _ _ _ _ 1 _)
    refine seqR (by kernel_rfl) ?_
    refine drawR (fun w => Sat w (blk b1 71 [.int .i64 zeroN.id, .int .i64 zeroN.par, .int .i64 zeroN.wt, .int .i64 zeroN.pass, .bool zeroN.thr, .bool zeroN.rdy] :: blk k 59 [.pointer (some ⟨t, 0, none⟩), .pointer (some ⟨m, 0, none⟩), .pointer (some ⟨o, 0, none⟩), .int .i64 s.mt, .int .i64 s.mg, .int .i64 s.nx] :: treeS t s.N :: tmS m s.tm :: obsS o s.ob :: H)) [] 16 (by kernel_rfl) (by kernel_rfl) (by kernel_rfl) (fun _ h => by first | exact h | exact h.tail | exact h.tail.tail | exact h.tail.tail.tail | exact h.tail.tail.tail.tail) ?_
    refine takesR [0, 1, 2, 3, 4, 5, 6, 7, 8, 9, 10, 11, 12, 13, 14, 15] [4, 5] 0 [true, true, true, true, true, true, true, true, true, true, true, true, true, true, true, true] [(4, .bool false), (5, .bool false)] [] rfl (fun _ d _ _ _ h => by cases d <;> exact h) (fun _ h => by first | exact h | exact h.tail | exact h.tail.tail | exact h.tail.tail.tail | exact h.tail.tail.tail.tail) has0 (fun _ => by kernel_rfl) ?_
    refine drawnR (by kernel_rfl) ?_
    refine retR (by kernel_rfl) ?_
    refine done0 (.tuple #[.bool false, .bool false]) (fun _ => by kernel_rfl) (fun w hs => ?_) .ret (.inr rfl)
    exact ⟨(), by simp only [isT, isR, hg]; rfl, hs.tail⟩
  | some x =>
    simp only [Option.getD_some, Option.isSome_some]
    cases ht : (x.thr) with
    | true =>
      refine (run0 (z := 3) 3 [4, 5, 15, 16] [(4, .bool false), (5, .bool false), (15, .agg #[.int .i64 x.id, .int .i64 x.par, .int .i64 x.wt, .int .i64 x.pass, .bool true, .bool x.rdy]), (16, .bool true)] (fun _ => by kernel_rfl) ?_ : RT _ _ _ _ _ _ 6 _)
      refine (stepR (z := 2) (newS 71 [.int .i64 0, .int .i64 0, .int .i64 0, .int .i64 0, .bool false, .bool false] (some 6) (fun b => .pointer (some ⟨b, 0, none⟩)) (fun _ _ => by kernel_rfl)) (fun b1 => ?_) : RT _ _ _ _ _ _ 3 _)
      refine (stepR (z := 1) (storeS [(0, .int .i64 x.id), (1, .int .i64 x.par), (2, .int .i64 x.wt), (3, .int .i64 x.pass), (4, .bool true), (5, .bool x.rdy)] [.int .i64 x.id, .int .i64 x.par, .int .i64 x.wt, .int .i64 x.pass, .bool true, .bool x.rdy] (fun _ => by kernel_rfl) (by kernel_rfl) (by kernel_rfl)) (fun _ => ?_) : RT _ _ _ _ _ _ 2 _)
      refine (run0 (z := 0) 1 [6, 4, 5, 7] [(6, .pointer (some ⟨b1, 0, none⟩)), (4, .bool false), (5, .bool false), (7, .bool true)] (fun _ => by kernel_rfl) (endR ?_) : RT _ _ _ _ _ _ 1 _)
      refine seqR (by kernel_rfl) ?_
      refine drawR (fun w => Sat w (blk b1 71 [.int .i64 x.id, .int .i64 x.par, .int .i64 x.wt, .int .i64 x.pass, .bool true, .bool x.rdy] :: blk k 59 [.pointer (some ⟨t, 0, none⟩), .pointer (some ⟨m, 0, none⟩), .pointer (some ⟨o, 0, none⟩), .int .i64 s.mt, .int .i64 s.mg, .int .i64 s.nx] :: treeS t s.N :: tmS m s.tm :: obsS o s.ob :: H)) [] 16 (by kernel_rfl) (by kernel_rfl) (by kernel_rfl) (fun _ h => by first | exact h | exact h.tail | exact h.tail.tail | exact h.tail.tail.tail | exact h.tail.tail.tail.tail) ?_
      refine takesR [0, 1, 2, 3, 4, 5, 6, 7, 8, 9, 10, 11, 12, 13, 14, 15] [4, 5] 0 [true, true, true, true, true, true, true, true, true, true, true, true, true, true, true, true] [(4, .bool true), (5, .bool x.rdy)] [(⟨b1, 4, none⟩, .bool true), (⟨b1, 4, none⟩, .bool true), (⟨b1, 5, none⟩, .bool x.rdy)] rfl (fun _ d _ _ _ h => by cases d <;> exact h) (fun _ h => by first | exact h | exact h.tail | exact h.tail.tail | exact h.tail.tail.tail | exact h.tail.tail.tail.tail) (hasC (blkAt (T := 71) (cs := [.int .i64 x.id, .int .i64 x.par, .int .i64 x.wt, .int .i64 x.pass, .bool true, .bool x.rdy]) 0 rfl rfl) (hasC (blkAt (T := 71) (cs := [.int .i64 x.id, .int .i64 x.par, .int .i64 x.wt, .int .i64 x.pass, .bool true, .bool x.rdy]) 0 rfl rfl) (hasC (blkAt (T := 71) (cs := [.int .i64 x.id, .int .i64 x.par, .int .i64 x.wt, .int .i64 x.pass, .bool true, .bool x.rdy]) 0 rfl rfl) has0))) (fun _ => by kernel_rfl) ?_
      refine drawnR (by kernel_rfl) ?_
      refine retR (by kernel_rfl) ?_
      refine done0 (.tuple #[.bool true, .bool x.rdy]) (fun _ => by kernel_rfl) (fun w hs => ?_) .ret (.inr rfl)
      exact ⟨(), by simp only [isT, isR, hg]; simp [ht], hs.tail⟩
    | false =>
      refine (run0 (z := 3) 3 [4, 5, 15, 16] [(4, .bool false), (5, .bool false), (15, .agg #[.int .i64 x.id, .int .i64 x.par, .int .i64 x.wt, .int .i64 x.pass, .bool false, .bool x.rdy]), (16, .bool true)] (fun _ => by kernel_rfl) ?_ : RT _ _ _ _ _ _ 6 _)
      refine (stepR (z := 2) (newS 71 [.int .i64 0, .int .i64 0, .int .i64 0, .int .i64 0, .bool false, .bool false] (some 6) (fun b => .pointer (some ⟨b, 0, none⟩)) (fun _ _ => by kernel_rfl)) (fun b1 => ?_) : RT _ _ _ _ _ _ 3 _)
      refine (stepR (z := 1) (storeS [(0, .int .i64 x.id), (1, .int .i64 x.par), (2, .int .i64 x.wt), (3, .int .i64 x.pass), (4, .bool false), (5, .bool x.rdy)] [.int .i64 x.id, .int .i64 x.par, .int .i64 x.wt, .int .i64 x.pass, .bool false, .bool x.rdy] (fun _ => by kernel_rfl) (by kernel_rfl) (by kernel_rfl)) (fun _ => ?_) : RT _ _ _ _ _ _ 2 _)
      refine (run0 (z := 0) 1 [6, 4, 5, 7] [(6, .pointer (some ⟨b1, 0, none⟩)), (4, .bool false), (5, .bool false), (7, .bool true)] (fun _ => by kernel_rfl) (endR ?_) : RT _ _ _ _ _ _ 1 _)
      refine seqR (by kernel_rfl) ?_
      refine drawR (fun w => Sat w (blk b1 71 [.int .i64 x.id, .int .i64 x.par, .int .i64 x.wt, .int .i64 x.pass, .bool false, .bool x.rdy] :: blk k 59 [.pointer (some ⟨t, 0, none⟩), .pointer (some ⟨m, 0, none⟩), .pointer (some ⟨o, 0, none⟩), .int .i64 s.mt, .int .i64 s.mg, .int .i64 s.nx] :: treeS t s.N :: tmS m s.tm :: obsS o s.ob :: H)) [] 16 (by kernel_rfl) (by kernel_rfl) (by kernel_rfl) (fun _ h => by first | exact h | exact h.tail | exact h.tail.tail | exact h.tail.tail.tail | exact h.tail.tail.tail.tail) ?_
      refine takesR [0, 1, 2, 3, 4, 5, 6, 7, 8, 9, 10, 11, 12, 13, 14, 15] [4, 5] 0 [true, true, true, true, true, true, true, true, true, true, true, true, true, true, true, true] [(4, .bool false), (5, .bool false)] [(⟨b1, 4, none⟩, .bool false), (⟨b1, 4, none⟩, .bool false)] rfl (fun _ d _ _ _ h => by cases d <;> exact h) (fun _ h => by first | exact h | exact h.tail | exact h.tail.tail | exact h.tail.tail.tail | exact h.tail.tail.tail.tail) (hasC (blkAt (T := 71) (cs := [.int .i64 x.id, .int .i64 x.par, .int .i64 x.wt, .int .i64 x.pass, .bool false, .bool x.rdy]) 0 rfl rfl) (hasC (blkAt (T := 71) (cs := [.int .i64 x.id, .int .i64 x.par, .int .i64 x.wt, .int .i64 x.pass, .bool false, .bool x.rdy]) 0 rfl rfl) has0)) (fun _ => by kernel_rfl) ?_
      refine drawnR (by kernel_rfl) ?_
      refine retR (by kernel_rfl) ?_
      refine done0 (.tuple #[.bool false, .bool false]) (fun _ => by kernel_rfl) (fun w hs => ?_) .ret (.inr rfl)
      exact ⟨(), by simp only [isT, isR, hg]; simp [ht], hs.tail⟩
set_option maxRecDepth 100000 in
theorem krunnable_walk (H : List SP) (k t m o : Nat) (s : KS) : ∀ w, Sat w (blk k 59 [.pointer (some ⟨t, 0, none⟩), .pointer (some ⟨m, 0, none⟩), .pointer (some ⟨o, 0, none⟩), .int .i64 s.mt, .int .i64 s.mg, .int .i64 s.nx] :: treeS t s.N :: tmS m s.tm :: obsS o s.ob :: H) → Calls Tryz.prog 23 #[.pointer (some ⟨k, 0, none⟩)] w (Ret (ι := Unit) (fun _ => .bool (krunnable s)) fun _ => blk k 59 [.pointer (some ⟨t, 0, none⟩), .pointer (some ⟨m, 0, none⟩), .pointer (some ⟨o, 0, none⟩), .int .i64 s.mt, .int .i64 s.mg, .int .i64 s.nx] :: treeS t s.N :: tmS m s.tm :: obsS o s.ob :: H) := by
  refine enterG (fn := Tryz.f23) 15 [.pointer (some ⟨k, 0, none⟩)] Tryz.func23 (by kernel_rfl) (by kernel_rfl) (by kernel_rfl) ?_
  refine seqR (by kernel_rfl) ?_
  refine regionR 1 (by kernel_rfl) (by kernel_rfl) ?_
  refine (run0 (z := 0) 1 [0, 2] [(0, .pointer (some ⟨k, 0, none⟩)), (2, .bool false)] (fun _ => by kernel_rfl) (endR ?_) : RT _ _ _ _ _ _ 1 _)
  refine seqR (by kernel_rfl) ?_
  refine regionR 11 (by kernel_rfl) (by kernel_rfl) ?_
  refine (runR (H := (blk k 59 [.pointer (some ⟨t, 0, none⟩), .pointer (some ⟨m, 0, none⟩), .pointer (some ⟨o, 0, none⟩), .int .i64 s.mt, .int .i64 s.mg, .int .i64 s.nx] :: treeS t s.N :: tmS m s.tm :: obsS o s.ob :: H)) (z := 7) 4 [2, 9] [(2, .bool false), (9, .pointer (some ⟨t, 0, none⟩))] [(⟨k, 0, none⟩, .pointer (some ⟨t, 0, none⟩))] (hasC (blkAt (T := 59) (cs := [.pointer (some ⟨t, 0, none⟩), .pointer (some ⟨m, 0, none⟩), .pointer (some ⟨o, 0, none⟩), .int .i64 s.mt, .int .i64 s.mg, .int .i64 s.nx]) 0 rfl rfl) has0) (fun _ => by kernel_rfl) ?_ : RT _ _ _ _ _ _ 11 _)
  refine (stepR (z := 6) (callS 42 [.pointer (some ⟨t, 0, none⟩), .int .i64 0] (some 10) (fun _ => .tuple #[.agg #[.int .i64 ((gt s.N 0).getD zeroN).id, .int .i64 ((gt s.N 0).getD zeroN).par, .int .i64 ((gt s.N 0).getD zeroN).wt, .int .i64 ((gt s.N 0).getD zeroN).pass, .bool ((gt s.N 0).getD zeroN).thr, .bool ((gt s.N 0).getD zeroN).rdy], .bool (gt s.N 0).isSome]) (fun _ => (blk k 59 [.pointer (some ⟨t, 0, none⟩), .pointer (some ⟨m, 0, none⟩), .pointer (some ⟨o, 0, none⟩), .int .i64 s.mt, .int .i64 s.mg, .int .i64 s.nx] :: treeS t s.N :: tmS m s.tm :: obsS o s.ob :: H)) (fun _ => by kernel_rfl) (chg_at (H := (blk k 59 [.pointer (some ⟨t, 0, none⟩), .pointer (some ⟨m, 0, none⟩), .pointer (some ⟨o, 0, none⟩), .int .i64 s.mt, .int .i64 s.mg, .int .i64 s.nx] :: treeS t s.N :: tmS m s.tm :: obsS o s.ob :: H)) 1 rfl (trNode _ t s.N 0))) (fun _ => ?_) : RT _ _ _ _ _ _ 7 _)
  refine (run0 (z := 3) 3 [2, 11, 12] [(2, .bool false), (11, .agg #[.int .i64 (((gt s.N 0).getD zeroN).id), .int .i64 (((gt s.N 0).getD zeroN).par), .int .i64 (((gt s.N 0).getD zeroN).wt), .int .i64 (((gt s.N 0).getD zeroN).pass), .bool (((gt s.N 0).getD zeroN).thr), .bool (((gt s.N 0).getD zeroN).rdy)]), (12, .bool ((gt s.N 0).isSome))] (fun _ => by kernel_rfl) ?_ : RT _ _ _ _ _ _ 6 _)
  refine (stepR (z := 2) (newS 71 [.int .i64 0, .int .i64 0, .int .i64 0, .int .i64 0, .bool false, .bool false] (some 3) (fun b => .pointer (some ⟨b, 0, none⟩)) (fun _ _ => by kernel_rfl)) (fun b1 => ?_) : RT _ _ _ _ _ _ 3 _)
  refine (stepR (z := 1) (storeS [(0, .int .i64 (((gt s.N 0).getD zeroN).id)), (1, .int .i64 (((gt s.N 0).getD zeroN).par)), (2, .int .i64 (((gt s.N 0).getD zeroN).wt)), (3, .int .i64 (((gt s.N 0).getD zeroN).pass)), (4, .bool (((gt s.N 0).getD zeroN).thr)), (5, .bool (((gt s.N 0).getD zeroN).rdy))] [.int .i64 (((gt s.N 0).getD zeroN).id), .int .i64 (((gt s.N 0).getD zeroN).par), .int .i64 (((gt s.N 0).getD zeroN).wt), .int .i64 (((gt s.N 0).getD zeroN).pass), .bool (((gt s.N 0).getD zeroN).thr), .bool (((gt s.N 0).getD zeroN).rdy)] (fun _ => by kernel_rfl) (by kernel_rfl) (by kernel_rfl)) (fun _ => ?_) : RT _ _ _ _ _ _ 2 _)
  refine (run0 (z := 0) 1 [3, 2] [(3, .pointer (some ⟨b1, 0, none⟩)), (2, .bool false)] (fun _ => by kernel_rfl) (endR ?_) : RT _ _ _ _ _ _ 1 _)
  refine seqR (by kernel_rfl) ?_
  refine regionR 3 (by kernel_rfl) (by kernel_rfl) ?_
  refine (runR (H := (blk b1 71 [.int .i64 (((gt s.N 0).getD zeroN).id), .int .i64 (((gt s.N 0).getD zeroN).par), .int .i64 (((gt s.N 0).getD zeroN).wt), .int .i64 (((gt s.N 0).getD zeroN).pass), .bool (((gt s.N 0).getD zeroN).thr), .bool (((gt s.N 0).getD zeroN).rdy)] :: blk k 59 [.pointer (some ⟨t, 0, none⟩), .pointer (some ⟨m, 0, none⟩), .pointer (some ⟨o, 0, none⟩), .int .i64 s.mt, .int .i64 s.mg, .int .i64 s.nx] :: treeS t s.N :: tmS m s.tm :: obsS o s.ob :: H)) (z := 0) 3 [2] [(2, .bool (((gt s.N 0).getD zeroN).rdy))] [(⟨b1, 5, none⟩, .bool (((gt s.N 0).getD zeroN).rdy))] (hasC (blkAt (T := 71) (cs := [.int .i64 (((gt s.N 0).getD zeroN).id), .int .i64 (((gt s.N 0).getD zeroN).par), .int .i64 (((gt s.N 0).getD zeroN).wt), .int .i64 (((gt s.N 0).getD zeroN).pass), .bool (((gt s.N 0).getD zeroN).thr), .bool (((gt s.N 0).getD zeroN).rdy)]) 0 rfl rfl) has0) (fun _ => by kernel_rfl) (endR ?_) : RT _ _ _ _ _ _ 3 _)
  refine retR (by kernel_rfl) ?_
  refine done0 (.bool (((gt s.N 0).getD zeroN).rdy)) (fun _ => by kernel_rfl) (fun w hs => ?_) .ret (.inr rfl)
  exact ⟨(), rfl, hs.tail⟩
set_option maxRecDepth 100000 in
theorem krun_walk (H : List SP) (k t m o : Nat) (s : KS) : ∀ w, Sat w (blk k 59 [.pointer (some ⟨t, 0, none⟩), .pointer (some ⟨m, 0, none⟩), .pointer (some ⟨o, 0, none⟩), .int .i64 s.mt, .int .i64 s.mg, .int .i64 s.nx] :: treeS t s.N :: tmS m s.tm :: obsS o s.ob :: H) → Calls Tryz.prog 15 #[.pointer (some ⟨k, 0, none⟩)] w (Ret (ι := Unit) (fun _ => .tuple #[.int .i64 (krun s).1.1, .bool (krun s).1.2]) fun _ => blk k 59 [.pointer (some ⟨t, 0, none⟩), .pointer (some ⟨m, 0, none⟩), .pointer (some ⟨o, 0, none⟩), .int .i64 (krun s).2.mt, .int .i64 (krun s).2.mg, .int .i64 (krun s).2.nx] :: treeS t (krun s).2.N :: tmS m (krun s).2.tm :: obsS o (krun s).2.ob :: H) := by
  refine enterG (fn := Tryz.f15) 11 [.pointer (some ⟨k, 0, none⟩)] Tryz.func15 (by kernel_rfl) (by kernel_rfl) (by kernel_rfl) ?_
  refine seqR (by kernel_rfl) ?_
  refine regionR 2 (by kernel_rfl) (by kernel_rfl) ?_
  refine (run0 (z := 0) 2 [0, 2, 3] [(0, .pointer (some ⟨k, 0, none⟩)), (2, .int .i64 0), (3, .bool false)] (fun _ => by kernel_rfl) (endR ?_) : RT _ _ _ _ _ _ 2 _)
  refine seqR (by kernel_rfl) ?_
  refine regionR 9 (by kernel_rfl) (by kernel_rfl) ?_
  refine (runR (H := (blk k 59 [.pointer (some ⟨t, 0, none⟩), .pointer (some ⟨m, 0, none⟩), .pointer (some ⟨o, 0, none⟩), .int .i64 s.mt, .int .i64 s.mg, .int .i64 s.nx] :: treeS t s.N :: tmS m s.tm :: obsS o s.ob :: H)) (z := 5) 4 [2, 3, 7] [(2, .int .i64 0), (3, .bool false), (7, .pointer (some ⟨t, 0, none⟩))] [(⟨k, 0, none⟩, .pointer (some ⟨t, 0, none⟩))] (hasC (blkAt (T := 59) (cs := [.pointer (some ⟨t, 0, none⟩), .pointer (some ⟨m, 0, none⟩), .pointer (some ⟨o, 0, none⟩), .int .i64 s.mt, .int .i64 s.mg, .int .i64 s.nx]) 0 rfl rfl) has0) (fun _ => by kernel_rfl) ?_ : RT _ _ _ _ _ _ 9 _)
  refine (stepR (z := 4) (callS 34 [.pointer (some ⟨t, 0, none⟩)] (some 8) (fun _ => .tuple #[.int .i64 (runN s.N).1.1, .bool (runN s.N).1.2]) (fun _ => (blk k 59 [.pointer (some ⟨t, 0, none⟩), .pointer (some ⟨m, 0, none⟩), .pointer (some ⟨o, 0, none⟩), .int .i64 s.mt, .int .i64 s.mg, .int .i64 s.nx] :: treeS t (runN s.N).2 :: tmS m s.tm :: obsS o s.ob :: H)) (fun _ => by kernel_rfl) (chg_at (H := (blk k 59 [.pointer (some ⟨t, 0, none⟩), .pointer (some ⟨m, 0, none⟩), .pointer (some ⟨o, 0, none⟩), .int .i64 s.mt, .int .i64 s.mg, .int .i64 s.nx] :: treeS t s.N :: tmS m s.tm :: obsS o s.ob :: H)) 1 rfl (trRun _ t s.N))) (fun _ => ?_) : RT _ _ _ _ _ _ 5 _)
  refine (run0 (z := 0) 4 [2, 3] [(2, .int .i64 ((runN s.N).1.1)), (3, .bool ((runN s.N).1.2))] (fun _ => by kernel_rfl) (endR ?_) : RT _ _ _ _ _ _ 4 _)
  refine retR (by kernel_rfl) ?_
  refine done0 (.tuple #[.int .i64 ((runN s.N).1.1), .bool ((runN s.N).1.2)]) (fun _ => by kernel_rfl) (fun w hs => ?_) .ret (.inr rfl)
  exact ⟨(), rfl, hs⟩
set_option maxRecDepth 100000 in
theorem ksleep_walk (H : List SP) (k t m o : Nat) (s : KS) (hk : KOk s) (id u : Int) : ∀ w, Sat w (blk k 59 [.pointer (some ⟨t, 0, none⟩), .pointer (some ⟨m, 0, none⟩), .pointer (some ⟨o, 0, none⟩), .int .i64 s.mt, .int .i64 s.mg, .int .i64 s.nx] :: treeS t s.N :: tmS m s.tm :: obsS o s.ob :: H) → Calls Tryz.prog 16 #[.pointer (some ⟨k, 0, none⟩), .int .i64 id, .int .i64 u] w (Ret (ι := Unit) (fun _ => pqErr (ksleep s id u).1) fun _ => blk k 59 [.pointer (some ⟨t, 0, none⟩), .pointer (some ⟨m, 0, none⟩), .pointer (some ⟨o, 0, none⟩), .int .i64 (ksleep s id u).2.mt, .int .i64 (ksleep s id u).2.mg, .int .i64 (ksleep s id u).2.nx] :: treeS t (ksleep s id u).2.N :: tmS m (ksleep s id u).2.tm :: obsS o (ksleep s id u).2.ob :: H) := by
  have htl := hk.tml
  refine enterG (fn := Tryz.f16) 31 [.pointer (some ⟨k, 0, none⟩), .int .i64 id, .int .i64 u] Tryz.func16 (by kernel_rfl) (by kernel_rfl) (by kernel_rfl) ?_
  refine seqR (by kernel_rfl) ?_
  refine regionR 1 (by kernel_rfl) (by kernel_rfl) ?_
  refine (run0 (z := 0) 1 [0, 1, 2, 6] [(0, .pointer (some ⟨k, 0, none⟩)), (1, .int .i64 id), (2, .int .i64 u), (6, .nilIface)] (fun _ => by kernel_rfl) (endR ?_) : RT _ _ _ _ _ _ 1 _)
  refine seqR (by kernel_rfl) ?_
  refine seqR (by kernel_rfl) ?_
  refine regionR 8 (by kernel_rfl) (by kernel_rfl) ?_
  refine (run0 (z := 6) 2 [0, 1, 2, 6, 10, 11] [(0, .pointer (some ⟨k, 0, none⟩)), (1, .int .i64 id), (2, .int .i64 u), (6, .nilIface), (10, .pointer (some ⟨k, 0, none⟩)), (11, .int .i64 id)] (fun _ => by kernel_rfl) ?_ : RT _ _ _ _ _ _ 8 _)
  refine (stepR (z := 5) (callS 30 [.pointer (some ⟨k, 0, none⟩), .int .i64 id] (some 12) (fun _ => .tuple #[.bool (isT s.N id), .bool (isR s.N id)]) (fun _ => (blk k 59 [.pointer (some ⟨t, 0, none⟩), .pointer (some ⟨m, 0, none⟩), .pointer (some ⟨o, 0, none⟩), .int .i64 s.mt, .int .i64 s.mg, .int .i64 s.nx] :: treeS t s.N :: tmS m s.tm :: obsS o s.ob :: H)) (fun _ => by kernel_rfl) (thread_walk _ k t m o s id)) (fun _ => ?_) : RT _ _ _ _ _ _ 6 _)
  cases hr : (isR s.N id) with
  | true =>
    have e : ksleep s id u = ((readyN s.N id false).1, { s with N := (readyN s.N id false).2, tm := tmSet id u s.tm }) := by rw [ksleep, if_neg (by rw [hr]; simp)]
    refine (run0 (z := 0) 5 [0, 1, 2, 6, 8] [(0, .pointer (some ⟨k, 0, none⟩)), (1, .int .i64 id), (2, .int .i64 u), (6, .nilIface), (8, .bool true)] (fun _ => by kernel_rfl) (endR ?_) : RT _ _ _ _ _ _ 5 _)
    refine seqR (by kernel_rfl) ?_
    refine regionR 2 (by kernel_rfl) (by kernel_rfl) ?_
    refine (run0 (z := 0) 2 [0, 1, 2, 6, 16] [(0, .pointer (some ⟨k, 0, none⟩)), (1, .int .i64 id), (2, .int .i64 u), (6, .nilIface), (16, .bool false)] (fun _ => by kernel_rfl) (endR ?_) : RT _ _ _ _ _ _ 2 _)
    refine condR (b := false) (by kernel_rfl) (fun _ => by kernel_rfl) (fun h => by cases h) (fun _ => ?_)
    refine skipR (by kernel_rfl) ?_
    refine seqR (by kernel_rfl) ?_
    refine regionR 7 (by kernel_rfl) (by kernel_rfl) ?_
    refine (runR (H := (blk k 59 [.pointer (some ⟨t, 0, none⟩), .pointer (some ⟨m, 0, none⟩), .pointer (some ⟨o, 0, none⟩), .int .i64 s.mt, .int .i64 s.mg, .int .i64 s.nx] :: treeS t s.N :: tmS m s.tm :: obsS o s.ob :: H)) (z := 1) 6 [0, 1, 6, 21, 22, 23] [(0, .pointer (some ⟨k, 0, none⟩)), (1, .int .i64 id), (6, .nilIface), (21, .pointer (some ⟨m, 0, none⟩)), (22, .int .i64 id), (23, .int .i64 u)] [(⟨k, 1, none⟩, .pointer (some ⟨m, 0, none⟩))] (hasC (blkAt (T := 59) (cs := [.pointer (some ⟨t, 0, none⟩), .pointer (some ⟨m, 0, none⟩), .pointer (some ⟨o, 0, none⟩), .int .i64 s.mt, .int .i64 s.mg, .int .i64 s.nx]) 0 rfl rfl) has0) (fun _ => by kernel_rfl) ?_ : RT _ _ _ _ _ _ 7 _)
    refine (stepR (z := 0) (callS 35 [.pointer (some ⟨m, 0, none⟩), .int .i64 id, .int .i64 u] (some 24) (fun _ => .tuple #[]) (fun _ => (blk k 59 [.pointer (some ⟨t, 0, none⟩), .pointer (some ⟨m, 0, none⟩), .pointer (some ⟨o, 0, none⟩), .int .i64 s.mt, .int .i64 s.mg, .int .i64 s.nx] :: treeS t s.N :: tmS m (tmSet id u s.tm) :: obsS o s.ob :: H)) (fun _ => by kernel_rfl) (chg_at (H := (blk k 59 [.pointer (some ⟨t, 0, none⟩), .pointer (some ⟨m, 0, none⟩), .pointer (some ⟨o, 0, none⟩), .int .i64 s.mt, .int .i64 s.mg, .int .i64 s.nx] :: treeS t s.N :: tmS m s.tm :: obsS o s.ob :: H)) 2 rfl (tmgSet _ m s.tm id u (by omega)))) (fun _ => ?_) : RT _ _ _ _ _ _ 1 _)
    refine endR ?_
    refine seqR (by kernel_rfl) ?_
    refine regionR 7 (by kernel_rfl) (by kernel_rfl) ?_
    refine (runR (H := (blk k 59 [.pointer (some ⟨t, 0, none⟩), .pointer (some ⟨m, 0, none⟩), .pointer (some ⟨o, 0, none⟩), .int .i64 s.mt, .int .i64 s.mg, .int .i64 s.nx] :: treeS t s.N :: tmS m (tmSet id u s.tm) :: obsS o s.ob :: H)) (z := 2) 5 [6, 28, 29] [(6, .nilIface), (28, .pointer (some ⟨t, 0, none⟩)), (29, .int .i64 id)] [(⟨k, 0, none⟩, .pointer (some ⟨t, 0, none⟩))] (hasC (blkAt (T := 59) (cs := [.pointer (some ⟨t, 0, none⟩), .pointer (some ⟨m, 0, none⟩), .pointer (some ⟨o, 0, none⟩), .int .i64 s.mt, .int .i64 s.mg, .int .i64 s.nx]) 0 rfl rfl) has0) (fun _ => by kernel_rfl) ?_ : RT _ _ _ _ _ _ 7 _)
    refine (stepR (z := 1) (callS 29 [.pointer (some ⟨t, 0, none⟩), .int .i64 id, .bool false] (some 30) (fun _ => pqErr (readyN s.N id false).1) (fun _ => (blk k 59 [.pointer (some ⟨t, 0, none⟩), .pointer (some ⟨m, 0, none⟩), .pointer (some ⟨o, 0, none⟩), .int .i64 s.mt, .int .i64 s.mg, .int .i64 s.nx] :: treeS t (readyN s.N id false).2 :: tmS m (tmSet id u s.tm) :: obsS o s.ob :: H)) (fun _ => by kernel_rfl) (chg_at (H := (blk k 59 [.pointer (some ⟨t, 0, none⟩), .pointer (some ⟨m, 0, none⟩), .pointer (some ⟨o, 0, none⟩), .int .i64 s.mt, .int .i64 s.mg, .int .i64 s.nx] :: treeS t s.N :: tmS m (tmSet id u s.tm) :: obsS o s.ob :: H)) 1 rfl (trReady _ t s.N id false))) (fun _ => ?_) : RT _ _ _ _ _ _ 2 _)
    refine (run0 (z := 0) 1 [6] [(6, pqErr (readyN s.N id false).1)] (fun _ => by kernel_rfl) (endR ?_) : RT _ _ _ _ _ _ 1 _)
    refine retR (by kernel_rfl) ?_
    refine done0 (pqErr (readyN s.N id false).1) (fun _ => by kernel_rfl) (fun w hs => ?_) .ret (.inr rfl)
    rw [e]; exact ⟨(), rfl, hs⟩
  | false =>
    have e : ksleep s id u = (13, s) := by rw [ksleep, if_pos hr]
    refine (run0 (z := 0) 5 [0, 1, 2, 6, 8] [(0, .pointer (some ⟨k, 0, none⟩)), (1, .int .i64 id), (2, .int .i64 u), (6, .nilIface), (8, .bool false)] (fun _ => by kernel_rfl) (endR ?_) : RT _ _ _ _ _ _ 5 _)
    refine seqR (by kernel_rfl) ?_
    refine regionR 2 (by kernel_rfl) (by kernel_rfl) ?_
    refine (run0 (z := 0) 2 [0, 1, 2, 6, 16] [(0, .pointer (some ⟨k, 0, none⟩)), (1, .int .i64 id), (2, .int .i64 u), (6, .nilIface), (16, .bool true)] (fun _ => by kernel_rfl) (endR ?_) : RT _ _ _ _ _ _ 2 _)
    refine condR (b := true) (by kernel_rfl) (fun _ => by kernel_rfl) (fun _ => ?_) (fun h => by cases h)
    refine seqR (by kernel_rfl) ?_
    refine regionR 2 (by kernel_rfl) (by kernel_rfl) ?_
    refine (run0 (z := 0) 2 [0, 1, 2, 6] [(0, .pointer (some ⟨k, 0, none⟩)), (1, .int .i64 id), (2, .int .i64 u), (6, .iface 40 (.int .i64 13))] (fun _ => by kernel_rfl) (endR ?_) : RT _ _ _ _ _ _ 2 _)
    refine retR (by kernel_rfl) ?_
    refine thenV ?_
    refine done0 (.iface 40 (.int .i64 13)) (fun _ => by kernel_rfl) (fun w hs => ?_) .ret (.inr rfl)
    rw [e]; exact ⟨(), rfl, hs⟩
set_option maxRecDepth 100000 in
theorem kexit_walk (H : List SP) (k t m o : Nat) (s : KS) (hk : KOk s) (id : Int) : ∀ w, Sat w (blk k 59 [.pointer (some ⟨t, 0, none⟩), .pointer (some ⟨m, 0, none⟩), .pointer (some ⟨o, 0, none⟩), .int .i64 s.mt, .int .i64 s.mg, .int .i64 s.nx] :: treeS t s.N :: tmS m s.tm :: obsS o s.ob :: H) → Calls Tryz.prog 14 #[.pointer (some ⟨k, 0, none⟩), .int .i64 id] w (Ret (ι := Unit) (fun _ => pqErr (kexit s id).1) fun _ => blk k 59 [.pointer (some ⟨t, 0, none⟩), .pointer (some ⟨m, 0, none⟩), .pointer (some ⟨o, 0, none⟩), .int .i64 (kexit s id).2.mt, .int .i64 (kexit s id).2.mg, .int .i64 (kexit s id).2.nx] :: treeS t (kexit s id).2.N :: tmS m (kexit s id).2.tm :: obsS o (kexit s id).2.ob :: H) := by
  have htl := hk.tml
  refine enterG (fn := Tryz.f14) 34 [.pointer (some ⟨k, 0, none⟩), .int .i64 id] Tryz.func14 (by kernel_rfl) (by kernel_rfl) (by kernel_rfl) ?_
  refine seqR (by kernel_rfl) ?_
  refine regionR 1 (by kernel_rfl) (by kernel_rfl) ?_
  refine (run0 (z := 0) 1 [0, 1, 4] [(0, .pointer (some ⟨k, 0, none⟩)), (1, .int .i64 id), (4, .nilIface)] (fun _ => by kernel_rfl) (endR ?_) : RT _ _ _ _ _ _ 1 _)
  refine seqR (by kernel_rfl) ?_
  refine seqR (by kernel_rfl) ?_
  refine regionR 8 (by kernel_rfl) (by kernel_rfl) ?_
  refine (run0 (z := 6) 2 [0, 1, 4, 8, 9] [(0, .pointer (some ⟨k, 0, none⟩)), (1, .int .i64 id), (4, .nilIface), (8, .pointer (some ⟨k, 0, none⟩)), (9, .int .i64 id)] (fun _ => by kernel_rfl) ?_ : RT _ _ _ _ _ _ 8 _)
  refine (stepR (z := 5) (callS 30 [.pointer (some ⟨k, 0, none⟩), .int .i64 id] (some 10) (fun _ => .tuple #[.bool (isT s.N id), .bool (isR s.N id)]) (fun _ => (blk k 59 [.pointer (some ⟨t, 0, none⟩), .pointer (some ⟨m, 0, none⟩), .pointer (some ⟨o, 0, none⟩), .int .i64 s.mt, .int .i64 s.mg, .int .i64 s.nx] :: treeS t s.N :: tmS m s.tm :: obsS o s.ob :: H)) (fun _ => by kernel_rfl) (thread_walk _ k t m o s id)) (fun _ => ?_) : RT _ _ _ _ _ _ 6 _)
  cases hr : (isT s.N id) with
  | true =>
    have e : kexit s id = ((removeN s.N id).1, { s with N := (removeN s.N id).2, tm := tmDrop id s.tm, ob := obCut s.ob id }) := by rw [kexit, if_neg (by rw [hr]; simp)]
    refine (run0 (z := 0) 5 [0, 1, 4, 5] [(0, .pointer (some ⟨k, 0, none⟩)), (1, .int .i64 id), (4, .nilIface), (5, .bool true)] (fun _ => by kernel_rfl) (endR ?_) : RT _ _ _ _ _ _ 5 _)
    refine seqR (by kernel_rfl) ?_
    refine regionR 2 (by kernel_rfl) (by kernel_rfl) ?_
    refine (run0 (z := 0) 2 [0, 1, 4, 14] [(0, .pointer (some ⟨k, 0, none⟩)), (1, .int .i64 id), (4, .nilIface), (14, .bool false)] (fun _ => by kernel_rfl) (endR ?_) : RT _ _ _ _ _ _ 2 _)
    refine condR (b := false) (by kernel_rfl) (fun _ => by kernel_rfl) (fun h => by cases h) (fun _ => ?_)
    refine skipR (by kernel_rfl) ?_
    refine seqR (by kernel_rfl) ?_
    refine regionR 6 (by kernel_rfl) (by kernel_rfl) ?_
    refine (runR (H := (blk k 59 [.pointer (some ⟨t, 0, none⟩), .pointer (some ⟨m, 0, none⟩), .pointer (some ⟨o, 0, none⟩), .int .i64 s.mt, .int .i64 s.mg, .int .i64 s.nx] :: treeS t s.N :: tmS m s.tm :: obsS o s.ob :: H)) (z := 1) 5 [0, 1, 4, 19, 20] [(0, .pointer (some ⟨k, 0, none⟩)), (1, .int .i64 id), (4, .nilIface), (19, .pointer (some ⟨m, 0, none⟩)), (20, .int .i64 id)] [(⟨k, 1, none⟩, .pointer (some ⟨m, 0, none⟩))] (hasC (blkAt (T := 59) (cs := [.pointer (some ⟨t, 0, none⟩), .pointer (some ⟨m, 0, none⟩), .pointer (some ⟨o, 0, none⟩), .int .i64 s.mt, .int .i64 s.mg, .int .i64 s.nx]) 0 rfl rfl) has0) (fun _ => by kernel_rfl) ?_ : RT _ _ _ _ _ _ 6 _)
    refine (stepR (z := 0) (callS 31 [.pointer (some ⟨m, 0, none⟩), .int .i64 id] (some 21) (fun _ => .bool (tmPlace id s.tm).2) (fun _ => (blk k 59 [.pointer (some ⟨t, 0, none⟩), .pointer (some ⟨m, 0, none⟩), .pointer (some ⟨o, 0, none⟩), .int .i64 s.mt, .int .i64 s.mg, .int .i64 s.nx] :: treeS t s.N :: tmS m (tmDrop id s.tm) :: obsS o s.ob :: H)) (fun _ => by kernel_rfl) (chg_at (H := (blk k 59 [.pointer (some ⟨t, 0, none⟩), .pointer (some ⟨m, 0, none⟩), .pointer (some ⟨o, 0, none⟩), .int .i64 s.mt, .int .i64 s.mg, .int .i64 s.nx] :: treeS t s.N :: tmS m s.tm :: obsS o s.ob :: H)) 2 rfl (tmgDrop _ m s.tm id (by omega)))) (fun _ => ?_) : RT _ _ _ _ _ _ 1 _)
    refine endR ?_
    refine seqR (by kernel_rfl) ?_
    refine regionR 6 (by kernel_rfl) (by kernel_rfl) ?_
    refine (runR (H := (blk k 59 [.pointer (some ⟨t, 0, none⟩), .pointer (some ⟨m, 0, none⟩), .pointer (some ⟨o, 0, none⟩), .int .i64 s.mt, .int .i64 s.mg, .int .i64 s.nx] :: treeS t s.N :: tmS m (tmDrop id s.tm) :: obsS o s.ob :: H)) (z := 1) 5 [0, 1, 4, 25, 26] [(0, .pointer (some ⟨k, 0, none⟩)), (1, .int .i64 id), (4, .nilIface), (25, .pointer (some ⟨o, 0, none⟩)), (26, .int .i64 id)] [(⟨k, 2, none⟩, .pointer (some ⟨o, 0, none⟩))] (hasC (blkAt (T := 59) (cs := [.pointer (some ⟨t, 0, none⟩), .pointer (some ⟨m, 0, none⟩), .pointer (some ⟨o, 0, none⟩), .int .i64 s.mt, .int .i64 s.mg, .int .i64 s.nx]) 0 rfl rfl) has0) (fun _ => by kernel_rfl) ?_ : RT _ _ _ _ _ _ 6 _)
    refine (stepR (z := 0) (callS 32 [.pointer (some ⟨o, 0, none⟩), .int .i64 id] (some 27) (fun _ => .bool (obHas s.ob id)) (fun _ => (blk k 59 [.pointer (some ⟨t, 0, none⟩), .pointer (some ⟨m, 0, none⟩), .pointer (some ⟨o, 0, none⟩), .int .i64 s.mt, .int .i64 s.mg, .int .i64 s.nx] :: treeS t s.N :: tmS m (tmDrop id s.tm) :: obsS o (obCut s.ob id) :: H)) (fun _ => by kernel_rfl) (chg_at (H := (blk k 59 [.pointer (some ⟨t, 0, none⟩), .pointer (some ⟨m, 0, none⟩), .pointer (some ⟨o, 0, none⟩), .int .i64 s.mt, .int .i64 s.mg, .int .i64 s.nx] :: treeS t s.N :: tmS m (tmDrop id s.tm) :: obsS o s.ob :: H)) 3 rfl (obgDrop _ o s.ob hk.obb hk.obd id))) (fun _ => ?_) : RT _ _ _ _ _ _ 1 _)
    refine endR ?_
    refine seqR (by kernel_rfl) ?_
    refine regionR 7 (by kernel_rfl) (by kernel_rfl) ?_
    refine (runR (H := (blk k 59 [.pointer (some ⟨t, 0, none⟩), .pointer (some ⟨m, 0, none⟩), .pointer (some ⟨o, 0, none⟩), .int .i64 s.mt, .int .i64 s.mg, .int .i64 s.nx] :: treeS t s.N :: tmS m (tmDrop id s.tm) :: obsS o (obCut s.ob id) :: H)) (z := 2) 5 [4, 31, 32] [(4, .nilIface), (31, .pointer (some ⟨t, 0, none⟩)), (32, .int .i64 id)] [(⟨k, 0, none⟩, .pointer (some ⟨t, 0, none⟩))] (hasC (blkAt (T := 59) (cs := [.pointer (some ⟨t, 0, none⟩), .pointer (some ⟨m, 0, none⟩), .pointer (some ⟨o, 0, none⟩), .int .i64 s.mt, .int .i64 s.mg, .int .i64 s.nx]) 0 rfl rfl) has0) (fun _ => by kernel_rfl) ?_ : RT _ _ _ _ _ _ 7 _)
    refine (stepR (z := 1) (callS 33 [.pointer (some ⟨t, 0, none⟩), .int .i64 id] (some 33) (fun _ => pqErr (removeN s.N id).1) (fun _ => (blk k 59 [.pointer (some ⟨t, 0, none⟩), .pointer (some ⟨m, 0, none⟩), .pointer (some ⟨o, 0, none⟩), .int .i64 s.mt, .int .i64 s.mg, .int .i64 s.nx] :: treeS t (removeN s.N id).2 :: tmS m (tmDrop id s.tm) :: obsS o (obCut s.ob id) :: H)) (fun _ => by kernel_rfl) (chg_at (H := (blk k 59 [.pointer (some ⟨t, 0, none⟩), .pointer (some ⟨m, 0, none⟩), .pointer (some ⟨o, 0, none⟩), .int .i64 s.mt, .int .i64 s.mg, .int .i64 s.nx] :: treeS t s.N :: tmS m (tmDrop id s.tm) :: obsS o (obCut s.ob id) :: H)) 1 rfl (trRemove _ t s.N id))) (fun _ => ?_) : RT _ _ _ _ _ _ 2 _)
    refine (run0 (z := 0) 1 [4] [(4, pqErr (removeN s.N id).1)] (fun _ => by kernel_rfl) (endR ?_) : RT _ _ _ _ _ _ 1 _)
    refine retR (by kernel_rfl) ?_
    refine done0 (pqErr (removeN s.N id).1) (fun _ => by kernel_rfl) (fun w hs => ?_) .ret (.inr rfl)
    rw [e]; exact ⟨(), rfl, hs⟩
  | false =>
    have e : kexit s id = (13, s) := by rw [kexit, if_pos hr]
    refine (run0 (z := 0) 5 [0, 1, 4, 5] [(0, .pointer (some ⟨k, 0, none⟩)), (1, .int .i64 id), (4, .nilIface), (5, .bool false)] (fun _ => by kernel_rfl) (endR ?_) : RT _ _ _ _ _ _ 5 _)
    refine seqR (by kernel_rfl) ?_
    refine regionR 2 (by kernel_rfl) (by kernel_rfl) ?_
    refine (run0 (z := 0) 2 [0, 1, 4, 14] [(0, .pointer (some ⟨k, 0, none⟩)), (1, .int .i64 id), (4, .nilIface), (14, .bool true)] (fun _ => by kernel_rfl) (endR ?_) : RT _ _ _ _ _ _ 2 _)
    refine condR (b := true) (by kernel_rfl) (fun _ => by kernel_rfl) (fun _ => ?_) (fun h => by cases h)
    refine seqR (by kernel_rfl) ?_
    refine regionR 2 (by kernel_rfl) (by kernel_rfl) ?_
    refine (run0 (z := 0) 2 [0, 1, 4] [(0, .pointer (some ⟨k, 0, none⟩)), (1, .int .i64 id), (4, .iface 40 (.int .i64 13))] (fun _ => by kernel_rfl) (endR ?_) : RT _ _ _ _ _ _ 2 _)
    refine retR (by kernel_rfl) ?_
    refine thenV ?_
    refine done0 (.iface 40 (.int .i64 13)) (fun _ => by kernel_rfl) (fun w hs => ?_) .ret (.inr rfl)
    rw [e]; exact ⟨(), rfl, hs⟩
end Go.Proofs.YtlhjibkkkhgonaaGreat
set_option linter.unusedVariables false
set_option linter.unusedSimpArgs false
namespace Go.Proofs.YtlhjibkkkhgonaaGreat
open Go.RowKit G
theorem pqErr_0 {e : Int} (h : e = 0) : pqErr e = .nilIface := by rw [pqErr, if_pos h]
theorem pqErr_n {e : Int} (h : ¬ e = 0) : pqErr e = .iface 40 (.int .i64 e) := by rw [pqErr, if_neg h]
set_option maxRecDepth 100000 in
theorem kwait_walk (H : List SP) (k t m o : Nat) (s : KS) (hk : KOk s) (id j : Int) : ∀ w, Sat w (blk k 59 [.pointer (some ⟨t, 0, none⟩), .pointer (some ⟨m, 0, none⟩), .pointer (some ⟨o, 0, none⟩), .int .i64 s.mt, .int .i64 s.mg, .int .i64 s.nx] :: treeS t s.N :: tmS m s.tm :: obsS o s.ob :: H) → Calls Tryz.prog 17 #[.pointer (some ⟨k, 0, none⟩), .int .i64 id, .int .i64 j] w (Ret (ι := Unit) (fun _ => .tuple #[.bool (kwait s id j).1.1, pqErr (kwait s id j).1.2]) fun _ => blk k 59 [.pointer (some ⟨t, 0, none⟩), .pointer (some ⟨m, 0, none⟩), .pointer (some ⟨o, 0, none⟩), .int .i64 (kwait s id j).2.mt, .int .i64 (kwait s id j).2.mg, .int .i64 (kwait s id j).2.nx] :: treeS t (kwait s id j).2.N :: tmS m (kwait s id j).2.tm :: obsS o (kwait s id j).2.ob :: H) := by
  refine enterG (fn := Tryz.f17) 44 [.pointer (some ⟨k, 0, none⟩), .int .i64 id, .int .i64 j] Tryz.func17 (by kernel_rfl) (by kernel_rfl) (by kernel_rfl) ?_
  refine seqR (by kernel_rfl) ?_
  refine regionR 2 (by kernel_rfl) (by kernel_rfl) ?_
  refine (run0 (z := 0) 2 [0, 1, 2, 6, 7] [(0, .pointer (some ⟨k, 0, none⟩)), (1, .int .i64 id), (2, .int .i64 j), (6, .bool false), (7, .nilIface)] (fun _ => by kernel_rfl) (endR ?_) : RT _ _ _ _ _ _ 2 _)
  refine seqR (by kernel_rfl) ?_
  refine seqR (by kernel_rfl) ?_
  refine regionR 8 (by kernel_rfl) (by kernel_rfl) ?_
  refine (run0 (z := 6) 2 [0, 1, 2, 6, 7, 13, 14] [(0, .pointer (some ⟨k, 0, none⟩)), (1, .int .i64 id), (2, .int .i64 j), (6, .bool false), (7, .nilIface), (13, .pointer (some ⟨k, 0, none⟩)), (14, .int .i64 id)] (fun _ => by kernel_rfl) ?_ : RT _ _ _ _ _ _ 8 _)
  refine (stepR (z := 5) (callS 30 [.pointer (some ⟨k, 0, none⟩), .int .i64 id] (some 15) (fun _ => .tuple #[.bool (isT s.N id), .bool (isR s.N id)]) (fun _ => (blk k 59 [.pointer (some ⟨t, 0, none⟩), .pointer (some ⟨m, 0, none⟩), .pointer (some ⟨o, 0, none⟩), .int .i64 s.mt, .int .i64 s.mg, .int .i64 s.nx] :: treeS t s.N :: tmS m s.tm :: obsS o s.ob :: H)) (fun _ => by kernel_rfl) (thread_walk _ k t m o s id)) (fun _ => ?_) : RT _ _ _ _ _ _ 6 _)
  cases hr : (isR s.N id) with
  | true =>
    refine (run0 (z := 0) 5 [0, 1, 2, 6, 7, 9] [(0, .pointer (some ⟨k, 0, none⟩)), (1, .int .i64 id), (2, .int .i64 j), (6, .bool false), (7, .nilIface), (9, .bool true)] (fun _ => by kernel_rfl) (endR ?_) : RT _ _ _ _ _ _ 5 _)
    refine seqR (by kernel_rfl) ?_
    refine regionR 2 (by kernel_rfl) (by kernel_rfl) ?_
    refine (run0 (z := 0) 2 [0, 1, 2, 6, 7, 19] [(0, .pointer (some ⟨k, 0, none⟩)), (1, .int .i64 id), (2, .int .i64 j), (6, .bool false), (7, .nilIface), (19, .bool false)] (fun _ => by kernel_rfl) (endR ?_) : RT _ _ _ _ _ _ 2 _)
    refine condR (b := false) (by kernel_rfl) (fun _ => by kernel_rfl) (fun h => by cases h) (fun _ => ?_)
    refine skipR (by kernel_rfl) ?_
    refine seqR (by kernel_rfl) ?_
    refine regionR 12 (by kernel_rfl) (by kernel_rfl) ?_
    refine (runR (H := (blk k 59 [.pointer (some ⟨t, 0, none⟩), .pointer (some ⟨m, 0, none⟩), .pointer (some ⟨o, 0, none⟩), .int .i64 s.mt, .int .i64 s.mg, .int .i64 s.nx] :: treeS t s.N :: tmS m s.tm :: obsS o s.ob :: H)) (z := 6) 6 [0, 1, 6, 7, 25, 26, 27] [(0, .pointer (some ⟨k, 0, none⟩)), (1, .int .i64 id), (6, .bool false), (7, .nilIface), (25, .pointer (some ⟨o, 0, none⟩)), (26, .int .i64 id), (27, .int .i64 j)] [(⟨k, 2, none⟩, .pointer (some ⟨o, 0, none⟩))] (hasC (blkAt (T := 59) (cs := [.pointer (some ⟨t, 0, none⟩), .pointer (some ⟨m, 0, none⟩), .pointer (some ⟨o, 0, none⟩), .int .i64 s.mt, .int .i64 s.mg, .int .i64 s.nx]) 0 rfl rfl) has0) (fun _ => by kernel_rfl) ?_ : RT _ _ _ _ _ _ 12 _)
    refine (stepR (z := 5) (callS 36 [.pointer (some ⟨o, 0, none⟩), .int .i64 id, .int .i64 j] (some 28) (fun _ => .tuple #[.bool (obWait s.ob id j).1.1, pqErr (obWait s.ob id j).1.2]) (fun _ => (blk k 59 [.pointer (some ⟨t, 0, none⟩), .pointer (some ⟨m, 0, none⟩), .pointer (some ⟨o, 0, none⟩), .int .i64 s.mt, .int .i64 s.mg, .int .i64 s.nx] :: treeS t s.N :: tmS m s.tm :: obsS o (obWait s.ob id j).2 :: H)) (fun _ => by kernel_rfl) (chg_at (H := (blk k 59 [.pointer (some ⟨t, 0, none⟩), .pointer (some ⟨m, 0, none⟩), .pointer (some ⟨o, 0, none⟩), .int .i64 s.mt, .int .i64 s.mg, .int .i64 s.nx] :: treeS t s.N :: tmS m s.tm :: obsS o s.ob :: H)) 3 rfl (obgWait _ o s.ob hk.obb id j))) (fun _ => ?_) : RT _ _ _ _ _ _ 6 _)
    rcases Decidable.em ((obWait s.ob id j).1.2 = 0) with h2 | h2
    · rw [pqErr_0 h2]
      cases h3 : ((obWait s.ob id j).1.1) with
      | true =>
        have e : kwait s id j = ((obWait s.ob id j).1, { s with ob := (obWait s.ob id j).2 }) := by rw [kwait, if_neg (by rw [hr]; simp), if_pos (.inr h3)]
        refine (run0 (z := 0) 5 [0, 1, 6, 7, 10, 11] [(0, .pointer (some ⟨k, 0, none⟩)), (1, .int .i64 id), (6, .bool false), (7, .nilIface), (10, .bool true), (11, .nilIface)] (fun _ => by kernel_rfl) (endR ?_) : RT _ _ _ _ _ _ 5 _)
        refine seqR (by kernel_rfl) ?_
        refine seqR (by kernel_rfl) ?_
        refine regionR 5 (by kernel_rfl) (by kernel_rfl) ?_
        refine (run0 (z := 0) 5 [0, 1, 6, 7, 10, 11, 35] [(0, .pointer (some ⟨k, 0, none⟩)), (1, .int .i64 id), (6, .bool false), (7, .nilIface), (10, .bool true), (11, .nilIface), (35, .bool true)] (fun _ => by kernel_rfl) (endR ?_) : RT _ _ _ _ _ _ 5 _)
        refine condR (b := true) (by kernel_rfl) (fun _ => by kernel_rfl) (fun _ => ?_) (fun h => by cases h)
        refine seqR (by kernel_rfl) ?_
        refine regionR 4 (by kernel_rfl) (by kernel_rfl) ?_
        refine (run0 (z := 0) 4 [0, 1, 6, 7] [(0, .pointer (some ⟨k, 0, none⟩)), (1, .int .i64 id), (6, .bool true), (7, .nilIface)] (fun _ => by kernel_rfl) (endR ?_) : RT _ _ _ _ _ _ 4 _)
        refine retR (by kernel_rfl) ?_
        refine thenV ?_
        refine done0 (.tuple #[.bool true, .nilIface]) (fun _ => by kernel_rfl) (fun w hs => ?_) .ret (.inr rfl)
        rw [e]; exact ⟨(), by simp only; rw [h3, pqErr_0 h2], hs⟩
      | false =>
        have e : kwait s id j = ((false, (readyN s.N id false).1), { s with N := (readyN s.N id false).2, ob := (obWait s.ob id j).2 }) := by rw [kwait, if_neg (by rw [hr]; simp), if_neg (by rw [h2, h3]; simp)]
        refine (run0 (z := 0) 5 [0, 1, 6, 7, 10, 11] [(0, .pointer (some ⟨k, 0, none⟩)), (1, .int .i64 id), (6, .bool false), (7, .nilIface), (10, .bool false), (11, .nilIface)] (fun _ => by kernel_rfl) (endR ?_) : RT _ _ _ _ _ _ 5 _)
        refine seqR (by kernel_rfl) ?_
        refine seqR (by kernel_rfl) ?_
        refine regionR 5 (by kernel_rfl) (by kernel_rfl) ?_
        refine (run0 (z := 0) 5 [0, 1, 6, 7, 10, 11, 35] [(0, .pointer (some ⟨k, 0, none⟩)), (1, .int .i64 id), (6, .bool false), (7, .nilIface), (10, .bool false), (11, .nilIface), (35, .bool false)] (fun _ => by kernel_rfl) (endR ?_) : RT _ _ _ _ _ _ 5 _)
        refine condR (b := false) (by kernel_rfl) (fun _ => by kernel_rfl) (fun h => by cases h) (fun _ => ?_)
        refine skipR (by kernel_rfl) ?_
        refine seqR (by kernel_rfl) ?_
        refine regionR 8 (by kernel_rfl) (by kernel_rfl) ?_
        refine (runR (H := (blk k 59 [.pointer (some ⟨t, 0, none⟩), .pointer (some ⟨m, 0, none⟩), .pointer (some ⟨o, 0, none⟩), .int .i64 s.mt, .int .i64 s.mg, .int .i64 s.nx] :: treeS t s.N :: tmS m s.tm :: obsS o (obWait s.ob id j).2 :: H)) (z := 3) 5 [6, 7, 41, 42] [(6, .bool false), (7, .nilIface), (41, .pointer (some ⟨t, 0, none⟩)), (42, .int .i64 id)] [(⟨k, 0, none⟩, .pointer (some ⟨t, 0, none⟩))] (hasC (blkAt (T := 59) (cs := [.pointer (some ⟨t, 0, none⟩), .pointer (some ⟨m, 0, none⟩), .pointer (some ⟨o, 0, none⟩), .int .i64 s.mt, .int .i64 s.mg, .int .i64 s.nx]) 0 rfl rfl) has0) (fun _ => by kernel_rfl) ?_ : RT _ _ _ _ _ _ 8 _)
        refine (stepR (z := 2) (callS 29 [.pointer (some ⟨t, 0, none⟩), .int .i64 id, .bool false] (some 43) (fun _ => pqErr (readyN s.N id false).1) (fun _ => (blk k 59 [.pointer (some ⟨t, 0, none⟩), .pointer (some ⟨m, 0, none⟩), .pointer (some ⟨o, 0, none⟩), .int .i64 s.mt, .int .i64 s.mg, .int .i64 s.nx] :: treeS t (readyN s.N id false).2 :: tmS m s.tm :: obsS o (obWait s.ob id j).2 :: H)) (fun _ => by kernel_rfl) (chg_at (H := (blk k 59 [.pointer (some ⟨t, 0, none⟩), .pointer (some ⟨m, 0, none⟩), .pointer (some ⟨o, 0, none⟩), .int .i64 s.mt, .int .i64 s.mg, .int .i64 s.nx] :: treeS t s.N :: tmS m s.tm :: obsS o (obWait s.ob id j).2 :: H)) 1 rfl (trReady _ t s.N id false))) (fun _ => ?_) : RT _ _ _ _ _ _ 3 _)
        refine (run0 (z := 0) 2 [6, 7] [(6, .bool false), (7, pqErr (readyN s.N id false).1)] (fun _ => by kernel_rfl) (endR ?_) : RT _ _ _ _ _ _ 2 _)
        refine retR (by kernel_rfl) ?_
        refine done0 (.tuple #[.bool false, pqErr (readyN s.N id false).1]) (fun _ => by kernel_rfl) (fun w hs => ?_) .ret (.inr rfl)
        rw [e]; exact ⟨(), rfl, hs⟩
    · rw [pqErr_n h2]
      have e : kwait s id j = ((obWait s.ob id j).1, { s with ob := (obWait s.ob id j).2 }) := by rw [kwait, if_neg (by rw [hr]; simp), if_pos (.inl h2)]
      refine (run0 (z := 0) 5 [0, 1, 6, 7, 10, 11] [(0, .pointer (some ⟨k, 0, none⟩)), (1, .int .i64 id), (6, .bool false), (7, .nilIface), (10, .bool ((obWait s.ob id j).1.1)), (11, .iface 40 (.int .i64 ((obWait s.ob id j).1.2)))] (fun _ => by kernel_rfl) (endR ?_) : RT _ _ _ _ _ _ 5 _)
      refine seqR (by kernel_rfl) ?_
      refine seqR (by kernel_rfl) ?_
      refine regionR 5 (by kernel_rfl) (by kernel_rfl) ?_
      refine (run0 (z := 0) 5 [0, 1, 6, 7, 10, 11, 35] [(0, .pointer (some ⟨k, 0, none⟩)), (1, .int .i64 id), (6, .bool false), (7, .nilIface), (10, .bool ((obWait s.ob id j).1.1)), (11, .iface 40 (.int .i64 ((obWait s.ob id j).1.2))), (35, .bool true)] (fun _ => by kernel_rfl) (endR ?_) : RT _ _ _ _ _ _ 5 _)
      refine condR (b := true) (by kernel_rfl) (fun _ => by kernel_rfl) (fun _ => ?_) (fun h => by cases h)
      refine seqR (by kernel_rfl) ?_
      refine regionR 4 (by kernel_rfl) (by kernel_rfl) ?_
      refine (run0 (z := 0) 4 [0, 1, 6, 7] [(0, .pointer (some ⟨k, 0, none⟩)), (1, .int .i64 id), (6, .bool ((obWait s.ob id j).1.1)), (7, .iface 40 (.int .i64 ((obWait s.ob id j).1.2)))] (fun _ => by kernel_rfl) (endR ?_) : RT _ _ _ _ _ _ 4 _)
      refine retR (by kernel_rfl) ?_
      refine thenV ?_
      refine done0 (.tuple #[.bool ((obWait s.ob id j).1.1), .iface 40 (.int .i64 ((obWait s.ob id j).1.2))]) (fun _ => by kernel_rfl) (fun w hs => ?_) .ret (.inr rfl)
      rw [e]; exact ⟨(), by simp only; rw [pqErr_n h2], hs⟩
  | false =>
    have e : kwait s id j = ((false, 13), s) := by rw [kwait, if_pos hr]
    refine (run0 (z := 0) 5 [0, 1, 2, 6, 7, 9] [(0, .pointer (some ⟨k, 0, none⟩)), (1, .int .i64 id), (2, .int .i64 j), (6, .bool false), (7, .nilIface), (9, .bool false)] (fun _ => by kernel_rfl) (endR ?_) : RT _ _ _ _ _ _ 5 _)
    refine seqR (by kernel_rfl) ?_
    refine regionR 2 (by kernel_rfl) (by kernel_rfl) ?_
    refine (run0 (z := 0) 2 [0, 1, 2, 6, 7, 19] [(0, .pointer (some ⟨k, 0, none⟩)), (1, .int .i64 id), (2, .int .i64 j), (6, .bool false), (7, .nilIface), (19, .bool true)] (fun _ => by kernel_rfl) (endR ?_) : RT _ _ _ _ _ _ 2 _)
    refine condR (b := true) (by kernel_rfl) (fun _ => by kernel_rfl) (fun _ => ?_) (fun h => by cases h)
    refine seqR (by kernel_rfl) ?_
    refine regionR 3 (by kernel_rfl) (by kernel_rfl) ?_
    refine (run0 (z := 0) 3 [0, 1, 2, 6, 7] [(0, .pointer (some ⟨k, 0, none⟩)), (1, .int .i64 id), (2, .int .i64 j), (6, .bool false), (7, .iface 40 (.int .i64 13))] (fun _ => by kernel_rfl) (endR ?_) : RT _ _ _ _ _ _ 3 _)
    refine retR (by kernel_rfl) ?_
    refine thenV ?_
    refine done0 (.tuple #[.bool false, .iface 40 (.int .i64 13)]) (fun _ => by kernel_rfl) (fun w hs => ?_) .ret (.inr rfl)
    rw [e]; exact ⟨(), rfl, hs⟩
set_option maxRecDepth 100000 in
theorem ksignal_walk (H : List SP) (k t m o : Nat) (s : KS) (hk : KOk s) (j : Int) : ∀ w, Sat w (blk k 59 [.pointer (some ⟨t, 0, none⟩), .pointer (some ⟨m, 0, none⟩), .pointer (some ⟨o, 0, none⟩), .int .i64 s.mt, .int .i64 s.mg, .int .i64 s.nx] :: treeS t s.N :: tmS m s.tm :: obsS o s.ob :: H) → Calls Tryz.prog 21 #[.pointer (some ⟨k, 0, none⟩), .int .i64 j] w (Ret (ι := Unit) (fun _ => pqErr (ksignal s j).1) fun _ => blk k 59 [.pointer (some ⟨t, 0, none⟩), .pointer (some ⟨m, 0, none⟩), .pointer (some ⟨o, 0, none⟩), .int .i64 (ksignal s j).2.mt, .int .i64 (ksignal s j).2.mg, .int .i64 (ksignal s j).2.nx] :: treeS t (ksignal s j).2.N :: tmS m (ksignal s j).2.tm :: obsS o (ksignal s j).2.ob :: H) := by
  refine enterG (fn := Tryz.f21) 31 [.pointer (some ⟨k, 0, none⟩), .int .i64 j] Tryz.func21 (by kernel_rfl) (by kernel_rfl) (by kernel_rfl) ?_
  refine seqR (by kernel_rfl) ?_
  refine regionR 1 (by kernel_rfl) (by kernel_rfl) ?_
  refine (run0 (z := 0) 1 [0, 1, 4] [(0, .pointer (some ⟨k, 0, none⟩)), (1, .int .i64 j), (4, .nilIface)] (fun _ => by kernel_rfl) (endR ?_) : RT _ _ _ _ _ _ 1 _)
  refine seqR (by kernel_rfl) ?_
  refine regionR 13 (by kernel_rfl) (by kernel_rfl) ?_
  refine (runR (H := (blk k 59 [.pointer (some ⟨t, 0, none⟩), .pointer (some ⟨m, 0, none⟩), .pointer (some ⟨o, 0, none⟩), .int .i64 s.mt, .int .i64 s.mg, .int .i64 s.nx] :: treeS t s.N :: tmS m s.tm :: obsS o s.ob :: H)) (z := 8) 5 [0, 4, 12, 13] [(0, .pointer (some ⟨k, 0, none⟩)), (4, .nilIface), (12, .pointer (some ⟨o, 0, none⟩)), (13, .int .i64 j)] [(⟨k, 2, none⟩, .pointer (some ⟨o, 0, none⟩))] (hasC (blkAt (T := 59) (cs := [.pointer (some ⟨t, 0, none⟩), .pointer (some ⟨m, 0, none⟩), .pointer (some ⟨o, 0, none⟩), .int .i64 s.mt, .int .i64 s.mg, .int .i64 s.nx]) 0 rfl rfl) has0) (fun _ => by kernel_rfl) ?_ : RT _ _ _ _ _ _ 13 _)
  refine (stepR (z := 7) (callS 40 [.pointer (some ⟨o, 0, none⟩), .int .i64 j] (some 14) (fun _ => .tuple #[.int .i64 (obSig s.ob j).1.1, .bool (obSig s.ob j).1.2.1, pqErr (obSig s.ob j).1.2.2]) (fun _ => (blk k 59 [.pointer (some ⟨t, 0, none⟩), .pointer (some ⟨m, 0, none⟩), .pointer (some ⟨o, 0, none⟩), .int .i64 s.mt, .int .i64 s.mg, .int .i64 s.nx] :: treeS t s.N :: tmS m s.tm :: obsS o (obSig s.ob j).2 :: H)) (fun _ => by kernel_rfl) (chg_at (H := (blk k 59 [.pointer (some ⟨t, 0, none⟩), .pointer (some ⟨m, 0, none⟩), .pointer (some ⟨o, 0, none⟩), .int .i64 s.mt, .int .i64 s.mg, .int .i64 s.nx] :: treeS t s.N :: tmS m s.tm :: obsS o s.ob :: H)) 3 rfl (obgSig _ o s.ob hk.obb j))) (fun _ => ?_) : RT _ _ _ _ _ _ 8 _)
  rcases Decidable.em ((obSig s.ob j).1.2.2 = 0) with h2 | h2
  · rw [pqErr_0 h2]
    cases h3 : ((obSig s.ob j).1.2.1) with
    | true =>
      have e : ksignal s j = ((readyN s.N (obSig s.ob j).1.1 true).1, { s with N := (readyN s.N (obSig s.ob j).1.1 true).2, ob := (obSig s.ob j).2 }) := by rw [ksignal, if_neg (by rw [h2, h3]; simp)]
      refine (run0 (z := 0) 7 [0, 4, 5, 6, 7] [(0, .pointer (some ⟨k, 0, none⟩)), (4, .nilIface), (5, .int .i64 ((obSig s.ob j).1.1)), (6, .bool true), (7, .nilIface)] (fun _ => by kernel_rfl) (endR ?_) : RT _ _ _ _ _ _ 7 _)
      refine seqR (by kernel_rfl) ?_
      refine seqR (by kernel_rfl) ?_
      refine regionR 6 (by kernel_rfl) (by kernel_rfl) ?_
      refine (run0 (z := 0) 6 [0, 4, 5, 7, 23] [(0, .pointer (some ⟨k, 0, none⟩)), (4, .nilIface), (5, .int .i64 ((obSig s.ob j).1.1)), (7, .nilIface), (23, .bool false)] (fun _ => by kernel_rfl) (endR ?_) : RT _ _ _ _ _ _ 6 _)
      refine condR (b := false) (by kernel_rfl) (fun _ => by kernel_rfl) (fun h => by cases h) (fun _ => ?_)
      refine skipR (by kernel_rfl) ?_
      refine seqR (by kernel_rfl) ?_
      refine regionR 7 (by kernel_rfl) (by kernel_rfl) ?_
      refine (runR (H := (blk k 59 [.pointer (some ⟨t, 0, none⟩), .pointer (some ⟨m, 0, none⟩), .pointer (some ⟨o, 0, none⟩), .int .i64 s.mt, .int .i64 s.mg, .int .i64 s.nx] :: treeS t s.N :: tmS m s.tm :: obsS o (obSig s.ob j).2 :: H)) (z := 2) 5 [4, 28, 29] [(4, .nilIface), (28, .pointer (some ⟨t, 0, none⟩)), (29, .int .i64 ((obSig s.ob j).1.1))] [(⟨k, 0, none⟩, .pointer (some ⟨t, 0, none⟩))] (hasC (blkAt (T := 59) (cs := [.pointer (some ⟨t, 0, none⟩), .pointer (some ⟨m, 0, none⟩), .pointer (some ⟨o, 0, none⟩), .int .i64 s.mt, .int .i64 s.mg, .int .i64 s.nx]) 0 rfl rfl) has0) (fun _ => by kernel_rfl) ?_ : RT _ _ _ _ _ _ 7 _)
      refine (stepR (z := 1) (callS 29 [.pointer (some ⟨t, 0, none⟩), .int .i64 ((obSig s.ob j).1.1), .bool true] (some 30) (fun _ => pqErr (readyN s.N (obSig s.ob j).1.1 true).1) (fun _ => (blk k 59 [.pointer (some ⟨t, 0, none⟩), .pointer (some ⟨m, 0, none⟩), .pointer (some ⟨o, 0, none⟩), .int .i64 s.mt, .int .i64 s.mg, .int .i64 s.nx] :: treeS t (readyN s.N (obSig s.ob j).1.1 true).2 :: tmS m s.tm :: obsS o (obSig s.ob j).2 :: H)) (fun _ => by kernel_rfl) (chg_at (H := (blk k 59 [.pointer (some ⟨t, 0, none⟩), .pointer (some ⟨m, 0, none⟩), .pointer (some ⟨o, 0, none⟩), .int .i64 s.mt, .int .i64 s.mg, .int .i64 s.nx] :: treeS t s.N :: tmS m s.tm :: obsS o (obSig s.ob j).2 :: H)) 1 rfl (trReady _ t s.N (obSig s.ob j).1.1 true))) (fun _ => ?_) : RT _ _ _ _ _ _ 2 _)
      refine (run0 (z := 0) 1 [4] [(4, pqErr (readyN s.N (obSig s.ob j).1.1 true).1)] (fun _ => by kernel_rfl) (endR ?_) : RT _ _ _ _ _ _ 1 _)
      refine retR (by kernel_rfl) ?_
      refine done0 (pqErr (readyN s.N (obSig s.ob j).1.1 true).1) (fun _ => by kernel_rfl) (fun w hs => ?_) .ret (.inr rfl)
      rw [e]; exact ⟨(), rfl, hs⟩
    | false =>
      have e : ksignal s j = ((obSig s.ob j).1.2.2, { s with ob := (obSig s.ob j).2 }) := by rw [ksignal, if_pos (.inr h3)]
      refine (run0 (z := 0) 7 [0, 4, 5, 6, 7] [(0, .pointer (some ⟨k, 0, none⟩)), (4, .nilIface), (5, .int .i64 ((obSig s.ob j).1.1)), (6, .bool false), (7, .nilIface)] (fun _ => by kernel_rfl) (endR ?_) : RT _ _ _ _ _ _ 7 _)
      refine seqR (by kernel_rfl) ?_
      refine seqR (by kernel_rfl) ?_
      refine regionR 6 (by kernel_rfl) (by kernel_rfl) ?_
      refine (run0 (z := 0) 6 [0, 4, 5, 7, 23] [(0, .pointer (some ⟨k, 0, none⟩)), (4, .nilIface), (5, .int .i64 ((obSig s.ob j).1.1)), (7, .nilIface), (23, .bool true)] (fun _ => by kernel_rfl) (endR ?_) : RT _ _ _ _ _ _ 6 _)
      refine condR (b := true) (by kernel_rfl) (fun _ => by kernel_rfl) (fun _ => ?_) (fun h => by cases h)
      refine seqR (by kernel_rfl) ?_
      refine regionR 2 (by kernel_rfl) (by kernel_rfl) ?_
      refine (run0 (z := 0) 2 [0, 4, 5] [(0, .pointer (some ⟨k, 0, none⟩)), (4, .nilIface), (5, .int .i64 ((obSig s.ob j).1.1))] (fun _ => by kernel_rfl) (endR ?_) : RT _ _ _ _ _ _ 2 _)
      refine retR (by kernel_rfl) ?_
      refine thenV ?_
      refine done0 (.nilIface) (fun _ => by kernel_rfl) (fun w hs => ?_) .ret (.inr rfl)
      rw [e]; exact ⟨(), by simp only; rw [pqErr_0 h2], hs⟩
  · rw [pqErr_n h2]
    have e : ksignal s j = ((obSig s.ob j).1.2.2, { s with ob := (obSig s.ob j).2 }) := by rw [ksignal, if_pos (.inl h2)]
    refine (run0 (z := 0) 7 [0, 4, 5, 6, 7] [(0, .pointer (some ⟨k, 0, none⟩)), (4, .nilIface), (5, .int .i64 ((obSig s.ob j).1.1)), (6, .bool ((obSig s.ob j).1.2.1)), (7, .iface 40 (.int .i64 ((obSig s.ob j).1.2.2)))] (fun _ => by kernel_rfl) (endR ?_) : RT _ _ _ _ _ _ 7 _)
    refine seqR (by kernel_rfl) ?_
    refine seqR (by kernel_rfl) ?_
    refine regionR 6 (by kernel_rfl) (by kernel_rfl) ?_
    refine (run0 (z := 0) 6 [0, 4, 5, 7, 23] [(0, .pointer (some ⟨k, 0, none⟩)), (4, .nilIface), (5, .int .i64 ((obSig s.ob j).1.1)), (7, .iface 40 (.int .i64 ((obSig s.ob j).1.2.2))), (23, .bool true)] (fun _ => by kernel_rfl) (endR ?_) : RT _ _ _ _ _ _ 6 _)
    refine condR (b := true) (by kernel_rfl) (fun _ => by kernel_rfl) (fun _ => ?_) (fun h => by cases h)
    refine seqR (by kernel_rfl) ?_
    refine regionR 2 (by kernel_rfl) (by kernel_rfl) ?_
    refine (run0 (z := 0) 2 [0, 4, 5] [(0, .pointer (some ⟨k, 0, none⟩)), (4, .iface 40 (.int .i64 ((obSig s.ob j).1.2.2))), (5, .int .i64 ((obSig s.ob j).1.1))] (fun _ => by kernel_rfl) (endR ?_) : RT _ _ _ _ _ _ 2 _)
    refine retR (by kernel_rfl) ?_
    refine thenV ?_
    refine done0 (.iface 40 (.int .i64 ((obSig s.ob j).1.2.2))) (fun _ => by kernel_rfl) (fun w hs => ?_) .ret (.inr rfl)
    rw [e]; exact ⟨(), by simp only; rw [pqErr_n h2], hs⟩
set_option maxRecDepth 100000 in
theorem knodes_walk (H : List SP) (k t m o : Nat) (s : KS) (hid : ∀ x ∈ s.N, x.id ≤ 9223372036854775807) : ∀ w, Sat w (blk k 59 [.pointer (some ⟨t, 0, none⟩), .pointer (some ⟨m, 0, none⟩), .pointer (some ⟨o, 0, none⟩), .int .i64 s.mt, .int .i64 s.mg, .int .i64 s.nx] :: treeS t s.N :: tmS m s.tm :: obsS o s.ob :: H) → Calls Tryz.prog 24 #[.pointer (some ⟨k, 0, none⟩)] w (Ret (ι := Option Addr × Nat) (fun x => .slice x.1 (nodesN s.N).length x.2) fun x => row nE 71 (.slice x.1 (nodesN s.N).length x.2) (nodesN s.N) :: blk k 59 [.pointer (some ⟨t, 0, none⟩), .pointer (some ⟨m, 0, none⟩), .pointer (some ⟨o, 0, none⟩), .int .i64 s.mt, .int .i64 s.mg, .int .i64 s.nx] :: treeS t s.N :: tmS m s.tm :: obsS o s.ob :: H) := by
  refine enterG (fn := Tryz.f24) 8 [.pointer (some ⟨k, 0, none⟩)] Tryz.func24 (by kernel_rfl) (by kernel_rfl) (by kernel_rfl) ?_
  refine seqR (by kernel_rfl) ?_
  refine regionR 1 (by kernel_rfl) (by kernel_rfl) ?_
  refine (run0 (z := 0) 1 [0, 2] [(0, .pointer (some ⟨k, 0, none⟩)), (2, .slice none 0 0)] (fun _ => by kernel_rfl) (endR ?_) : RT _ _ _ _ _ _ 1 _)
  refine seqR (by kernel_rfl) ?_
  refine regionR 6 (by kernel_rfl) (by kernel_rfl) ?_
  refine (runR (H := (blk k 59 [.pointer (some ⟨t, 0, none⟩), .pointer (some ⟨m, 0, none⟩), .pointer (some ⟨o, 0, none⟩), .int .i64 s.mt, .int .i64 s.mg, .int .i64 s.nx] :: treeS t s.N :: tmS m s.tm :: obsS o s.ob :: H)) (z := 2) 4 [2, 6] [(2, .slice none 0 0), (6, .pointer (some ⟨t, 0, none⟩))] [(⟨k, 0, none⟩, .pointer (some ⟨t, 0, none⟩))] (hasC (blkAt (T := 59) (cs := [.pointer (some ⟨t, 0, none⟩), .pointer (some ⟨m, 0, none⟩), .pointer (some ⟨o, 0, none⟩), .int .i64 s.mt, .int .i64 s.mg, .int .i64 s.nx]) 0 rfl rfl) has0) (fun _ => by kernel_rfl) ?_ : RT _ _ _ _ _ _ 6 _)
  refine (RT.pick 0 rfl ?_ : RT _ _ _ (blk k 59 [.pointer (some ⟨t, 0, none⟩), .pointer (some ⟨m, 0, none⟩), .pointer (some ⟨o, 0, none⟩), .int .i64 s.mt, .int .i64 s.mg, .int .i64 s.nx] :: treeS t s.N :: tmS m s.tm :: obsS o s.ob :: H) _ _ 2 _)
  refine (RT.pick 1 rfl ?_ : RT _ _ _ (blk k 59 [.pointer (some ⟨t, 0, none⟩), .pointer (some ⟨m, 0, none⟩), .pointer (some ⟨o, 0, none⟩), .int .i64 s.mt, .int .i64 s.mg, .int .i64 s.nx] :: treeS t s.N :: tmS m s.tm :: obsS o s.ob :: H) _ _ 2 _)
  refine (stepR (z := 1) (callS 41 [.pointer (some ⟨t, 0, none⟩)] (some 7) (fun (x : Option Addr × Nat) => .slice x.1 (nodesN s.N).length x.2) (fun (x : Option Addr × Nat) => (row nE 71 (.slice x.1 (nodesN s.N).length x.2) (nodesN s.N) :: treeS t s.N :: blk k 59 [.pointer (some ⟨t, 0, none⟩), .pointer (some ⟨m, 0, none⟩), .pointer (some ⟨o, 0, none⟩), .int .i64 s.mt, .int .i64 s.mg, .int .i64 s.nx] :: tmS m s.tm :: obsS o s.ob :: H)) (fun _ => by kernel_rfl) (trNodes _ t s.N hid)) (fun (x : Option Addr × Nat) => ?_) : RT _ _ _ _ _ _ 2 _)
  refine (run0 (z := 0) 1 [2] [(2, .slice x.1 ((nodesN s.N).length) x.2)] (fun _ => by kernel_rfl) (endR ?_) : RT _ _ _ _ _ _ 1 _)
  refine retR (by kernel_rfl) ?_
  refine PT.pick 1 rfl ?_
  refine PT.pick 2 rfl ?_
  refine PT.pick 2 rfl ?_
  refine done0 (.slice x.1 ((nodesN s.N).length) x.2) (fun _ => by kernel_rfl) (fun w hs => ?_) .ret (.inr rfl)
  exact ⟨x, rfl, hs⟩
end Go.Proofs.YtlhjibkkkhgonaaGreat
set_option linter.unusedVariables false
set_option linter.unusedSimpArgs false
namespace Go.Proofs.YtlhjibkkkhgonaaGreat
open Go.RowKit G
theorem nodesN_perm {N : List Nr} (hn : (N.map (·.id)).Nodup) : (nodesN N).Perm N := by
  have h1 : (sortI (N.map (·.id))).Perm (N.map (·.id)) := List.mergeSort_perm _ _
  have h2 : (N.map (·.id)).map (fun k => (gt N k).getD zeroN) = N := by
    rw [List.map_map]
    refine (List.map_congr_left (g := fun x => x) fun x hx => ?_).trans (List.map_id' N)
    show (gt N x.id).getD zeroN = x
    rw [gt_of hn hx]; rfl
  have h3 := h1.map (fun k => (gt N k).getD zeroN)
  rw [h2] at h3
  exact h3
def cntP (thr : Bool) (x : Nr) : Bool := x.thr == thr && !(x.id == 0)
theorem kcnt_nodes {N : List Nr} (hn : (N.map (·.id)).Nodup) (thr : Bool) : (((nodesN N).filter (cntP thr)).length : Int) = kcnt N thr := by
  rw [((nodesN_perm hn).filter (cntP thr)).length_eq]; rfl
theorem cnt_take {M : List Nr} {u : Nat} {x : Nr} (h : M[u]? = some x) (p : Nr → Bool) : ((M.take (u + 1)).filter p).length = ((M.take u).filter p).length + if p x = true then 1 else 0 := by
  rw [List.take_add_one, h, List.filter_append, List.length_append]
  cases c : p x <;> simp [c]
set_option maxHeartbeats 1000000 in
set_option maxRecDepth 100000 in
theorem kcount_walk (H : List SP) (k t m o : Nat) (s : KS) (hk : KOk s) (hid : s.nx ≤ 1099511627776) (thr : Bool) : ∀ w, Sat w (blk k 59 [.pointer (some ⟨t, 0, none⟩), .pointer (some ⟨m, 0, none⟩), .pointer (some ⟨o, 0, none⟩), .int .i64 s.mt, .int .i64 s.mg, .int .i64 s.nx] :: treeS t s.N :: tmS m s.tm :: obsS o s.ob :: H) → Calls Tryz.prog 45 #[.pointer (some ⟨k, 0, none⟩), .bool thr] w (Ret (ι := Unit) (fun _ => .int .i64 (kcnt s.N thr)) fun _ => blk k 59 [.pointer (some ⟨t, 0, none⟩), .pointer (some ⟨m, 0, none⟩), .pointer (some ⟨o, 0, none⟩), .int .i64 s.mt, .int .i64 s.mg, .int .i64 s.nx] :: treeS t s.N :: tmS m s.tm :: obsS o s.ob :: H) := by
  have hids : ∀ x ∈ s.N, x.id ≤ 9223372036854775807 := fun x hx => by have := hk.ids x hx; omega
  obtain ⟨M, hM⟩ : ∃ M, nodesN s.N = M := ⟨_, rfl⟩
  have hMl : 1 ≤ M.length ∧ M.length ≤ 60 := by
    rw [← hM, nodesN_len]
    obtain ⟨r, hr, _⟩ := hk.wf.sk.root
    exact ⟨List.length_pos_of_mem hr, hk.wf.sk.len⟩
  refine enterG (fn := Tryz.f45) 31 [.pointer (some ⟨k, 0, none⟩), .bool thr] Tryz.func45 (by kernel_rfl) (by kernel_rfl) (by kernel_rfl) ?_
  refine seqR (by kernel_rfl) ?_
  refine regionR 1 (by kernel_rfl) (by kernel_rfl) ?_
  refine (run0 (z := 0) 1 [0, 1, 4] [(0, .pointer (some ⟨k, 0, none⟩)), (1, .bool thr), (4, .int .i64 0)] (fun _ => by kernel_rfl) (endR ?_) : RT _ _ _ _ _ _ 1 _)
  refine seqR (by kernel_rfl) ?_
  refine regionR 1 (by kernel_rfl) (by kernel_rfl) ?_
  refine (run0 (z := 0) 1 [0, 1, 4, 5] [(0, .pointer (some ⟨k, 0, none⟩)), (1, .bool thr), (4, .int .i64 0), (5, .int .i64 0)] (fun _ => by kernel_rfl) (endR ?_) : RT _ _ _ _ _ _ 1 _)
  refine seqR (by kernel_rfl) ?_
  refine seqR (by kernel_rfl) ?_
  refine regionR 7 (by kernel_rfl) (by kernel_rfl) ?_
  refine (runR (H := (blk k 59 [.pointer (some ⟨t, 0, none⟩), .pointer (some ⟨m, 0, none⟩), .pointer (some ⟨o, 0, none⟩), .int .i64 s.mt, .int .i64 s.mg, .int .i64 s.nx] :: treeS t s.N :: tmS m s.tm :: obsS o s.ob :: H)) (z := 3) 4 [1, 4, 5, 11] [(1, .bool thr), (4, .int .i64 0), (5, .int .i64 0), (11, .pointer (some ⟨t, 0, none⟩))] [(⟨k, 0, none⟩, .pointer (some ⟨t, 0, none⟩))] (hasC (blkAt (T := 59) (cs := [.pointer (some ⟨t, 0, none⟩), .pointer (some ⟨m, 0, none⟩), .pointer (some ⟨o, 0, none⟩), .int .i64 s.mt, .int .i64 s.mg, .int .i64 s.nx]) 0 rfl rfl) has0) (fun _ => by kernel_rfl) ?_ : RT _ _ _ _ _ _ 7 _)
  refine (RT.pick 0 rfl ?_ : RT _ _ _ (blk k 59 [.pointer (some ⟨t, 0, none⟩), .pointer (some ⟨m, 0, none⟩), .pointer (some ⟨o, 0, none⟩), .int .i64 s.mt, .int .i64 s.mg, .int .i64 s.nx] :: treeS t s.N :: tmS m s.tm :: obsS o s.ob :: H) _ _ 3 _)
  refine (RT.pick 1 rfl ?_ : RT _ _ _ (blk k 59 [.pointer (some ⟨t, 0, none⟩), .pointer (some ⟨m, 0, none⟩), .pointer (some ⟨o, 0, none⟩), .int .i64 s.mt, .int .i64 s.mg, .int .i64 s.nx] :: treeS t s.N :: tmS m s.tm :: obsS o s.ob :: H) _ _ 3 _)
  refine (stepR (z := 2) (callS 41 [.pointer (some ⟨t, 0, none⟩)] (some 12) (fun (na : Option Addr × Nat) => .slice na.1 M.length na.2) (fun (na : Option Addr × Nat) => (row nE 71 (.slice na.1 M.length na.2) M :: treeS t s.N :: blk k 59 [.pointer (some ⟨t, 0, none⟩), .pointer (some ⟨m, 0, none⟩), .pointer (some ⟨o, 0, none⟩), .int .i64 s.mt, .int .i64 s.mg, .int .i64 s.nx] :: tmS m s.tm :: obsS o s.ob :: H)) (fun _ => by kernel_rfl) ((hM ▸ trNodes _ t s.N hids))) (fun (na : Option Addr × Nat) => ?_) : RT _ _ _ _ _ _ 3 _)
  refine PT.know (KR.isSome (s := ⟨na.1, na.2, M⟩) (rowKRat 0 rfl) (List.ne_nil_of_length_pos (by show 0 < M.length; omega))) ?_
  rintro ⟨nb, no, hnA⟩
  dsimp only at hnA
  rw [hnA]
  refine (run0 (z := 0) 2 [12, 1, 4, 5, 13, 14] [(12, .slice (some ⟨nb, no, none⟩) M.length na.2), (1, .bool thr), (4, .int .i64 0), (5, .int .i64 0), (13, .int .i64 (M.length : Int)), (14, .int .i64 0)] (fun _ => by kernel_rfl) (endR ?_) : RT _ _ _ _ _ _ 2 _)
  refine blockR 0 (by kernel_rfl) (by kernel_rfl) ?_
  refine PT.keep (L' := [(1, .bool thr), (4, .int .i64 0), (5, .int .i64 0), (12, .slice (some ⟨nb, no, none⟩) M.length na.2), (13, .int .i64 (M.length : Int)), (14, .int .i64 0)]) [1, 4, 5, 12, 13, 14] rfl ?_
  refine loopG (fun (q : Nat × Nat) => [(1, .bool thr), (4, .int .i64 0), (5, .int .i64 (q.2 : Int)), (12, .slice (some ⟨nb, no, none⟩) M.length na.2), (13, .int .i64 (M.length : Int)), (14, .int .i64 (q.1 : Int))]) (fun (q : Nat × Nat) => (row nE 71 (.slice (some ⟨nb, no, none⟩) M.length na.2) M :: treeS t s.N :: blk k 59 [.pointer (some ⟨t, 0, none⟩), .pointer (some ⟨m, 0, none⟩), .pointer (some ⟨o, 0, none⟩), .int .i64 s.mt, .int .i64 s.mg, .int .i64 s.nx] :: tmS m s.tm :: obsS o s.ob :: H)) (fun k (q : Nat × Nat) => k + q.1 = M.length ∧ q.2 = ((M.take q.1).filter (cntP thr)).length) M.length (0, 0) (by kernel_rfl) ⟨by simp, by simp⟩ ?_
  rintro k1 ⟨i, n⟩ ⟨hki, hn⟩
  simp only at hki hn
  refine seqR (by kernel_rfl) ?_
  refine regionR 1 (by kernel_rfl) (by kernel_rfl) ?_
  refine (run0 (z := 0) 1 [1, 4, 5, 12, 13, 14, 15] [(1, .bool thr), (4, .int .i64 0), (5, .int .i64 (n : Int)), (12, .slice (some ⟨nb, no, none⟩) M.length na.2), (13, .int .i64 (M.length : Int)), (14, .int .i64 (i : Int)), (15, .bool (decide ((i : Int) < (M.length : Int))))] (fun _ => by kernel_rfl) (endR ?_) : RT _ _ _ _ _ _ 1 _)
  refine seqR (by kernel_rfl) ?_
  refine condR (b := decide ((i : Int) < (M.length : Int))) (by kernel_rfl) (fun _ => by kernel_rfl) (fun h2 => ?_) (fun h2 => ?_)
  · skip
    have hi : i < M.length := by have := of_decide_eq_true h2; omega
    obtain ⟨x, hx⟩ : ∃ x, M[i]? = some x := ⟨_, List.getElem?_eq_getElem hi⟩
    have hst := cnt_take hx (cntP thr)
    have hnl : ((M.take i).filter (cntP thr)).length ≤ i := Nat.le_trans (List.length_filter_le _ _) (by simp; omega)
    refine skipR (by kernel_rfl) ?_
    refine seqR (by kernel_rfl) ?_
    refine blockR 1 (by kernel_rfl) (by kernel_rfl) ?_
    refine seqR (by kernel_rfl) ?_
    refine regionR 4 (by kernel_rfl) (by kernel_rfl) ?_
    refine (stepR (z := 3) (yldS (idxY 50 (.tmp 12) (.tmp 14) nb no M.length na.2 i 6 71 (i : Int) .i64 (some 16) (fun _ => by kernel_rfl) (by kernel_rfl) (by kernel_rfl) (fun _ => by kernel_rfl) (fun _ => by kernel_rfl) Tryz.underlying50 (by kernel_rfl) (by first | rfl | assumption | simp) (by first | omega | (simp; done) | (simp; omega) | (simp at *; omega)))) (fun _ => ?_) : RT _ _ _ _ _ _ 4 _)
    refine (runR (H := (row nE 71 (.slice (some ⟨nb, no, none⟩) M.length na.2) M :: treeS t s.N :: blk k 59 [.pointer (some ⟨t, 0, none⟩), .pointer (some ⟨m, 0, none⟩), .pointer (some ⟨o, 0, none⟩), .int .i64 s.mt, .int .i64 s.mg, .int .i64 s.nx] :: tmS m s.tm :: obsS o s.ob :: H)) (z := 2) 1 [1, 4, 5, 12, 13, 14, 17] [(1, .bool thr), (4, .int .i64 0), (5, .int .i64 (n : Int)), (12, .slice (some ⟨nb, no, none⟩) M.length na.2), (13, .int .i64 (M.length : Int)), (14, .int .i64 (i : Int)), (17, .agg #[.int .i64 x.id, .int .i64 x.par, .int .i64 x.wt, .int .i64 x.pass, .bool x.thr, .bool x.rdy])] [(⟨nb, no + i * 6, none⟩, .int .i64 x.id), (⟨nb, no + i * 6 + 1, none⟩, .int .i64 x.par), (⟨nb, no + i * 6 + 2, none⟩, .int .i64 x.wt), (⟨nb, no + i * 6 + 3, none⟩, .int .i64 x.pass), (⟨nb, no + i * 6 + 4, none⟩, .bool x.thr), (⟨nb, no + i * 6 + 5, none⟩, .bool x.rdy)] (hasC (rowCell (E := nE) (xs := M) 0 rfl (x := x) hx (j := 0) rfl) (hasC (rowCell (E := nE) (xs := M) 0 rfl (x := x) hx (j := 1) rfl) (hasC (rowCell (E := nE) (xs := M) 0 rfl (x := x) hx (j := 2) rfl) (hasC (rowCell (E := nE) (xs := M) 0 rfl (x := x) hx (j := 3) rfl) (hasC (rowCell (E := nE) (xs := M) 0 rfl (x := x) hx (j := 4) rfl) (hasC (rowCell (E := nE) (xs := M) 0 rfl (x := x) hx (j := 5) rfl) has0)))))) (fun _ => by kernel_rfl) ?_ : RT _ _ _ _ _ _ 3 _)
    refine (stepR (z := 1) (newS 71 [.int .i64 0, .int .i64 0, .int .i64 0, .int .i64 0, .bool false, .bool false] (some 7) (fun b => .pointer (some ⟨b, 0, none⟩)) (fun _ _ => by kernel_rfl)) (fun b1 => ?_) : RT _ _ _ _ _ _ 2 _)
    refine (stepR (z := 0) (storeS [(0, .int .i64 x.id), (1, .int .i64 x.par), (2, .int .i64 x.wt), (3, .int .i64 x.pass), (4, .bool x.thr), (5, .bool x.rdy)] [.int .i64 x.id, .int .i64 x.par, .int .i64 x.wt, .int .i64 x.pass, .bool x.thr, .bool x.rdy] (fun _ => by kernel_rfl) (by kernel_rfl) (by kernel_rfl)) (fun _ => ?_) : RT _ _ _ _ _ _ 1 _)
    refine endR ?_
    refine seqR (by kernel_rfl) ?_
    refine regionR 9 (by kernel_rfl) (by kernel_rfl) ?_
    refine (runR (H := (blk b1 71 [.int .i64 x.id, .int .i64 x.par, .int .i64 x.wt, .int .i64 x.pass, .bool x.thr, .bool x.rdy] :: row nE 71 (.slice (some ⟨nb, no, none⟩) M.length na.2) M :: treeS t s.N :: blk k 59 [.pointer (some ⟨t, 0, none⟩), .pointer (some ⟨m, 0, none⟩), .pointer (some ⟨o, 0, none⟩), .int .i64 s.mt, .int .i64 s.mg, .int .i64 s.nx] :: tmS m s.tm :: obsS o s.ob :: H)) (z := 4) 5 [7, 1, 4, 5, 12, 13, 14, 22] [(7, .pointer (some ⟨b1, 0, none⟩)), (1, .bool thr), (4, .int .i64 0), (5, .int .i64 (n : Int)), (12, .slice (some ⟨nb, no, none⟩) M.length na.2), (13, .int .i64 (M.length : Int)), (14, .int .i64 (i : Int)), (22, .bool (x.thr == thr))] [(⟨b1, 4, none⟩, .bool x.thr)] (hasC (blkAt (T := 71) (cs := [.int .i64 x.id, .int .i64 x.par, .int .i64 x.wt, .int .i64 x.pass, .bool x.thr, .bool x.rdy]) 0 rfl rfl) has0) (fun _ => by kernel_rfl) ?_ : RT _ _ _ _ _ _ 9 _)
    refine (segR (ι := Unit) (z := 0) 4 (fun _ => [(1, .bool thr), (4, .int .i64 0), (5, .int .i64 (n : Int)), (12, .slice (some ⟨nb, no, none⟩) M.length na.2), (13, .int .i64 (M.length : Int)), (14, .int .i64 (i : Int)), (26, .bool ((x.thr == thr) && (x.id != 0)))]) (fun _ => (blk b1 71 [.int .i64 x.id, .int .i64 x.par, .int .i64 x.wt, .int .i64 x.pass, .bool x.thr, .bool x.rdy] :: row nE 71 (.slice (some ⟨nb, no, none⟩) M.length na.2) M :: treeS t s.N :: blk k 59 [.pointer (some ⟨t, 0, none⟩), .pointer (some ⟨m, 0, none⟩), .pointer (some ⟨o, 0, none⟩), .int .i64 s.mt, .int .i64 s.mg, .int .i64 s.nx] :: tmS m s.tm :: obsS o s.ob :: H)) ?_ (fun _ => ?_) : RT _ _ _ _ _ _ 4 _)
    · cases hg5 : (x.thr == thr) with
      | true =>
        refine (runR (H := (blk b1 71 [.int .i64 x.id, .int .i64 x.par, .int .i64 x.wt, .int .i64 x.pass, .bool x.thr, .bool x.rdy] :: row nE 71 (.slice (some ⟨nb, no, none⟩) M.length na.2) M :: treeS t s.N :: blk k 59 [.pointer (some ⟨t, 0, none⟩), .pointer (some ⟨m, 0, none⟩), .pointer (some ⟨o, 0, none⟩), .int .i64 s.mt, .int .i64 s.mg, .int .i64 s.nx] :: tmS m s.tm :: obsS o s.ob :: H)) (z := 0) 4 [1, 4, 5, 12, 13, 14, 26] [(1, .bool thr), (4, .int .i64 0), (5, .int .i64 (n : Int)), (12, .slice (some ⟨nb, no, none⟩) M.length na.2), (13, .int .i64 (M.length : Int)), (14, .int .i64 (i : Int)), (26, .bool (x.id != 0))] [(⟨b1, 0, none⟩, .int .i64 x.id)] (hasC (blkAt (T := 71) (cs := [.int .i64 x.id, .int .i64 x.par, .int .i64 x.wt, .int .i64 x.pass, .bool x.thr, .bool x.rdy]) 0 rfl rfl) has0) (fun _ => by kernel_rfl) (endR ?_) : RT _ _ _ _ _ _ 4 _)
        refine PT.keep (L' := [(1, .bool thr), (4, .int .i64 0), (5, .int .i64 (n : Int)), (12, .slice (some ⟨nb, no, none⟩) M.length na.2), (13, .int .i64 (M.length : Int)), (14, .int .i64 (i : Int)), (26, .bool (true && (x.id != 0)))]) [1, 4, 5, 12, 13, 14, 26] rfl ?_
        exact midR () rfl rfl
      | false =>
        refine (run0 (z := 0) 4 [1, 4, 5, 12, 13, 14, 26] [(1, .bool thr), (4, .int .i64 0), (5, .int .i64 (n : Int)), (12, .slice (some ⟨nb, no, none⟩) M.length na.2), (13, .int .i64 (M.length : Int)), (14, .int .i64 (i : Int)), (26, .bool false)] (fun _ => by kernel_rfl) (endR ?_) : RT _ _ _ _ _ _ 4 _)
        refine PT.keep (L' := [(1, .bool thr), (4, .int .i64 0), (5, .int .i64 (n : Int)), (12, .slice (some ⟨nb, no, none⟩) M.length na.2), (13, .int .i64 (M.length : Int)), (14, .int .i64 (i : Int)), (26, .bool (false && (x.id != 0)))]) [1, 4, 5, 12, 13, 14, 26] rfl ?_
        exact midR () rfl rfl
    refine endR ?_
    refine condR (b := (x.thr == thr) && (x.id != 0)) (by kernel_rfl) (fun _ => by kernel_rfl) (fun h3 => ?_) (fun h3 => ?_)
    · skip
      have h4 : cntP thr x = true := h3
      rw [if_pos h4] at hst
      refine regionR 3 (by kernel_rfl) (by kernel_rfl) ?_
      refine (run0 (z := 0) 3 [1, 4, 5, 12, 13, 14] [(1, .bool thr), (4, .int .i64 0), (5, .int .i64 (IntKind.i64.wrap ((n : Int) + 1))), (12, .slice (some ⟨nb, no, none⟩) M.length na.2), (13, .int .i64 (M.length : Int)), (14, .int .i64 (i : Int))] (fun _ => by kernel_rfl) (endR ?_) : RT _ _ _ _ _ _ 3 _)
      refine regionR 2 (by kernel_rfl) (by kernel_rfl) ?_
      refine (run0 (z := 0) 2 [1, 4, 5, 12, 13, 14] [(1, .bool thr), (4, .int .i64 0), (5, .int .i64 (IntKind.i64.wrap ((n : Int) + 1))), (12, .slice (some ⟨nb, no, none⟩) M.length na.2), (13, .int .i64 (M.length : Int)), (14, .int .i64 (IntKind.i64.wrap ((i : Int) + 1)))] (fun _ => by kernel_rfl) (endR ?_) : RT _ _ _ _ _ _ 2 _)
      rw [show IntKind.i64.wrap ((n : Int) + 1) = ((n : Int) + 1) by rw [w64 (by omega) (by omega)]]
      rw [show IntKind.i64.wrap ((i : Int) + 1) = ((i : Int) + 1) by rw [w64 (by omega) (by omega)]]
      refine PT.drop ?_
      refine PT.keep (L' := [(1, .bool thr), (4, .int .i64 0), (5, .int .i64 ((n : Int) + 1)), (12, .slice (some ⟨nb, no, none⟩) M.length na.2), (13, .int .i64 (M.length : Int)), (14, .int .i64 ((i : Int) + 1))]) [1, 4, 5, 12, 13, 14] rfl ?_
      exact againG (k1 - 1) (i + 1, n + 1) rfl rfl (by omega) ⟨by simp only; omega, by simp only; omega⟩
    · skip
      have h4 : ¬ cntP thr x = true := by rw [show cntP thr x = false from h3]; simp
      rw [if_neg h4] at hst
      refine skipR (by kernel_rfl) ?_
      refine regionR 2 (by kernel_rfl) (by kernel_rfl) ?_
      refine (run0 (z := 0) 2 [1, 4, 5, 12, 13, 14] [(1, .bool thr), (4, .int .i64 0), (5, .int .i64 (n : Int)), (12, .slice (some ⟨nb, no, none⟩) M.length na.2), (13, .int .i64 (M.length : Int)), (14, .int .i64 (IntKind.i64.wrap ((i : Int) + 1)))] (fun _ => by kernel_rfl) (endR ?_) : RT _ _ _ _ _ _ 2 _)
      rw [show IntKind.i64.wrap ((i : Int) + 1) = ((i : Int) + 1) by rw [w64 (by omega) (by omega)]]
      refine PT.drop ?_
      refine PT.keep (L' := [(1, .bool thr), (4, .int .i64 0), (5, .int .i64 (n : Int)), (12, .slice (some ⟨nb, no, none⟩) M.length na.2), (13, .int .i64 (M.length : Int)), (14, .int .i64 ((i : Int) + 1))]) [1, 4, 5, 12, 13, 14] rfl ?_
      exact againG (k1 - 1) (i + 1, n) rfl rfl (by omega) ⟨by simp only; omega, by simp only; omega⟩
  · skip
    have hi : i = M.length := by have := of_decide_eq_false h2; omega
    refine exitR 0 (by kernel_rfl) (by kernel_rfl) ?_
    refine thenX ?_
    refine thenX ?_
    refine leaveR ?_
    refine seqR (by kernel_rfl) ?_
    refine regionR 2 (by kernel_rfl) (by kernel_rfl) ?_
    refine (run0 (z := 0) 2 [4] [(4, .int .i64 (n : Int))] (fun _ => by kernel_rfl) (endR ?_) : RT _ _ _ _ _ _ 2 _)
    refine retR (by kernel_rfl) ?_
    refine done0 (.int .i64 (n : Int)) (fun _ => by kernel_rfl) (fun w hs => ?_) .ret (.inr rfl)
    rw [hn, hi, List.take_length, ← hM, kcnt_nodes hk.wf.sk.nd]; exact ⟨(), rfl, SatF.swap hs.tail⟩
set_option maxHeartbeats 1000000 in
set_option maxRecDepth 100000 in
theorem kadds_walk (H : List SP) (k t m o : Nat) (s : KS) (hk : KOk s) (hid : s.nx ≤ 1099511627776) (par wt most : Int) (thr : Bool) : ∀ w, Sat w (blk k 59 [.pointer (some ⟨t, 0, none⟩), .pointer (some ⟨m, 0, none⟩), .pointer (some ⟨o, 0, none⟩), .int .i64 s.mt, .int .i64 s.mg, .int .i64 s.nx] :: treeS t s.N :: tmS m s.tm :: obsS o s.ob :: H) → Calls Tryz.prog 28 #[.pointer (some ⟨k, 0, none⟩), .int .i64 par, .int .i64 wt, .int .i64 most, .bool thr] w (Ret (ι := Unit) (fun _ => .tuple #[.int .i64 (kadds s par wt most thr).1.1, pqErr (kadds s par wt most thr).1.2]) fun _ => blk k 59 [.pointer (some ⟨t, 0, none⟩), .pointer (some ⟨m, 0, none⟩), .pointer (some ⟨o, 0, none⟩), .int .i64 (kadds s par wt most thr).2.mt, .int .i64 (kadds s par wt most thr).2.mg, .int .i64 (kadds s par wt most thr).2.nx] :: treeS t (kadds s par wt most thr).2.N :: tmS m (kadds s par wt most thr).2.tm :: obsS o (kadds s par wt most thr).2.ob :: H) := by
  have hnx := hk.nx
  refine enterG (fn := Tryz.f28) 71 [.pointer (some ⟨k, 0, none⟩), .int .i64 par, .int .i64 wt, .int .i64 most, .bool thr] Tryz.func28 (by kernel_rfl) (by kernel_rfl) (by kernel_rfl) ?_
  refine seqR (by kernel_rfl) ?_
  refine regionR 2 (by kernel_rfl) (by kernel_rfl) ?_
  refine (run0 (z := 0) 2 [0, 1, 2, 3, 4, 10, 11] [(0, .pointer (some ⟨k, 0, none⟩)), (1, .int .i64 par), (2, .int .i64 wt), (3, .int .i64 most), (4, .bool thr), (10, .int .i64 0), (11, .nilIface)] (fun _ => by kernel_rfl) (endR ?_) : RT _ _ _ _ _ _ 2 _)
  refine seqR (by kernel_rfl) ?_
  refine regionR 12 (by kernel_rfl) (by kernel_rfl) ?_
  refine (runR (H := (blk k 59 [.pointer (some ⟨t, 0, none⟩), .pointer (some ⟨m, 0, none⟩), .pointer (some ⟨o, 0, none⟩), .int .i64 s.mt, .int .i64 s.mg, .int .i64 s.nx] :: treeS t s.N :: tmS m s.tm :: obsS o s.ob :: H)) (z := 7) 5 [0, 1, 2, 3, 4, 10, 11, 19, 20] [(0, .pointer (some ⟨k, 0, none⟩)), (1, .int .i64 par), (2, .int .i64 wt), (3, .int .i64 most), (4, .bool thr), (10, .int .i64 0), (11, .nilIface), (19, .pointer (some ⟨t, 0, none⟩)), (20, .int .i64 par)] [(⟨k, 0, none⟩, .pointer (some ⟨t, 0, none⟩))] (hasC (blkAt (T := 59) (cs := [.pointer (some ⟨t, 0, none⟩), .pointer (some ⟨m, 0, none⟩), .pointer (some ⟨o, 0, none⟩), .int .i64 s.mt, .int .i64 s.mg, .int .i64 s.nx]) 0 rfl rfl) has0) (fun _ => by kernel_rfl) ?_ : RT _ _ _ _ _ _ 12 _)
  refine (stepR (z := 6) (callS 42 [.pointer (some ⟨t, 0, none⟩), .int .i64 par] (some 21) (fun _ => .tuple #[.agg #[.int .i64 ((gt s.N par).getD zeroN).id, .int .i64 ((gt s.N par).getD zeroN).par, .int .i64 ((gt s.N par).getD zeroN).wt, .int .i64 ((gt s.N par).getD zeroN).pass, .bool ((gt s.N par).getD zeroN).thr, .bool ((gt s.N par).getD zeroN).rdy], .bool (gt s.N par).isSome]) (fun _ => (blk k 59 [.pointer (some ⟨t, 0, none⟩), .pointer (some ⟨m, 0, none⟩), .pointer (some ⟨o, 0, none⟩), .int .i64 s.mt, .int .i64 s.mg, .int .i64 s.nx] :: treeS t s.N :: tmS m s.tm :: obsS o s.ob :: H)) (fun _ => by kernel_rfl) (chg_at (H := (blk k 59 [.pointer (some ⟨t, 0, none⟩), .pointer (some ⟨m, 0, none⟩), .pointer (some ⟨o, 0, none⟩), .int .i64 s.mt, .int .i64 s.mg, .int .i64 s.nx] :: treeS t s.N :: tmS m s.tm :: obsS o s.ob :: H)) 1 rfl (trNode _ t s.N par))) (fun _ => ?_) : RT _ _ _ _ _ _ 7 _)
  cases hg : gt s.N par with
  | none =>
    refine (run0 (z := 3) 3 [0, 1, 2, 3, 4, 10, 11, 22, 23] [(0, .pointer (some ⟨k, 0, none⟩)), (1, .int .i64 par), (2, .int .i64 wt), (3, .int .i64 most), (4, .bool thr), (10, .int .i64 0), (11, .nilIface), (22, .agg #[.int .i64 zeroN.id, .int .i64 zeroN.par, .int .i64 zeroN.wt, .int .i64 zeroN.pass, .bool zeroN.thr, .bool zeroN.rdy]), (23, .bool false)] (fun _ => by kernel_rfl) ?_ : RT _ _ _ _ _ _ 6 _)
    refine (stepR (z := 2) (newS 71 [.int .i64 0, .int .i64 0, .int .i64 0, .int .i64 0, .bool false, .bool false] (some 12) (fun b => .pointer (some ⟨b, 0, none⟩)) (fun _ _ => by kernel_rfl)) (fun b1 => ?_) : RT _ _ _ _ _ _ 3 _)
    refine (stepR (z := 1) (storeS [(0, .int .i64 zeroN.id), (1, .int .i64 zeroN.par), (2, .int .i64 zeroN.wt), (3, .int .i64 zeroN.pass), (4, .bool zeroN.thr), (5, .bool zeroN.rdy)] [.int .i64 zeroN.id, .int .i64 zeroN.par, .int .i64 zeroN.wt, .int .i64 zeroN.pass, .bool zeroN.thr, .bool zeroN.rdy] (fun _ => by kernel_rfl) (by kernel_rfl) (by kernel_rfl)) (fun _ => ?_) : RT _ _ _ _ _ _ 2 _)
    refine (run0 (z := 0) 1 [12, 0, 1, 2, 3, 4, 10, 11, 13] [(12, .pointer (some ⟨b1, 0, none⟩)), (0, .pointer (some ⟨k, 0, none⟩)), (1, .int .i64 par), (2, .int .i64 wt), (3, .int .i64 most), (4, .bool thr), (10, .int .i64 0), (11, .nilIface), (13, .bool false)] (fun _ => by kernel_rfl) (endR ?_) : RT _ _ _ _ _ _ 1 _)
    refine seqR (by kernel_rfl) ?_
    refine blockR 0 (by kernel_rfl) (by kernel_rfl) ?_
    refine seqR (by kernel_rfl) ?_
    refine regionR 4 (by kernel_rfl) (by kernel_rfl) ?_
    refine (run0 (z := 3) 1 [12, 0, 1, 2, 3, 4, 10, 11, 13, 25] [(12, .pointer (some ⟨b1, 0, none⟩)), (0, .pointer (some ⟨k, 0, none⟩)), (1, .int .i64 par), (2, .int .i64 wt), (3, .int .i64 most), (4, .bool thr), (10, .int .i64 0), (11, .nilIface), (13, .bool false), (25, .int .i64 wt)] (fun _ => by kernel_rfl) ?_ : RT _ _ _ _ _ _ 4 _)
    refine (stepR (z := 2) (callS 44 [.int .i64 wt] (some 26) (fun _ => .bool (isW wt)) (fun (_ : Unit) => (blk b1 71 [.int .i64 zeroN.id, .int .i64 zeroN.par, .int .i64 zeroN.wt, .int .i64 zeroN.pass, .bool zeroN.thr, .bool zeroN.rdy] :: blk k 59 [.pointer (some ⟨t, 0, none⟩), .pointer (some ⟨m, 0, none⟩), .pointer (some ⟨o, 0, none⟩), .int .i64 s.mt, .int .i64 s.mg, .int .i64 s.nx] :: treeS t s.N :: tmS m s.tm :: obsS o s.ob :: H)) (fun _ => by kernel_rfl) (strIs_walk _ wt)) (fun _ => ?_) : RT _ _ _ _ _ _ 3 _)
    refine (run0 (z := 0) 2 [12, 0, 1, 2, 3, 4, 10, 11, 13, 24] [(12, .pointer (some ⟨b1, 0, none⟩)), (0, .pointer (some ⟨k, 0, none⟩)), (1, .int .i64 par), (2, .int .i64 wt), (3, .int .i64 most), (4, .bool thr), (10, .int .i64 0), (11, .nilIface), (13, .bool false), (24, .bool (!(isW wt)))] (fun _ => by kernel_rfl) (endR ?_) : RT _ _ _ _ _ _ 2 _)
    cases hw : (isW wt) with
    | true =>
      have e : kadds s par wt most thr = ((0, 13), s) := by rw [kadds, if_neg (by rw [hw]; simp), if_pos (by rw [hg]; simp)]
      refine condR (b := false) (by kernel_rfl) (fun _ => by kernel_rfl) (fun h => by cases h) (fun _ => ?_)
      refine seqR (by kernel_rfl) ?_
      refine regionR 7 (by kernel_rfl) (by kernel_rfl) ?_
      refine (run0 (z := 0) 7 [0, 1, 2, 3, 4, 10, 11, 29] [(0, .pointer (some ⟨k, 0, none⟩)), (1, .int .i64 par), (2, .int .i64 wt), (3, .int .i64 most), (4, .bool thr), (10, .int .i64 0), (11, .nilIface), (29, .bool true)] (fun _ => by kernel_rfl) (endR ?_) : RT _ _ _ _ _ _ 7 _)
      refine condR (b := true) (by kernel_rfl) (fun _ => by kernel_rfl) (fun _ => ?_) (fun h => by cases h)
      refine seqR (by kernel_rfl) ?_
      refine regionR 3 (by kernel_rfl) (by kernel_rfl) ?_
      refine (run0 (z := 0) 3 [0, 1, 2, 4, 10, 11] [(0, .pointer (some ⟨k, 0, none⟩)), (1, .int .i64 par), (2, .int .i64 wt), (4, .bool thr), (10, .int .i64 0), (11, .iface 40 (.int .i64 13))] (fun _ => by kernel_rfl) (endR ?_) : RT _ _ _ _ _ _ 3 _)
      refine retR (by kernel_rfl) ?_
      refine blockV ?_
      refine thenV ?_
      refine done0 (.tuple #[.int .i64 0, .iface 40 (.int .i64 13)]) (fun _ => by kernel_rfl) (fun w hs => ?_) .ret (.inr rfl)
      rw [e]; exact ⟨(), rfl, hs.tail⟩
    | false =>
      have e : kadds s par wt most thr = ((0, 10), s) := by rw [kadds, if_pos hw]
      refine condR (b := true) (by kernel_rfl) (fun _ => by kernel_rfl) (fun _ => ?_) (fun h => by cases h)
      refine seqR (by kernel_rfl) ?_
      refine regionR 3 (by kernel_rfl) (by kernel_rfl) ?_
      refine (run0 (z := 0) 3 [0, 1, 2, 4, 10, 11] [(0, .pointer (some ⟨k, 0, none⟩)), (1, .int .i64 par), (2, .int .i64 wt), (4, .bool thr), (10, .int .i64 0), (11, .iface 40 (.int .i64 10))] (fun _ => by kernel_rfl) (endR ?_) : RT _ _ _ _ _ _ 3 _)
      refine retR (by kernel_rfl) ?_
      refine blockV ?_
      refine thenV ?_
      refine done0 (.tuple #[.int .i64 0, .iface 40 (.int .i64 10)]) (fun _ => by kernel_rfl) (fun w hs => ?_) .ret (.inr rfl)
      rw [e]; exact ⟨(), rfl, hs.tail⟩
  | some p =>
    simp only [Option.getD_some, Option.isSome_some]
    refine (run0 (z := 3) 3 [0, 1, 2, 3, 4, 10, 11, 22, 23] [(0, .pointer (some ⟨k, 0, none⟩)), (1, .int .i64 par), (2, .int .i64 wt), (3, .int .i64 most), (4, .bool thr), (10, .int .i64 0), (11, .nilIface), (22, .agg #[.int .i64 p.id, .int .i64 p.par, .int .i64 p.wt, .int .i64 p.pass, .bool p.thr, .bool p.rdy]), (23, .bool true)] (fun _ => by kernel_rfl) ?_ : RT _ _ _ _ _ _ 6 _)
    refine (stepR (z := 2) (newS 71 [.int .i64 0, .int .i64 0, .int .i64 0, .int .i64 0, .bool false, .bool false] (some 12) (fun b => .pointer (some ⟨b, 0, none⟩)) (fun _ _ => by kernel_rfl)) (fun b1 => ?_) : RT _ _ _ _ _ _ 3 _)
    refine (stepR (z := 1) (storeS [(0, .int .i64 p.id), (1, .int .i64 p.par), (2, .int .i64 p.wt), (3, .int .i64 p.pass), (4, .bool p.thr), (5, .bool p.rdy)] [.int .i64 p.id, .int .i64 p.par, .int .i64 p.wt, .int .i64 p.pass, .bool p.thr, .bool p.rdy] (fun _ => by kernel_rfl) (by kernel_rfl) (by kernel_rfl)) (fun _ => ?_) : RT _ _ _ _ _ _ 2 _)
    refine (run0 (z := 0) 1 [12, 0, 1, 2, 3, 4, 10, 11, 13] [(12, .pointer (some ⟨b1, 0, none⟩)), (0, .pointer (some ⟨k, 0, none⟩)), (1, .int .i64 par), (2, .int .i64 wt), (3, .int .i64 most), (4, .bool thr), (10, .int .i64 0), (11, .nilIface), (13, .bool true)] (fun _ => by kernel_rfl) (endR ?_) : RT _ _ _ _ _ _ 1 _)
    refine seqR (by kernel_rfl) ?_
    refine blockR 0 (by kernel_rfl) (by kernel_rfl) ?_
    refine seqR (by kernel_rfl) ?_
    refine regionR 4 (by kernel_rfl) (by kernel_rfl) ?_
    refine (run0 (z := 3) 1 [12, 0, 1, 2, 3, 4, 10, 11, 13, 25] [(12, .pointer (some ⟨b1, 0, none⟩)), (0, .pointer (some ⟨k, 0, none⟩)), (1, .int .i64 par), (2, .int .i64 wt), (3, .int .i64 most), (4, .bool thr), (10, .int .i64 0), (11, .nilIface), (13, .bool true), (25, .int .i64 wt)] (fun _ => by kernel_rfl) ?_ : RT _ _ _ _ _ _ 4 _)
    refine (stepR (z := 2) (callS 44 [.int .i64 wt] (some 26) (fun _ => .bool (isW wt)) (fun (_ : Unit) => (blk b1 71 [.int .i64 p.id, .int .i64 p.par, .int .i64 p.wt, .int .i64 p.pass, .bool p.thr, .bool p.rdy] :: blk k 59 [.pointer (some ⟨t, 0, none⟩), .pointer (some ⟨m, 0, none⟩), .pointer (some ⟨o, 0, none⟩), .int .i64 s.mt, .int .i64 s.mg, .int .i64 s.nx] :: treeS t s.N :: tmS m s.tm :: obsS o s.ob :: H)) (fun _ => by kernel_rfl) (strIs_walk _ wt)) (fun _ => ?_) : RT _ _ _ _ _ _ 3 _)
    refine (run0 (z := 0) 2 [12, 0, 1, 2, 3, 4, 10, 11, 13, 24] [(12, .pointer (some ⟨b1, 0, none⟩)), (0, .pointer (some ⟨k, 0, none⟩)), (1, .int .i64 par), (2, .int .i64 wt), (3, .int .i64 most), (4, .bool thr), (10, .int .i64 0), (11, .nilIface), (13, .bool true), (24, .bool (!(isW wt)))] (fun _ => by kernel_rfl) (endR ?_) : RT _ _ _ _ _ _ 2 _)
    cases hw : (isW wt) with
    | true =>
      cases ht : (p.thr) with
      | true =>
        have e : kadds s par wt most thr = ((0, 13), s) := by rw [kadds, if_neg (by rw [hw]; simp), if_pos (by rw [hg]; simp [ht])]
        refine condR (b := false) (by kernel_rfl) (fun _ => by kernel_rfl) (fun h => by cases h) (fun _ => ?_)
        refine seqR (by kernel_rfl) ?_
        refine regionR 7 (by kernel_rfl) (by kernel_rfl) ?_
        refine (runR (H := (blk b1 71 [.int .i64 p.id, .int .i64 p.par, .int .i64 p.wt, .int .i64 p.pass, .bool true, .bool p.rdy] :: blk k 59 [.pointer (some ⟨t, 0, none⟩), .pointer (some ⟨m, 0, none⟩), .pointer (some ⟨o, 0, none⟩), .int .i64 s.mt, .int .i64 s.mg, .int .i64 s.nx] :: treeS t s.N :: tmS m s.tm :: obsS o s.ob :: H)) (z := 0) 7 [0, 1, 2, 3, 4, 10, 11, 29] [(0, .pointer (some ⟨k, 0, none⟩)), (1, .int .i64 par), (2, .int .i64 wt), (3, .int .i64 most), (4, .bool thr), (10, .int .i64 0), (11, .nilIface), (29, .bool true)] [(⟨b1, 4, none⟩, .bool true)] (hasC (blkAt (T := 71) (cs := [.int .i64 p.id, .int .i64 p.par, .int .i64 p.wt, .int .i64 p.pass, .bool true, .bool p.rdy]) 0 rfl rfl) has0) (fun _ => by kernel_rfl) (endR ?_) : RT _ _ _ _ _ _ 7 _)
        refine condR (b := true) (by kernel_rfl) (fun _ => by kernel_rfl) (fun _ => ?_) (fun h => by cases h)
        refine seqR (by kernel_rfl) ?_
        refine regionR 3 (by kernel_rfl) (by kernel_rfl) ?_
        refine (run0 (z := 0) 3 [0, 1, 2, 4, 10, 11] [(0, .pointer (some ⟨k, 0, none⟩)), (1, .int .i64 par), (2, .int .i64 wt), (4, .bool thr), (10, .int .i64 0), (11, .iface 40 (.int .i64 13))] (fun _ => by kernel_rfl) (endR ?_) : RT _ _ _ _ _ _ 3 _)
        refine retR (by kernel_rfl) ?_
        refine blockV ?_
        refine thenV ?_
        refine done0 (.tuple #[.int .i64 0, .iface 40 (.int .i64 13)]) (fun _ => by kernel_rfl) (fun w hs => ?_) .ret (.inr rfl)
        rw [e]; exact ⟨(), rfl, hs.tail⟩
      | false =>
        have h13 : ¬ ((gt s.N par).isNone ∨ ((gt s.N par).getD zeroN).thr = true) := by rw [hg]; simp [ht]
        refine condR (b := false) (by kernel_rfl) (fun _ => by kernel_rfl) (fun h => by cases h) (fun _ => ?_)
        refine seqR (by kernel_rfl) ?_
        refine regionR 7 (by kernel_rfl) (by kernel_rfl) ?_
        refine (runR (H := (blk b1 71 [.int .i64 p.id, .int .i64 p.par, .int .i64 p.wt, .int .i64 p.pass, .bool false, .bool p.rdy] :: blk k 59 [.pointer (some ⟨t, 0, none⟩), .pointer (some ⟨m, 0, none⟩), .pointer (some ⟨o, 0, none⟩), .int .i64 s.mt, .int .i64 s.mg, .int .i64 s.nx] :: treeS t s.N :: tmS m s.tm :: obsS o s.ob :: H)) (z := 0) 7 [0, 1, 2, 3, 4, 10, 11, 29] [(0, .pointer (some ⟨k, 0, none⟩)), (1, .int .i64 par), (2, .int .i64 wt), (3, .int .i64 most), (4, .bool thr), (10, .int .i64 0), (11, .nilIface), (29, .bool false)] [(⟨b1, 4, none⟩, .bool false)] (hasC (blkAt (T := 71) (cs := [.int .i64 p.id, .int .i64 p.par, .int .i64 p.wt, .int .i64 p.pass, .bool false, .bool p.rdy]) 0 rfl rfl) has0) (fun _ => by kernel_rfl) (endR ?_) : RT _ _ _ _ _ _ 7 _)
        refine condR (b := false) (by kernel_rfl) (fun _ => by kernel_rfl) (fun h => by cases h) (fun _ => ?_)
        refine seqR (by kernel_rfl) ?_
        refine regionR 6 (by kernel_rfl) (by kernel_rfl) ?_
        refine (run0 (z := 4) 2 [0, 1, 2, 3, 4, 10, 11, 38, 39] [(0, .pointer (some ⟨k, 0, none⟩)), (1, .int .i64 par), (2, .int .i64 wt), (3, .int .i64 most), (4, .bool thr), (10, .int .i64 0), (11, .nilIface), (38, .pointer (some ⟨k, 0, none⟩)), (39, .bool thr)] (fun _ => by kernel_rfl) ?_ : RT _ _ _ _ _ _ 6 _)
        refine PT.drop ?_
        refine (stepR (z := 3) (callS 45 [.pointer (some ⟨k, 0, none⟩), .bool thr] (some 40) (fun _ => .int .i64 (kcnt s.N thr)) (fun _ => (blk k 59 [.pointer (some ⟨t, 0, none⟩), .pointer (some ⟨m, 0, none⟩), .pointer (some ⟨o, 0, none⟩), .int .i64 s.mt, .int .i64 s.mg, .int .i64 s.nx] :: treeS t s.N :: tmS m s.tm :: obsS o s.ob :: H)) (fun _ => by kernel_rfl) (kcount_walk _ k t m o s hk hid thr)) (fun _ => ?_) : RT _ _ _ _ _ _ 4 _)
        refine (run0 (z := 0) 3 [0, 1, 2, 4, 10, 11, 37] [(0, .pointer (some ⟨k, 0, none⟩)), (1, .int .i64 par), (2, .int .i64 wt), (4, .bool thr), (10, .int .i64 0), (11, .nilIface), (37, .bool (decide ((kcnt s.N thr) ≥ most)))] (fun _ => by kernel_rfl) (endR ?_) : RT _ _ _ _ _ _ 3 _)
        refine condR (b := decide ((kcnt s.N thr) ≥ most)) (by kernel_rfl) (fun _ => by kernel_rfl) (fun h3 => ?_) (fun h3 => ?_)
        · skip
          have e : kadds s par wt most thr = ((0, 14), s) := by rw [kadds, if_neg (by rw [hw]; simp), if_neg h13, if_pos (of_decide_eq_true h3)]
          refine seqR (by kernel_rfl) ?_
          refine regionR 3 (by kernel_rfl) (by kernel_rfl) ?_
          refine (run0 (z := 0) 3 [0, 1, 2, 4, 10, 11] [(0, .pointer (some ⟨k, 0, none⟩)), (1, .int .i64 par), (2, .int .i64 wt), (4, .bool thr), (10, .int .i64 0), (11, .iface 40 (.int .i64 14))] (fun _ => by kernel_rfl) (endR ?_) : RT _ _ _ _ _ _ 3 _)
          refine retR (by kernel_rfl) ?_
          refine blockV ?_
          refine thenV ?_
          refine done0 (.tuple #[.int .i64 0, .iface 40 (.int .i64 14)]) (fun _ => by kernel_rfl) (fun w hs => ?_) .ret (.inr rfl)
          rw [e]; exact ⟨(), rfl, hs⟩
        · skip
          have h3' : ¬ kcnt s.N thr ≥ most := of_decide_eq_false h3
          refine PT.pick 0 rfl ?_
          refine PT.pick 1 rfl ?_
          refine skipR (by kernel_rfl) ?_
          refine seqR (by kernel_rfl) ?_
          refine seqR (by kernel_rfl) ?_
          refine drawR (fun w => Sat w (blk k 59 [.pointer (some ⟨t, 0, none⟩), .pointer (some ⟨m, 0, none⟩), .pointer (some ⟨o, 0, none⟩), .int .i64 s.mt, .int .i64 s.mg, .int .i64 s.nx] :: tmS m s.tm :: obsS o s.ob :: H)) [] 13 (by kernel_rfl) (by kernel_rfl) (by kernel_rfl) (fun _ h => by first | exact h | exact h.tail | exact h.tail.tail | exact h.tail.tail.tail | exact h.tail.tail.tail.tail) ?_
          refine takesR [0, 1, 2, 3, 4, 5, 6, 7, 8, 9, 10] [0, 10, 11, 47, 48, 52, 53, 54] 2 [true, true, true, true, true, true, true, true, true, true, true, false, false] [(0, .pointer (some ⟨k, 0, none⟩)), (10, .int .i64 0), (11, .nilIface), (47, .pointer (some ⟨t, 0, none⟩)), (48, .int .i64 par), (52, .int .i64 s.nx), (53, .int .i64 wt), (54, .bool thr)] [(⟨k, 0, none⟩, .pointer (some ⟨t, 0, none⟩)), (⟨k, 5, none⟩, .int .i64 s.nx)] rfl (fun _ d _ _ _ h => by cases d <;> exact h) (fun _ h => by first | exact h | exact h.tail | exact h.tail.tail | exact h.tail.tail.tail | exact h.tail.tail.tail.tail) (hasC (blkAt (T := 59) (cs := [.pointer (some ⟨t, 0, none⟩), .pointer (some ⟨m, 0, none⟩), .pointer (some ⟨o, 0, none⟩), .int .i64 s.mt, .int .i64 s.mg, .int .i64 s.nx]) 0 rfl rfl) (hasC (blkAt (T := 59) (cs := [.pointer (some ⟨t, 0, none⟩), .pointer (some ⟨m, 0, none⟩), .pointer (some ⟨o, 0, none⟩), .int .i64 s.mt, .int .i64 s.mg, .int .i64 s.nx]) 0 rfl rfl) has0)) (fun _ => by kernel_rfl) ?_
          refine oneR 11 1 [true, true, true, true, true, true, true, true, true, true, true, true, false] rfl rfl (by kernel_rfl) (callS 46 [.pointer (some ⟨t, 0, none⟩), .int .i64 par, .int .i64 s.nx, .int .i64 wt, .bool thr] (some 55) (fun _ => pqErr (addN s.N par s.nx wt thr).1) (fun _ => (treeS t (addN s.N par s.nx wt thr).2 :: blk k 59 [.pointer (some ⟨t, 0, none⟩), .pointer (some ⟨m, 0, none⟩), .pointer (some ⟨o, 0, none⟩), .int .i64 s.mt, .int .i64 s.mg, .int .i64 s.nx] :: tmS m s.tm :: obsS o s.ob :: H)) (fun _ => by kernel_rfl) (trAdd _ t s.N par s.nx wt thr)) (fun _ _ h hn => by first | exact h | exact h.tail | exact h.tail.tail | exact h.tail.tail.tail | exact h.tail.tail.tail.tail | exact absurd hn (by decide)) (fun _ => ?_)
          rcases Decidable.em ((addN s.N par s.nx wt thr).1 = 0) with h4 | h4
          · rw [pqErr_0 h4]
            have e : kadds s par wt most thr = ((s.nx, 0), { s with N := (addN s.N par s.nx wt thr).2, nx := s.nx + 1 }) := by rw [kadds, if_neg (by rw [hw]; simp), if_neg h13, if_neg h3', if_neg (by rw [h4]; simp)]
            refine takesR [12] [0, 10, 11, 14] 0 [true, true, true, true, true, true, true, true, true, true, true, true, true] [(0, .pointer (some ⟨k, 0, none⟩)), (10, .int .i64 0), (11, .nilIface), (14, .nilIface)] [] rfl (fun _ d _ _ _ h => by cases d <;> exact h) (fun _ h => by first | exact h | exact h.tail | exact h.tail.tail | exact h.tail.tail.tail | exact h.tail.tail.tail.tail) has0 (fun _ => by kernel_rfl) ?_
            refine drawnR (by kernel_rfl) ?_
            refine seqR (by kernel_rfl) ?_
            refine regionR 2 (by kernel_rfl) (by kernel_rfl) ?_
            refine (run0 (z := 0) 2 [0, 10, 11, 14, 57] [(0, .pointer (some ⟨k, 0, none⟩)), (10, .int .i64 0), (11, .nilIface), (14, .nilIface), (57, .bool false)] (fun _ => by kernel_rfl) (endR ?_) : RT _ _ _ _ _ _ 2 _)
            refine condR (b := false) (by kernel_rfl) (fun _ => by kernel_rfl) (fun h => by cases h) (fun _ => ?_)
            refine skipR (by kernel_rfl) ?_
            refine seqR (by kernel_rfl) ?_
            refine regionR 8 (by kernel_rfl) (by kernel_rfl) ?_
            refine (runR (H := (treeS t (addN s.N par s.nx wt thr).2 :: blk k 59 [.pointer (some ⟨t, 0, none⟩), .pointer (some ⟨m, 0, none⟩), .pointer (some ⟨o, 0, none⟩), .int .i64 s.mt, .int .i64 s.mg, .int .i64 s.nx] :: tmS m s.tm :: obsS o s.ob :: H)) (z := 1) 7 [0, 10, 11, 63, 65] [(0, .pointer (some ⟨k, 0, none⟩)), (10, .int .i64 0), (11, .nilIface), (63, .int .i64 (IntKind.i64.wrap (s.nx + 1))), (65, .pointer (some ⟨k, 5, none⟩))] [(⟨k, 5, none⟩, .int .i64 s.nx)] (hasC (blkAt (T := 59) (cs := [.pointer (some ⟨t, 0, none⟩), .pointer (some ⟨m, 0, none⟩), .pointer (some ⟨o, 0, none⟩), .int .i64 s.mt, .int .i64 s.mg, .int .i64 s.nx]) 1 rfl rfl) has0) (fun _ => by kernel_rfl) ?_ : RT _ _ _ _ _ _ 8 _)
            refine (RT.pick 1 rfl ?_ : RT _ _ _ (treeS t (addN s.N par s.nx wt thr).2 :: blk k 59 [.pointer (some ⟨t, 0, none⟩), .pointer (some ⟨m, 0, none⟩), .pointer (some ⟨o, 0, none⟩), .int .i64 s.mt, .int .i64 s.mg, .int .i64 s.nx] :: tmS m s.tm :: obsS o s.ob :: H) _ _ 1 _)
            refine (stepR (z := 0) (storeS [(5, .int .i64 (IntKind.i64.wrap (s.nx + 1)))] [.pointer (some ⟨t, 0, none⟩), .pointer (some ⟨m, 0, none⟩), .pointer (some ⟨o, 0, none⟩), .int .i64 s.mt, .int .i64 s.mg, .int .i64 (IntKind.i64.wrap (s.nx + 1))] (fun _ => by kernel_rfl) (by kernel_rfl) (by kernel_rfl)) (fun _ => ?_) : RT _ _ _ _ _ _ 1 _)
            refine endR ?_
            refine seqR (by kernel_rfl) ?_
            refine regionR 7 (by kernel_rfl) (by kernel_rfl) ?_
            refine (runR (H := (blk k 59 [.pointer (some ⟨t, 0, none⟩), .pointer (some ⟨m, 0, none⟩), .pointer (some ⟨o, 0, none⟩), .int .i64 s.mt, .int .i64 s.mg, .int .i64 (IntKind.i64.wrap (s.nx + 1))] :: treeS t (addN s.N par s.nx wt thr).2 :: tmS m s.tm :: obsS o s.ob :: H)) (z := 0) 7 [10, 11] [(10, .int .i64 (IntKind.i64.wrap ((IntKind.i64.wrap (s.nx + 1)) - 1))), (11, .nilIface)] [(⟨k, 5, none⟩, .int .i64 (IntKind.i64.wrap (s.nx + 1)))] (hasC (blkAt (T := 59) (cs := [.pointer (some ⟨t, 0, none⟩), .pointer (some ⟨m, 0, none⟩), .pointer (some ⟨o, 0, none⟩), .int .i64 s.mt, .int .i64 s.mg, .int .i64 (IntKind.i64.wrap (s.nx + 1))]) 0 rfl rfl) has0) (fun _ => by kernel_rfl) (endR ?_) : RT _ _ _ _ _ _ 7 _)
            refine retR (by kernel_rfl) ?_
            rw [show IntKind.i64.wrap (s.nx + 1) = (s.nx + 1) by rw [w64 (by omega) (by omega)]]
            rw [show IntKind.i64.wrap ((s.nx + 1) - 1) = ((s.nx + 1) - 1) by rw [w64 (by omega) (by omega)]]
            refine done0 (.tuple #[.int .i64 ((s.nx + 1) - 1), .nilIface]) (fun _ => by kernel_rfl) (fun w hs => ?_) .normal (.inl rfl)
            rw [e]; exact ⟨(), by simp only; rw [show s.nx + 1 - 1 = s.nx by omega]; rfl, hs⟩
          · rw [pqErr_n h4]
            have e : kadds s par wt most thr = ((0, (addN s.N par s.nx wt thr).1), s) := by rw [kadds, if_neg (by rw [hw]; simp), if_neg h13, if_neg h3', if_pos h4]
            have hN : (addN s.N par s.nx wt thr).2 = s.N := by rcases add_cases s.N par s.nx wt thr with ⟨e, _, h5⟩ | ⟨p, _, _, h5⟩; rw [h5]; rw [h5] at h4; exact absurd rfl h4
            refine takesR [12] [0, 10, 11, 14] 0 [true, true, true, true, true, true, true, true, true, true, true, true, true] [(0, .pointer (some ⟨k, 0, none⟩)), (10, .int .i64 0), (11, .nilIface), (14, .iface 40 (.int .i64 ((addN s.N par s.nx wt thr).1)))] [] rfl (fun _ d _ _ _ h => by cases d <;> exact h) (fun _ h => by first | exact h | exact h.tail | exact h.tail.tail | exact h.tail.tail.tail | exact h.tail.tail.tail.tail) has0 (fun _ => by kernel_rfl) ?_
            refine drawnR (by kernel_rfl) ?_
            refine seqR (by kernel_rfl) ?_
            refine regionR 2 (by kernel_rfl) (by kernel_rfl) ?_
            refine (run0 (z := 0) 2 [0, 10, 11, 14, 57] [(0, .pointer (some ⟨k, 0, none⟩)), (10, .int .i64 0), (11, .nilIface), (14, .iface 40 (.int .i64 ((addN s.N par s.nx wt thr).1))), (57, .bool true)] (fun _ => by kernel_rfl) (endR ?_) : RT _ _ _ _ _ _ 2 _)
            refine condR (b := true) (by kernel_rfl) (fun _ => by kernel_rfl) (fun _ => ?_) (fun h => by cases h)
            refine seqR (by kernel_rfl) ?_
            refine regionR 3 (by kernel_rfl) (by kernel_rfl) ?_
            refine (run0 (z := 0) 3 [0, 10, 11] [(0, .pointer (some ⟨k, 0, none⟩)), (10, .int .i64 0), (11, .iface 40 (.int .i64 ((addN s.N par s.nx wt thr).1)))] (fun _ => by kernel_rfl) (endR ?_) : RT _ _ _ _ _ _ 3 _)
            refine retR (by kernel_rfl) ?_
            refine thenV ?_
            refine done0 (.tuple #[.int .i64 0, .iface 40 (.int .i64 ((addN s.N par s.nx wt thr).1))]) (fun _ => by kernel_rfl) (fun w hs => ?_) .ret (.inr rfl)
            rw [e]; exact ⟨(), by simp only; rw [pqErr_n h4], by simp only; rw [hN] at hs; exact SatF.swap hs⟩
    | false =>
      have e : kadds s par wt most thr = ((0, 10), s) := by rw [kadds, if_pos hw]
      refine condR (b := true) (by kernel_rfl) (fun _ => by kernel_rfl) (fun _ => ?_) (fun h => by cases h)
      refine seqR (by kernel_rfl) ?_
      refine regionR 3 (by kernel_rfl) (by kernel_rfl) ?_
      refine (run0 (z := 0) 3 [0, 1, 2, 4, 10, 11] [(0, .pointer (some ⟨k, 0, none⟩)), (1, .int .i64 par), (2, .int .i64 wt), (4, .bool thr), (10, .int .i64 0), (11, .iface 40 (.int .i64 10))] (fun _ => by kernel_rfl) (endR ?_) : RT _ _ _ _ _ _ 3 _)
      refine retR (by kernel_rfl) ?_
      refine blockV ?_
      refine thenV ?_
      refine done0 (.tuple #[.int .i64 0, .iface 40 (.int .i64 10)]) (fun _ => by kernel_rfl) (fun w hs => ?_) .ret (.inr rfl)
      rw [e]; exact ⟨(), rfl, hs.tail⟩
end Go.Proofs.YtlhjibkkkhgonaaGreat
set_option linter.unusedVariables false
set_option linter.unusedSimpArgs false
namespace Go.Proofs.YtlhjibkkkhgonaaGreat
open Go.RowKit G
set_option maxRecDepth 100000 in
theorem kgroup_walk (H : List SP) (k t m o : Nat) (s : KS) (hk : KOk s) (hid : s.nx ≤ 1099511627776) (par wt : Int) : ∀ w, Sat w (blk k 59 [.pointer (some ⟨t, 0, none⟩), .pointer (some ⟨m, 0, none⟩), .pointer (some ⟨o, 0, none⟩), .int .i64 s.mt, .int .i64 s.mg, .int .i64 s.nx] :: treeS t s.N :: tmS m s.tm :: obsS o s.ob :: H) → Calls Tryz.prog 13 #[.pointer (some ⟨k, 0, none⟩), .int .i64 par, .int .i64 wt] w (Ret (ι := Unit) (fun _ => .tuple #[.int .i64 (kgroup s par wt).1.1, pqErr (kgroup s par wt).1.2]) fun _ => blk k 59 [.pointer (some ⟨t, 0, none⟩), .pointer (some ⟨m, 0, none⟩), .pointer (some ⟨o, 0, none⟩), .int .i64 (kgroup s par wt).2.mt, .int .i64 (kgroup s par wt).2.mg, .int .i64 (kgroup s par wt).2.nx] :: treeS t (kgroup s par wt).2.N :: tmS m (kgroup s par wt).2.tm :: obsS o (kgroup s par wt).2.ob :: H) := by
  refine enterG (fn := Tryz.f13) 18 [.pointer (some ⟨k, 0, none⟩), .int .i64 par, .int .i64 wt] Tryz.func13 (by kernel_rfl) (by kernel_rfl) (by kernel_rfl) ?_
  refine seqR (by kernel_rfl) ?_
  refine regionR 2 (by kernel_rfl) (by kernel_rfl) ?_
  refine (run0 (z := 0) 2 [0, 1, 2, 6, 7] [(0, .pointer (some ⟨k, 0, none⟩)), (1, .int .i64 par), (2, .int .i64 wt), (6, .int .i64 0), (7, .nilIface)] (fun _ => by kernel_rfl) (endR ?_) : RT _ _ _ _ _ _ 2 _)
  refine seqR (by kernel_rfl) ?_
  refine regionR 12 (by kernel_rfl) (by kernel_rfl) ?_
  refine (runR (H := (blk k 59 [.pointer (some ⟨t, 0, none⟩), .pointer (some ⟨m, 0, none⟩), .pointer (some ⟨o, 0, none⟩), .int .i64 s.mt, .int .i64 s.mg, .int .i64 s.nx] :: treeS t s.N :: tmS m s.tm :: obsS o s.ob :: H)) (z := 5) 7 [6, 7, 8, 9, 10, 14] [(6, .int .i64 0), (7, .nilIface), (8, .pointer (some ⟨k, 0, none⟩)), (9, .int .i64 par), (10, .int .i64 wt), (14, .int .i64 s.mg)] [(⟨k, 4, none⟩, .int .i64 s.mg)] (hasC (blkAt (T := 59) (cs := [.pointer (some ⟨t, 0, none⟩), .pointer (some ⟨m, 0, none⟩), .pointer (some ⟨o, 0, none⟩), .int .i64 s.mt, .int .i64 s.mg, .int .i64 s.nx]) 0 rfl rfl) has0) (fun _ => by kernel_rfl) ?_ : RT _ _ _ _ _ _ 12 _)
  refine (stepR (z := 4) (callS 28 [.pointer (some ⟨k, 0, none⟩), .int .i64 par, .int .i64 wt, .int .i64 s.mg, .bool false] (some 15) (fun _ => .tuple #[.int .i64 (kadds s par wt s.mg false).1.1, pqErr (kadds s par wt s.mg false).1.2]) (fun _ => blk k 59 [.pointer (some ⟨t, 0, none⟩), .pointer (some ⟨m, 0, none⟩), .pointer (some ⟨o, 0, none⟩), .int .i64 (kadds s par wt s.mg false).2.mt, .int .i64 (kadds s par wt s.mg false).2.mg, .int .i64 (kadds s par wt s.mg false).2.nx] :: treeS t (kadds s par wt s.mg false).2.N :: tmS m (kadds s par wt s.mg false).2.tm :: obsS o (kadds s par wt s.mg false).2.ob :: H) (fun _ => by kernel_rfl) (kadds_walk _ k t m o s hk hid par wt s.mg false)) (fun _ => ?_) : RT _ _ _ _ _ _ 5 _)
  refine (run0 (z := 0) 4 [6, 7] [(6, .int .i64 ((kadds s par wt s.mg false).1.1)), (7, pqErr (kadds s par wt s.mg false).1.2)] (fun _ => by kernel_rfl) (endR ?_) : RT _ _ _ _ _ _ 4 _)
  refine retR (by kernel_rfl) ?_
  refine done0 (.tuple #[.int .i64 ((kadds s par wt s.mg false).1.1), pqErr (kadds s par wt s.mg false).1.2]) (fun _ => by kernel_rfl) (fun w hs => ?_) .ret (.inr rfl)
  exact ⟨(), rfl, hs⟩
set_option maxRecDepth 100000 in
theorem kspawn_walk (H : List SP) (k t m o : Nat) (s : KS) (hk : KOk s) (hid : s.nx ≤ 1099511627776) (par wt : Int) : ∀ w, Sat w (blk k 59 [.pointer (some ⟨t, 0, none⟩), .pointer (some ⟨m, 0, none⟩), .pointer (some ⟨o, 0, none⟩), .int .i64 s.mt, .int .i64 s.mg, .int .i64 s.nx] :: treeS t s.N :: tmS m s.tm :: obsS o s.ob :: H) → Calls Tryz.prog 12 #[.pointer (some ⟨k, 0, none⟩), .int .i64 par, .int .i64 wt] w (Ret (ι := Unit) (fun _ => .tuple #[.int .i64 (kspawn s par wt).1.1, pqErr (kspawn s par wt).1.2]) fun _ => blk k 59 [.pointer (some ⟨t, 0, none⟩), .pointer (some ⟨m, 0, none⟩), .pointer (some ⟨o, 0, none⟩), .int .i64 (kspawn s par wt).2.mt, .int .i64 (kspawn s par wt).2.mg, .int .i64 (kspawn s par wt).2.nx] :: treeS t (kspawn s par wt).2.N :: tmS m (kspawn s par wt).2.tm :: obsS o (kspawn s par wt).2.ob :: H) := by
  refine enterG (fn := Tryz.f12) 31 [.pointer (some ⟨k, 0, none⟩), .int .i64 par, .int .i64 wt] Tryz.func12 (by kernel_rfl) (by kernel_rfl) (by kernel_rfl) ?_
  refine seqR (by kernel_rfl) ?_
  refine regionR 2 (by kernel_rfl) (by kernel_rfl) ?_
  refine (run0 (z := 0) 2 [0, 1, 2, 6, 7] [(0, .pointer (some ⟨k, 0, none⟩)), (1, .int .i64 par), (2, .int .i64 wt), (6, .int .i64 0), (7, .nilIface)] (fun _ => by kernel_rfl) (endR ?_) : RT _ _ _ _ _ _ 2 _)
  refine seqR (by kernel_rfl) ?_
  refine regionR 13 (by kernel_rfl) (by kernel_rfl) ?_
  refine (runR (H := (blk k 59 [.pointer (some ⟨t, 0, none⟩), .pointer (some ⟨m, 0, none⟩), .pointer (some ⟨o, 0, none⟩), .int .i64 s.mt, .int .i64 s.mg, .int .i64 s.nx] :: treeS t s.N :: tmS m s.tm :: obsS o s.ob :: H)) (z := 6) 7 [0, 6, 7, 11, 12, 13, 17] [(0, .pointer (some ⟨k, 0, none⟩)), (6, .int .i64 0), (7, .nilIface), (11, .pointer (some ⟨k, 0, none⟩)), (12, .int .i64 par), (13, .int .i64 wt), (17, .int .i64 s.mt)] [(⟨k, 3, none⟩, .int .i64 s.mt)] (hasC (blkAt (T := 59) (cs := [.pointer (some ⟨t, 0, none⟩), .pointer (some ⟨m, 0, none⟩), .pointer (some ⟨o, 0, none⟩), .int .i64 s.mt, .int .i64 s.mg, .int .i64 s.nx]) 0 rfl rfl) has0) (fun _ => by kernel_rfl) ?_ : RT _ _ _ _ _ _ 13 _)
  refine (stepR (z := 5) (callS 28 [.pointer (some ⟨k, 0, none⟩), .int .i64 par, .int .i64 wt, .int .i64 s.mt, .bool true] (some 18) (fun _ => .tuple #[.int .i64 (kadds s par wt s.mt true).1.1, pqErr (kadds s par wt s.mt true).1.2]) (fun _ => blk k 59 [.pointer (some ⟨t, 0, none⟩), .pointer (some ⟨m, 0, none⟩), .pointer (some ⟨o, 0, none⟩), .int .i64 (kadds s par wt s.mt true).2.mt, .int .i64 (kadds s par wt s.mt true).2.mg, .int .i64 (kadds s par wt s.mt true).2.nx] :: treeS t (kadds s par wt s.mt true).2.N :: tmS m (kadds s par wt s.mt true).2.tm :: obsS o (kadds s par wt s.mt true).2.ob :: H) (fun _ => by kernel_rfl) (kadds_walk _ k t m o s hk hid par wt s.mt true)) (fun _ => ?_) : RT _ _ _ _ _ _ 6 _)
  rcases Decidable.em ((kadds s par wt s.mt true).1.2 = 0) with h4 | h4
  · rw [pqErr_0 h4]
    have e : kspawn s par wt = (((kadds s par wt s.mt true).1.1, (readyN (kadds s par wt s.mt true).2.N (kadds s par wt s.mt true).1.1 true).1), { (kadds s par wt s.mt true).2 with N := (readyN (kadds s par wt s.mt true).2.N (kadds s par wt s.mt true).1.1 true).2 }) := by rw [kspawn, if_neg (by rw [h4]; simp)]
    refine (run0 (z := 0) 5 [0, 6, 7, 8, 9] [(0, .pointer (some ⟨k, 0, none⟩)), (6, .int .i64 0), (7, .nilIface), (8, .int .i64 ((kadds s par wt s.mt true).1.1)), (9, .nilIface)] (fun _ => by kernel_rfl) (endR ?_) : RT _ _ _ _ _ _ 5 _)
    refine seqR (by kernel_rfl) ?_
    refine seqR (by kernel_rfl) ?_
    refine regionR 2 (by kernel_rfl) (by kernel_rfl) ?_
    refine (run0 (z := 0) 2 [0, 6, 7, 8, 9, 22] [(0, .pointer (some ⟨k, 0, none⟩)), (6, .int .i64 0), (7, .nilIface), (8, .int .i64 ((kadds s par wt s.mt true).1.1)), (9, .nilIface), (22, .bool false)] (fun _ => by kernel_rfl) (endR ?_) : RT _ _ _ _ _ _ 2 _)
    refine condR (b := false) (by kernel_rfl) (fun _ => by kernel_rfl) (fun h => by cases h) (fun _ => ?_)
    refine skipR (by kernel_rfl) ?_
    refine seqR (by kernel_rfl) ?_
    refine regionR 9 (by kernel_rfl) (by kernel_rfl) ?_
    refine (runR (H := (blk k 59 [.pointer (some ⟨t, 0, none⟩), .pointer (some ⟨m, 0, none⟩), .pointer (some ⟨o, 0, none⟩), .int .i64 ((kadds s par wt s.mt true).2.mt), .int .i64 ((kadds s par wt s.mt true).2.mg), .int .i64 ((kadds s par wt s.mt true).2.nx)] :: treeS t (kadds s par wt s.mt true).2.N :: tmS m (kadds s par wt s.mt true).2.tm :: obsS o (kadds s par wt s.mt true).2.ob :: H)) (z := 3) 6 [6, 7, 24, 28, 29] [(6, .int .i64 0), (7, .nilIface), (24, .int .i64 ((kadds s par wt s.mt true).1.1)), (28, .pointer (some ⟨t, 0, none⟩)), (29, .int .i64 ((kadds s par wt s.mt true).1.1))] [(⟨k, 0, none⟩, .pointer (some ⟨t, 0, none⟩))] (hasC (blkAt (T := 59) (cs := [.pointer (some ⟨t, 0, none⟩), .pointer (some ⟨m, 0, none⟩), .pointer (some ⟨o, 0, none⟩), .int .i64 ((kadds s par wt s.mt true).2.mt), .int .i64 ((kadds s par wt s.mt true).2.mg), .int .i64 ((kadds s par wt s.mt true).2.nx)]) 0 rfl rfl) has0) (fun _ => by kernel_rfl) ?_ : RT _ _ _ _ _ _ 9 _)
    refine (stepR (z := 2) (callS 29 [.pointer (some ⟨t, 0, none⟩), .int .i64 ((kadds s par wt s.mt true).1.1), .bool true] (some 30) (fun _ => pqErr (readyN (kadds s par wt s.mt true).2.N (kadds s par wt s.mt true).1.1 true).1) (fun _ => (blk k 59 [.pointer (some ⟨t, 0, none⟩), .pointer (some ⟨m, 0, none⟩), .pointer (some ⟨o, 0, none⟩), .int .i64 ((kadds s par wt s.mt true).2.mt), .int .i64 ((kadds s par wt s.mt true).2.mg), .int .i64 ((kadds s par wt s.mt true).2.nx)] :: treeS t (readyN (kadds s par wt s.mt true).2.N (kadds s par wt s.mt true).1.1 true).2 :: tmS m (kadds s par wt s.mt true).2.tm :: obsS o (kadds s par wt s.mt true).2.ob :: H)) (fun _ => by kernel_rfl) (chg_at (H := (blk k 59 [.pointer (some ⟨t, 0, none⟩), .pointer (some ⟨m, 0, none⟩), .pointer (some ⟨o, 0, none⟩), .int .i64 ((kadds s par wt s.mt true).2.mt), .int .i64 ((kadds s par wt s.mt true).2.mg), .int .i64 ((kadds s par wt s.mt true).2.nx)] :: treeS t (kadds s par wt s.mt true).2.N :: tmS m (kadds s par wt s.mt true).2.tm :: obsS o (kadds s par wt s.mt true).2.ob :: H)) 1 rfl (trReady _ t (kadds s par wt s.mt true).2.N (kadds s par wt s.mt true).1.1 true))) (fun _ => ?_) : RT _ _ _ _ _ _ 3 _)
    refine (run0 (z := 0) 2 [6, 7] [(6, .int .i64 ((kadds s par wt s.mt true).1.1)), (7, pqErr (readyN (kadds s par wt s.mt true).2.N (kadds s par wt s.mt true).1.1 true).1)] (fun _ => by kernel_rfl) (endR ?_) : RT _ _ _ _ _ _ 2 _)
    refine retR (by kernel_rfl) ?_
    refine done0 (.tuple #[.int .i64 ((kadds s par wt s.mt true).1.1), pqErr (readyN (kadds s par wt s.mt true).2.N (kadds s par wt s.mt true).1.1 true).1]) (fun _ => by kernel_rfl) (fun w hs => ?_) .ret (.inr rfl)
    rw [e]; exact ⟨(), rfl, hs⟩
  · rw [pqErr_n h4]
    have e : kspawn s par wt = ((0, (kadds s par wt s.mt true).1.2), (kadds s par wt s.mt true).2) := by rw [kspawn, if_pos h4]
    refine (run0 (z := 0) 5 [0, 6, 7, 8, 9] [(0, .pointer (some ⟨k, 0, none⟩)), (6, .int .i64 0), (7, .nilIface), (8, .int .i64 ((kadds s par wt s.mt true).1.1)), (9, .iface 40 (.int .i64 ((kadds s par wt s.mt true).1.2)))] (fun _ => by kernel_rfl) (endR ?_) : RT _ _ _ _ _ _ 5 _)
    refine seqR (by kernel_rfl) ?_
    refine seqR (by kernel_rfl) ?_
    refine regionR 2 (by kernel_rfl) (by kernel_rfl) ?_
    refine (run0 (z := 0) 2 [0, 6, 7, 8, 9, 22] [(0, .pointer (some ⟨k, 0, none⟩)), (6, .int .i64 0), (7, .nilIface), (8, .int .i64 ((kadds s par wt s.mt true).1.1)), (9, .iface 40 (.int .i64 ((kadds s par wt s.mt true).1.2))), (22, .bool true)] (fun _ => by kernel_rfl) (endR ?_) : RT _ _ _ _ _ _ 2 _)
    refine condR (b := true) (by kernel_rfl) (fun _ => by kernel_rfl) (fun _ => ?_) (fun h => by cases h)
    refine seqR (by kernel_rfl) ?_
    refine regionR 3 (by kernel_rfl) (by kernel_rfl) ?_
    refine (run0 (z := 0) 3 [0, 6, 7, 8] [(0, .pointer (some ⟨k, 0, none⟩)), (6, .int .i64 0), (7, .iface 40 (.int .i64 ((kadds s par wt s.mt true).1.2))), (8, .int .i64 ((kadds s par wt s.mt true).1.1))] (fun _ => by kernel_rfl) (endR ?_) : RT _ _ _ _ _ _ 3 _)
    refine retR (by kernel_rfl) ?_
    refine thenV ?_
    refine done0 (.tuple #[.int .i64 0, .iface 40 (.int .i64 ((kadds s par wt s.mt true).1.2))]) (fun _ => by kernel_rfl) (fun w hs => ?_) .ret (.inr rfl)
    rw [e]; exact ⟨(), by simp only; rw [pqErr_n h4], hs⟩
end Go.Proofs.YtlhjibkkkhgonaaGreat
set_option linter.unusedVariables false
set_option linter.unusedSimpArgs false
namespace Go.Proofs.YtlhjibkkkhgonaaGreat
open Go.RowKit G
def kn01 : List Nr := [⟨0, -1, 1, 0, false, true, 0⟩, ⟨1, 0, 1, 0, true, true, 0⟩]
def mtOf (a : Int) : Int := mnI (mxI a 1) 8
def mgOf (a : Int) : Int := mnI (mxI a 0) 4
theorem mtOf_in (a : Int) : 1 ≤ mtOf a ∧ mtOf a ≤ 8 := by unfold mtOf mnI mxI; repeat' split <;> omega
theorem mgOf_in (a : Int) : 0 ≤ mgOf a ∧ mgOf a ≤ 4 := by unfold mgOf mnI mxI; repeat' split <;> omega
theorem k00_adds {mt mg : Int} (h : 1 ≤ mt) : kadds ⟨[rootN], [], ob0, mt, mg, 1⟩ 0 1 mt true = ((1, 0), ⟨[rootN, ⟨1, 0, 1, 0, true, false, 0⟩], [], ob0, mt, mg, 2⟩) := by
  have h1 : kcnt [rootN] true = 0 := by decide
  have h2 : addN [rootN] 0 1 1 true = (0, [rootN, ⟨1, 0, 1, 0, true, false, 0⟩]) := by rfl
  have h3 : gt [rootN] 0 = some rootN := by rfl
  rw [kadds, if_neg (by decide), if_neg (by simp only [h3]; decide), if_neg (by simp only [h1]; omega), if_neg (by simp only [h2]; decide)]
  simp only [h2]; rfl
theorem k00_spawn {mt mg : Int} (h : 1 ≤ mt) : kspawn ⟨[rootN], [], ob0, mt, mg, 1⟩ 0 1 = ((1, 0), ⟨kn01, [], ob0, mt, mg, 2⟩) := by
  have h1 := k00_adds (mt := mt) (mg := mg) h
  have h2 : readyN [rootN, ⟨1, 0, 1, 0, true, false, 0⟩] 1 true = (0, kn01) := by rfl
  unfold kspawn
  simp only [h1]
  rw [if_neg (by decide)]
  simp only [h2]
theorem k0_is {mt mg : Int} (h : 1 ≤ mt) : k0 mt mg = ⟨kn01, [], ob0, mt, mg, 2⟩ := congrArg Prod.snd (k00_spawn h)
set_option maxHeartbeats 1000000 in
set_option maxRecDepth 100000 in
theorem knew_walk (H : List SP) (th gr : Int) : ∀ w, Sat w H → Calls Tryz.prog 11 #[.int .i64 th, .int .i64 gr] w (Ret (ι := Nat) (fun k => .pointer (some ⟨k, 0, none⟩)) fun k => kerS k (k0 (mtOf th) (mgOf gr)) :: H) := by
  have hm := mtOf_in th
  have hg := mgOf_in gr
  have hsp := k00_spawn (mt := mtOf th) (mg := mgOf gr) hm.1
  have hk := k00_ok hm hg
  refine enterG (fn := Tryz.f11) 27 [.int .i64 th, .int .i64 gr] Tryz.func11 (by kernel_rfl) (by kernel_rfl) (by kernel_rfl) ?_
  refine seqR (by kernel_rfl) ?_
  refine regionR 1 (by kernel_rfl) (by kernel_rfl) ?_
  refine (run0 (z := 0) 1 [0, 1, 4] [(0, .int .i64 th), (1, .int .i64 gr), (4, .pointer none)] (fun _ => by kernel_rfl) (endR ?_) : RT _ _ _ _ _ _ 1 _)
  refine seqR (by kernel_rfl) ?_
  refine regionR 12 (by kernel_rfl) (by kernel_rfl) ?_
  refine (stepR (z := 11) (callS 25 [] (some 8) (fun (t : Nat) => .pointer (some ⟨t, 0, none⟩)) (fun (t : Nat) => (treeS t [rootN] :: H)) (fun _ => by kernel_rfl) (trNew _)) (fun (t : Nat) => ?_) : RT _ _ _ _ _ _ 12 _)
  refine (stepR (z := 10) (callS 26 [] (some 9) (fun (m : Nat) => .pointer (some ⟨m, 0, none⟩)) (fun (m : Nat) => (tmS m [] :: treeS t [rootN] :: H)) (fun _ => by kernel_rfl) (tmgNew _)) (fun (m : Nat) => ?_) : RT _ _ _ _ _ _ 11 _)
  refine (stepR (z := 9) (callS 27 [] (some 10) (fun (o : Nat) => .pointer (some ⟨o, 0, none⟩)) (fun (o : Nat) => (obsS o ob0 :: tmS m [] :: treeS t [rootN] :: H)) (fun _ => by kernel_rfl) (obgNew _)) (fun (o : Nat) => ?_) : RT _ _ _ _ _ _ 10 _)
  refine (run0 (z := 2) 7 [4, 17] [(4, .pointer none), (17, .agg #[.pointer (some ⟨t, 0, none⟩), .pointer (some ⟨m, 0, none⟩), .pointer (some ⟨o, 0, none⟩), .int .i64 (mnI (mxI th 1) 8), .int .i64 (mnI (mxI gr 0) 4), .int .i64 1])] (fun _ => by kernel_rfl) ?_ : RT _ _ _ _ _ _ 9 _)
  refine (stepR (z := 1) (newS 59 [.pointer (some ⟨t, 0, none⟩), .pointer (some ⟨m, 0, none⟩), .pointer (some ⟨o, 0, none⟩), .int .i64 (mnI (mxI th 1) 8), .int .i64 (mnI (mxI gr 0) 4), .int .i64 1] (some 18) (fun b => .pointer (some ⟨b, 0, none⟩)) (fun _ _ => by kernel_rfl)) (fun b1 => ?_) : RT _ _ _ _ _ _ 2 _)
  refine (run0 (z := 0) 1 [4, 5] [(4, .pointer none), (5, .pointer (some ⟨b1, 0, none⟩))] (fun _ => by kernel_rfl) (endR ?_) : RT _ _ _ _ _ _ 1 _)
  refine seqR (by kernel_rfl) ?_
  refine seqR (by kernel_rfl) ?_
  refine regionR 7 (by kernel_rfl) (by kernel_rfl) ?_
  refine (run0 (z := 6) 1 [4, 5, 20] [(4, .pointer none), (5, .pointer (some ⟨b1, 0, none⟩)), (20, .pointer (some ⟨b1, 0, none⟩))] (fun _ => by kernel_rfl) ?_ : RT _ _ _ _ _ _ 7 _)
  refine (RT.pick 1 rfl ?_ : RT _ _ _ (blk b1 59 [.pointer (some ⟨t, 0, none⟩), .pointer (some ⟨m, 0, none⟩), .pointer (some ⟨o, 0, none⟩), .int .i64 (mnI (mxI th 1) 8), .int .i64 (mnI (mxI gr 0) 4), .int .i64 1] :: obsS o ob0 :: tmS m [] :: treeS t [rootN] :: H) _ _ 6 _)
  refine (RT.pick 2 rfl ?_ : RT _ _ _ (obsS o ob0 :: blk b1 59 [.pointer (some ⟨t, 0, none⟩), .pointer (some ⟨m, 0, none⟩), .pointer (some ⟨o, 0, none⟩), .int .i64 (mnI (mxI th 1) 8), .int .i64 (mnI (mxI gr 0) 4), .int .i64 1] :: tmS m [] :: treeS t [rootN] :: H) _ _ 6 _)
  refine (RT.pick 3 rfl ?_ : RT _ _ _ (tmS m [] :: obsS o ob0 :: blk b1 59 [.pointer (some ⟨t, 0, none⟩), .pointer (some ⟨m, 0, none⟩), .pointer (some ⟨o, 0, none⟩), .int .i64 (mnI (mxI th 1) 8), .int .i64 (mnI (mxI gr 0) 4), .int .i64 1] :: treeS t [rootN] :: H) _ _ 6 _)
  refine (RT.pick 3 rfl ?_ : RT _ _ _ (treeS t [rootN] :: tmS m [] :: obsS o ob0 :: blk b1 59 [.pointer (some ⟨t, 0, none⟩), .pointer (some ⟨m, 0, none⟩), .pointer (some ⟨o, 0, none⟩), .int .i64 (mnI (mxI th 1) 8), .int .i64 (mnI (mxI gr 0) 4), .int .i64 1] :: H) _ _ 6 _)
  refine (stepR (z := 5) (callS 12 [.pointer (some ⟨b1, 0, none⟩), .int .i64 0, .int .i64 1] (some 21) (fun _ => .tuple #[.int .i64 1, .nilIface]) (fun _ => blk b1 59 [.pointer (some ⟨t, 0, none⟩), .pointer (some ⟨m, 0, none⟩), .pointer (some ⟨o, 0, none⟩), .int .i64 (mtOf th), .int .i64 (mgOf gr), .int .i64 2] :: treeS t kn01 :: tmS m [] :: obsS o ob0 :: H) (fun _ => by kernel_rfl) ((by have h := kspawn_walk H b1 t m o ⟨[rootN], [], ob0, mtOf th, mgOf gr, 1⟩ hk (by simp only; omega) 0 1; rw [hsp] at h; exact h))) (fun _ => ?_) : RT _ _ _ _ _ _ 6 _)
  refine (run0 (z := 0) 5 [4, 5, 7] [(4, .pointer none), (5, .pointer (some ⟨b1, 0, none⟩)), (7, .nilIface)] (fun _ => by kernel_rfl) (endR ?_) : RT _ _ _ _ _ _ 5 _)
  refine seqR (by kernel_rfl) ?_
  refine regionR 2 (by kernel_rfl) (by kernel_rfl) ?_
  refine (run0 (z := 0) 2 [4, 5, 25] [(4, .pointer none), (5, .pointer (some ⟨b1, 0, none⟩)), (25, .bool false)] (fun _ => by kernel_rfl) (endR ?_) : RT _ _ _ _ _ _ 2 _)
  refine condR (b := false) (by kernel_rfl) (fun _ => by kernel_rfl) (fun h => by cases h) (fun _ => ?_)
  refine skipR (by kernel_rfl) ?_
  refine seqR (by kernel_rfl) ?_
  refine regionR 2 (by kernel_rfl) (by kernel_rfl) ?_
  refine (run0 (z := 0) 2 [4] [(4, .pointer (some ⟨b1, 0, none⟩))] (fun _ => by kernel_rfl) (endR ?_) : RT _ _ _ _ _ _ 2 _)
  refine retR (by kernel_rfl) ?_
  refine done0 (.pointer (some ⟨b1, 0, none⟩)) (fun _ => by kernel_rfl) (fun w hs => ?_) .ret (.inr rfl)
  exact ⟨b1, rfl, Sat.closeKer (k0_ok hm hg) (by rw [k0_is hm.1]; exact hs)⟩
end Go.Proofs.YtlhjibkkkhgonaaGreat
set_option linter.unusedVariables false
set_option linter.unusedSimpArgs false
namespace Go.Proofs.YtlhjibkkkhgonaaGreat
open Go.RowKit G
theorem wakeL_snoc (N : List Nr) (l : List Int) (i : Int) : wakeL N (l ++ [i]) = (readyN (wakeL N l) i true).2 := by simp [wakeL]
theorem wake_step {s : KS} (hk : KOk s) (t : Int) {u : Nat} {i : Int} (h : (dueOf t s.tm)[u]? = some i) : (readyN (wakeL s.N ((dueOf t s.tm).take u)) i true).1 = 0 := by
  obtain ⟨h1, h2, h3⟩ := wakeL_ok ((dueOf t s.tm).take u) hk.wf
  have hoff : Off s.N i := by
    obtain ⟨v, hv, _⟩ := (mem_due t i).1 (List.mem_of_getElem? h)
    exact hk.tmo _ hv
  have hnot : i ∉ (dueOf t s.tm).take u := fun hm => by
    obtain ⟨a, ha⟩ := List.getElem?_of_mem hm
    rw [List.getElem?_take] at ha
    split at ha
    · obtain ⟨ha1, ha2⟩ := List.getElem?_eq_some_iff.1 ha
      obtain ⟨hu1, hu2⟩ := List.getElem?_eq_some_iff.1 h
      have := List.pairwise_iff_getElem.1 (hk.tm.due t) a u ha1 hu1 (by assumption)
      omega
    · cases ha
  obtain ⟨x, hx, ht, _⟩ := (h3 i hnot hoff).get h1.sk
  rw [readyN, hx]; simp [ht]
set_option maxHeartbeats 1000000 in
set_option maxRecDepth 100000 in
theorem kwake_walk (H : List SP) (k t m o : Nat) (s : KS) (hk : KOk s) (tick : Int) : ∀ w, Sat w (blk k 59 [.pointer (some ⟨t, 0, none⟩), .pointer (some ⟨m, 0, none⟩), .pointer (some ⟨o, 0, none⟩), .int .i64 s.mt, .int .i64 s.mg, .int .i64 s.nx] :: treeS t s.N :: tmS m s.tm :: obsS o s.ob :: H) → Calls Tryz.prog 20 #[.pointer (some ⟨k, 0, none⟩), .int .i64 tick] w (Ret (ι := Option Addr × Nat) (fun x => .slice x.1 (kwake s tick).1.length x.2) fun x => row (kE .i64) 3 (.slice x.1 (kwake s tick).1.length x.2) (kwake s tick).1 :: blk k 59 [.pointer (some ⟨t, 0, none⟩), .pointer (some ⟨m, 0, none⟩), .pointer (some ⟨o, 0, none⟩), .int .i64 (kwake s tick).2.mt, .int .i64 (kwake s tick).2.mg, .int .i64 (kwake s tick).2.nx] :: treeS t (kwake s tick).2.N :: tmS m (kwake s tick).2.tm :: obsS o (kwake s tick).2.ob :: H) := by
  have htl := hk.tml
  obtain ⟨D, hD⟩ : ∃ D, dueOf tick s.tm = D := ⟨_, rfl⟩
  have hst := fun u i => wake_step hk tick (u := u) (i := i)
  have hDl : D.length ≤ 60 := by have := due_length tick s.tm; rw [hD] at this; omega
  have hkw : kwake s tick = (D, { s with N := wakeL s.N D, tm := restOf tick s.tm }) := by rw [kwake, hD]
  rw [hD] at hst
  rw [hkw]
  refine enterG (fn := Tryz.f20) 32 [.pointer (some ⟨k, 0, none⟩), .int .i64 tick] Tryz.func20 (by kernel_rfl) (by kernel_rfl) (by kernel_rfl) ?_
  refine seqR (by kernel_rfl) ?_
  refine regionR 1 (by kernel_rfl) (by kernel_rfl) ?_
  refine (run0 (z := 0) 1 [0, 1, 4] [(0, .pointer (some ⟨k, 0, none⟩)), (1, .int .i64 tick), (4, .slice none 0 0)] (fun _ => by kernel_rfl) (endR ?_) : RT _ _ _ _ _ _ 1 _)
  refine scopeG 0 (fun (q : (Option Addr × Nat) × Nat) => [(0, .pointer (some ⟨k, 0, none⟩)), (5, .slice q.1.1 D.length q.1.2), (6, .int .i64 (q.2 : Int))]) (fun (q : (Option Addr × Nat) × Nat) => (treeS t (wakeL s.N (D.take q.2)) :: row (kE .i64) 3 (.slice q.1.1 D.length q.1.2) D :: tmS m (restOf tick s.tm) :: blk k 59 [.pointer (some ⟨t, 0, none⟩), .pointer (some ⟨m, 0, none⟩), .pointer (some ⟨o, 0, none⟩), .int .i64 s.mt, .int .i64 s.mg, .int .i64 s.nx] :: obsS o s.ob :: H)) (fun k (q : (Option Addr × Nat) × Nat) => k + q.2 = D.length) (by kernel_rfl) (by kernel_rfl) (by kernel_rfl) (by kernel_rfl) ?_ ?_
  · skip
    rintro k1 ⟨⟨ra, rk⟩, u⟩ hku K hK
    simp only at hku
    by_cases hu : u < D.length
    · skip
      obtain ⟨x, hx⟩ : ∃ x, D[u]? = some x := ⟨_, List.getElem?_eq_getElem hu⟩
      have hok := hst u x hx
      have htk : wakeL s.N (D.take (u + 1)) = (readyN (wakeL s.N (D.take u)) x true).2 := by rw [List.take_add_one, hx]; exact wakeL_snoc _ _ _
      refine PT.know (KR.isSome (s := ⟨ra, rk, D⟩) (rowKRat 1 rfl) (List.ne_nil_of_length_pos (by show 0 < D.length; omega))) ?_
      rintro ⟨sb, so, hA⟩
      dsimp only at hA
      subst hA
      refine seqR (by kernel_rfl) ?_
      refine seqR (by kernel_rfl) ?_
      refine drawR (fun w => Sat w (row (kE .i64) 3 (.slice (some ⟨sb, so, none⟩) D.length rk) D :: tmS m (restOf tick s.tm) :: blk k 59 [.pointer (some ⟨t, 0, none⟩), .pointer (some ⟨m, 0, none⟩), .pointer (some ⟨o, 0, none⟩), .int .i64 s.mt, .int .i64 s.mg, .int .i64 s.nx] :: obsS o s.ob :: H)) [] 16 (by kernel_rfl) (by kernel_rfl) (by kernel_rfl) (fun _ h => by first | exact h | exact h.tail | exact h.tail.tail | exact h.tail.tail.tail | exact h.tail.tail.tail.tail) ?_
      refine takesR [0, 1, 2, 3, 4] [0, 5, 6, 17] 11 [true, true, true, true, true, false, false, false, false, false, false, false, false, false, false, false] [(0, .pointer (some ⟨k, 0, none⟩)), (5, .slice (some ⟨sb, so, none⟩) D.length rk), (6, .int .i64 (u : Int)), (17, .bool (decide ((u : Int) < (D.length : Int))))] [] rfl (fun _ d _ _ _ h => by cases d <;> exact h) (fun _ h => by first | exact h | exact h.tail | exact h.tail.tail | exact h.tail.tail.tail | exact h.tail.tail.tail.tail) has0 (fun _ => by kernel_rfl) ?_
      rw [show (decide ((u : Int) < (D.length : Int))) = true by simp; omega]
      refine takesR [5, 6, 7, 8, 9, 10] [0, 5, 6, 17, 21, 22, 23] 5 [true, true, true, true, true, true, true, true, true, true, true, false, false, false, false, false] [(0, .pointer (some ⟨k, 0, none⟩)), (5, .slice (some ⟨sb, so, none⟩) D.length rk), (6, .int .i64 (u : Int)), (17, .bool true), (21, .pointer (some ⟨t, 0, none⟩)), (22, .slice (some ⟨sb, so, none⟩) D.length rk), (23, .int .i64 (u : Int))] [(⟨k, 0, none⟩, .pointer (some ⟨t, 0, none⟩))] rfl (fun _ d _ _ _ h => by cases d <;> exact h) (fun _ h => by first | exact h | exact h.tail | exact h.tail.tail | exact h.tail.tail.tail | exact h.tail.tail.tail.tail) (hasC (blkAt (T := 59) (cs := [.pointer (some ⟨t, 0, none⟩), .pointer (some ⟨m, 0, none⟩), .pointer (some ⟨o, 0, none⟩), .int .i64 s.mt, .int .i64 s.mg, .int .i64 s.nx]) 2 rfl rfl) has0) (fun _ => by kernel_rfl) ?_
      refine takeR1 11 4 [true, true, true, true, true, true, true, true, true, true, true, true, false, false, false, false] rfl rfl (by kernel_rfl) (fun _ d _ _ _ h => by cases d <;> exact h) (fun _ h => by first | exact h | exact h.tail | exact h.tail.tail | exact h.tail.tail.tail | exact h.tail.tail.tail.tail) (idxY 42 (.tmp 22) (.tmp 23) sb so D.length rk u 1 3 (u : Int) .i64 (some 24) (fun _ => by kernel_rfl) (by kernel_rfl) (by kernel_rfl) (fun _ => by kernel_rfl) (fun _ => by kernel_rfl) Tryz.underlying42 (by kernel_rfl) (by first | rfl | assumption | simp) (by first | omega | (simp; done) | (simp; omega) | (simp at *; omega))) ?_
      refine takesR [12] [0, 5, 6, 17, 21, 25] 3 [true, true, true, true, true, true, true, true, true, true, true, true, true, false, false, false] [(0, .pointer (some ⟨k, 0, none⟩)), (5, .slice (some ⟨sb, so, none⟩) D.length rk), (6, .int .i64 (u : Int)), (17, .bool true), (21, .pointer (some ⟨t, 0, none⟩)), (25, .int .i64 x)] [(⟨sb, so + u * 1, none⟩, .int .i64 x)] rfl (fun _ d _ _ _ h => by cases d <;> exact h) (fun _ h => by first | exact h | exact h.tail | exact h.tail.tail | exact h.tail.tail.tail | exact h.tail.tail.tail.tail) (hasC (rowCell (E := kE .i64) (xs := D) 0 rfl (x := x) hx (j := 0) rfl) has0) (fun _ => by kernel_rfl) ?_
      refine oneR 13 2 [true, true, true, true, true, true, true, true, true, true, true, true, true, true, false, false] rfl rfl (by kernel_rfl) (callS 29 [.pointer (some ⟨t, 0, none⟩), .int .i64 x, .bool true] (some 26) (fun _ => .nilIface) (fun _ => (treeS t (readyN (wakeL s.N (D.take u)) x true).2 :: row (kE .i64) 3 (.slice (some ⟨sb, so, none⟩) D.length rk) D :: tmS m (restOf tick s.tm) :: blk k 59 [.pointer (some ⟨t, 0, none⟩), .pointer (some ⟨m, 0, none⟩), .pointer (some ⟨o, 0, none⟩), .int .i64 s.mt, .int .i64 s.mg, .int .i64 s.nx] :: obsS o s.ob :: H)) (fun _ => by kernel_rfl) (trReady_ok _ t (N' := (readyN (wakeL s.N (D.take u)) x true).2) (Prod.ext hok rfl))) (fun _ _ h hn => by first | exact h | exact h.tail | exact h.tail.tail | exact h.tail.tail.tail | exact h.tail.tail.tail.tail | exact absurd hn (by decide)) (fun _ => ?_)
      refine takesR [14, 15] [0, 5, 6, 28] 0 [true, true, true, true, true, true, true, true, true, true, true, true, true, true, true, true] [(0, .pointer (some ⟨k, 0, none⟩)), (5, .slice (some ⟨sb, so, none⟩) D.length rk), (6, .int .i64 (u : Int)), (28, .bool true)] [] rfl (fun _ d _ _ _ h => by cases d <;> exact h) (fun _ h => by first | exact h | exact h.tail | exact h.tail.tail | exact h.tail.tail.tail | exact h.tail.tail.tail.tail) has0 (fun _ => by kernel_rfl) ?_
      refine drawnR (by kernel_rfl) ?_
      refine condR (b := true) (by kernel_rfl) (fun _ => by kernel_rfl) (fun _ => ?_) (fun h => by cases h)
      refine seqR (by kernel_rfl) ?_
      refine regionR 3 (by kernel_rfl) (by kernel_rfl) ?_
      refine (run0 (z := 0) 3 [0, 5, 6] [(0, .pointer (some ⟨k, 0, none⟩)), (5, .slice (some ⟨sb, so, none⟩) D.length rk), (6, .int .i64 (IntKind.i64.wrap ((u : Int) + 1)))] (fun _ => by kernel_rfl) (endR ?_) : RT _ _ _ _ _ _ 3 _)
      refine gotoR 0 (by kernel_rfl) (by kernel_rfl) ?_
      rw [show IntKind.i64.wrap ((u : Int) + 1) = ((u : Int) + 1) by rw [w64 (by omega) (by omega)]]
      rw [show (readyN (wakeL s.N (D.take u)) x true).2 = (wakeL s.N (D.take (u + 1))) by exact htk.symm]
      have hJ := fun (k2 v : Nat) (h1 : k2 < k1) (h2 : k2 + v = D.length) => hK k2 ((some ⟨sb, so, none⟩, rk), v) h1 h2
      simp only at hJ
      change PT _ _ _ (Exit.jump 0 K (fun _ _ _ => True) (.goto 0))
      refine PT.keep (L' := [(0, .pointer (some ⟨k, 0, none⟩)), (5, .slice (some ⟨sb, so, none⟩) D.length rk), (6, .int .i64 ((u : Int) + 1))]) [0, 5, 6] rfl ?_
      exact jumpR (hJ (k1 - 1) (u + 1) (by omega) (by omega))
    · skip
      refine seqR (by kernel_rfl) ?_
      refine seqR (by kernel_rfl) ?_
      refine drawR (fun w => Sat w (row (kE .i64) 3 (.slice ra D.length rk) D :: tmS m (restOf tick s.tm) :: blk k 59 [.pointer (some ⟨t, 0, none⟩), .pointer (some ⟨m, 0, none⟩), .pointer (some ⟨o, 0, none⟩), .int .i64 s.mt, .int .i64 s.mg, .int .i64 s.nx] :: obsS o s.ob :: H)) [] 16 (by kernel_rfl) (by kernel_rfl) (by kernel_rfl) (fun _ h => by first | exact h | exact h.tail | exact h.tail.tail | exact h.tail.tail.tail | exact h.tail.tail.tail.tail) ?_
      refine takesR [0, 1, 2, 3, 4] [0, 5, 6, 17] 11 [true, true, true, true, true, false, false, false, false, false, false, false, false, false, false, false] [(0, .pointer (some ⟨k, 0, none⟩)), (5, .slice ra D.length rk), (6, .int .i64 (u : Int)), (17, .bool (decide ((u : Int) < (D.length : Int))))] [] rfl (fun _ d _ _ _ h => by cases d <;> exact h) (fun _ h => by first | exact h | exact h.tail | exact h.tail.tail | exact h.tail.tail.tail | exact h.tail.tail.tail.tail) has0 (fun _ => by kernel_rfl) ?_
      rw [show (decide ((u : Int) < (D.length : Int))) = false by simp; omega]
      refine takesR [5, 6, 7, 8, 9, 10, 11, 12, 13, 14, 15] [0, 5, 6, 28] 0 [true, true, true, true, true, true, true, true, true, true, true, true, true, true, true, true] [(0, .pointer (some ⟨k, 0, none⟩)), (5, .slice ra D.length rk), (6, .int .i64 (u : Int)), (28, .bool false)] [] rfl (fun _ d _ _ _ h => by cases d <;> exact h) (fun _ h => by first | exact h | exact h.tail | exact h.tail.tail | exact h.tail.tail.tail | exact h.tail.tail.tail.tail) has0 (fun _ => by kernel_rfl) ?_
      refine drawnR (by kernel_rfl) ?_
      refine condR (b := false) (by kernel_rfl) (fun _ => by kernel_rfl) (fun h => by cases h) (fun _ => ?_)
      refine skipR (by kernel_rfl) ?_
      refine seqR (by kernel_rfl) ?_
      refine regionR 2 (by kernel_rfl) (by kernel_rfl) ?_
      refine (run0 (z := 0) 2 [0, 5, 6, 4] [(0, .pointer (some ⟨k, 0, none⟩)), (5, .slice ra D.length rk), (6, .int .i64 (u : Int)), (4, .slice ra D.length rk)] (fun _ => by kernel_rfl) (endR ?_) : RT _ _ _ _ _ _ 2 _)
      refine retR (by kernel_rfl) ?_
      refine jumpV ?_
      have hue : D.take u = D := List.take_of_length_le (by omega)
      refine PT.pick 4 rfl ?_
      refine PT.pick 3 rfl ?_
      refine PT.pick 2 rfl ?_
      refine PT.pick 4 rfl ?_
      refine PT.pick 4 rfl ?_
      refine done0 (.slice ra D.length rk) (fun _ => by kernel_rfl) (fun w hs => ?_) .ret (.inr rfl)
      exact ⟨(ra, rk), rfl, by simp only [hue] at hs; exact hs⟩
  · skip
    intro K hK
    refine seqR (by kernel_rfl) ?_
    refine regionR 8 (by kernel_rfl) (by kernel_rfl) ?_
    refine (runR (H := (blk k 59 [.pointer (some ⟨t, 0, none⟩), .pointer (some ⟨m, 0, none⟩), .pointer (some ⟨o, 0, none⟩), .int .i64 s.mt, .int .i64 s.mg, .int .i64 s.nx] :: treeS t s.N :: tmS m s.tm :: obsS o s.ob :: H)) (z := 3) 5 [0, 4, 10, 11] [(0, .pointer (some ⟨k, 0, none⟩)), (4, .slice none 0 0), (10, .pointer (some ⟨m, 0, none⟩)), (11, .int .i64 tick)] [(⟨k, 1, none⟩, .pointer (some ⟨m, 0, none⟩))] (hasC (blkAt (T := 59) (cs := [.pointer (some ⟨t, 0, none⟩), .pointer (some ⟨m, 0, none⟩), .pointer (some ⟨o, 0, none⟩), .int .i64 s.mt, .int .i64 s.mg, .int .i64 s.nx]) 0 rfl rfl) has0) (fun _ => by kernel_rfl) ?_ : RT _ _ _ _ _ _ 8 _)
    refine (RT.pick 3 rfl ?_ : RT _ _ _ (blk k 59 [.pointer (some ⟨t, 0, none⟩), .pointer (some ⟨m, 0, none⟩), .pointer (some ⟨o, 0, none⟩), .int .i64 s.mt, .int .i64 s.mg, .int .i64 s.nx] :: treeS t s.N :: tmS m s.tm :: obsS o s.ob :: H) _ _ 3 _)
    refine (RT.pick 2 rfl ?_ : RT _ _ _ (obsS o s.ob :: blk k 59 [.pointer (some ⟨t, 0, none⟩), .pointer (some ⟨m, 0, none⟩), .pointer (some ⟨o, 0, none⟩), .int .i64 s.mt, .int .i64 s.mg, .int .i64 s.nx] :: treeS t s.N :: tmS m s.tm :: H) _ _ 3 _)
    refine (RT.pick 2 rfl ?_ : RT _ _ _ (treeS t s.N :: obsS o s.ob :: blk k 59 [.pointer (some ⟨t, 0, none⟩), .pointer (some ⟨m, 0, none⟩), .pointer (some ⟨o, 0, none⟩), .int .i64 s.mt, .int .i64 s.mg, .int .i64 s.nx] :: tmS m s.tm :: H) _ _ 3 _)
    refine (RT.pick 3 rfl ?_ : RT _ _ _ (blk k 59 [.pointer (some ⟨t, 0, none⟩), .pointer (some ⟨m, 0, none⟩), .pointer (some ⟨o, 0, none⟩), .int .i64 s.mt, .int .i64 s.mg, .int .i64 s.nx] :: treeS t s.N :: obsS o s.ob :: tmS m s.tm :: H) _ _ 3 _)
    refine (stepR (z := 2) (callS 39 [.pointer (some ⟨m, 0, none⟩), .int .i64 tick] (some 12) (fun (r : Option Addr × Nat) => .slice r.1 D.length r.2) (fun (r : Option Addr × Nat) => row (kE .i64) 3 (.slice r.1 D.length r.2) D :: tmS m (restOf tick s.tm) :: blk k 59 [.pointer (some ⟨t, 0, none⟩), .pointer (some ⟨m, 0, none⟩), .pointer (some ⟨o, 0, none⟩), .int .i64 s.mt, .int .i64 s.mg, .int .i64 s.nx] :: treeS t s.N :: obsS o s.ob :: H) (fun _ => by kernel_rfl) ((hD ▸ tmgDue _ m s.tm tick (by omega)))) (fun (r : Option Addr × Nat) => ?_) : RT _ _ _ _ _ _ 3 _)
    refine (run0 (z := 0) 2 [0, 4, 5, 6] [(0, .pointer (some ⟨k, 0, none⟩)), (4, .slice none 0 0), (5, .slice r.1 D.length r.2), (6, .int .i64 0)] (fun _ => by kernel_rfl) (endR ?_) : RT _ _ _ _ _ _ 2 _)
    refine seqR (by kernel_rfl) ?_
    refine labelR (by kernel_rfl) ?_
    refine PT.pick 4 rfl ?_
    refine PT.pick 3 rfl ?_
    refine PT.pick 3 rfl ?_
    refine PT.pick 3 rfl ?_
    refine PT.pick 4 rfl ?_
    refine PT.keep (L' := [(0, .pointer (some ⟨k, 0, none⟩)), (5, .slice r.1 D.length r.2), (6, .int .i64 0)]) [0, 5, 6] rfl ?_
    refine codeR (by kernel_rfl) (hK D.length (r, 0) (by simp))
end Go.Proofs.YtlhjibkkkhgonaaGreat
set_option linter.unusedVariables false
set_option linter.unusedSimpArgs false
namespace Go.Proofs.YtlhjibkkkhgonaaGreat
open Go.RowKit G
def thrL (M : List Nr) : List Int := (M.filter (·.thr)).map (·.id)
theorem thrL_take {M : List Nr} {u : Nat} {x : Nr} (h : M[u]? = some x) : thrL (M.take (u + 1)) = if x.thr = true then thrL (M.take u) ++ [x.id] else thrL (M.take u) := by
  unfold thrL
  rw [List.take_add_one, h, List.filter_append, List.map_append]
  cases c : x.thr <;> simp [c]
theorem thrL_len (M : List Nr) (u : Nat) : (thrL (M.take u)).length ≤ u := by
  unfold thrL
  rw [List.length_map]
  exact Nat.le_trans (List.length_filter_le _ _) (by simp; omega)
set_option maxHeartbeats 1000000 in
set_option maxRecDepth 100000 in
theorem kthreads_walk (H : List SP) (k t m o : Nat) (s : KS) (hk : KOk s) (hid : s.nx ≤ 1099511627776) : ∀ w, Sat w (blk k 59 [.pointer (some ⟨t, 0, none⟩), .pointer (some ⟨m, 0, none⟩), .pointer (some ⟨o, 0, none⟩), .int .i64 s.mt, .int .i64 s.mg, .int .i64 s.nx] :: treeS t s.N :: tmS m s.tm :: obsS o s.ob :: H) → Calls Tryz.prog 22 #[.pointer (some ⟨k, 0, none⟩)] w (Ret (ι := Option Addr × Nat) (fun x => .slice x.1 (kthreads s).length x.2) fun x => row (kE .i64) 3 (.slice x.1 (kthreads s).length x.2) (kthreads s) :: blk k 59 [.pointer (some ⟨t, 0, none⟩), .pointer (some ⟨m, 0, none⟩), .pointer (some ⟨o, 0, none⟩), .int .i64 s.mt, .int .i64 s.mg, .int .i64 s.nx] :: treeS t s.N :: tmS m s.tm :: obsS o s.ob :: H) := by
  have hids : ∀ x ∈ s.N, x.id ≤ 9223372036854775807 := fun x hx => by have := hk.ids x hx; omega
  obtain ⟨M, hM⟩ : ∃ M, nodesN s.N = M := ⟨_, rfl⟩
  have hMl : 1 ≤ M.length ∧ M.length ≤ 60 := by
    rw [← hM, nodesN_len]
    obtain ⟨r, hr, _⟩ := hk.wf.sk.root
    exact ⟨List.length_pos_of_mem hr, hk.wf.sk.len⟩
  rw [show kthreads s = thrL M by rw [kthreads, hM]; rfl]
  refine enterG (fn := Tryz.f22) 25 [.pointer (some ⟨k, 0, none⟩)] Tryz.func22 (by kernel_rfl) (by kernel_rfl) (by kernel_rfl) ?_
  refine seqR (by kernel_rfl) ?_
  refine regionR 1 (by kernel_rfl) (by kernel_rfl) ?_
  refine (run0 (z := 0) 1 [0, 2] [(0, .pointer (some ⟨k, 0, none⟩)), (2, .slice none 0 0)] (fun _ => by kernel_rfl) (endR ?_) : RT _ _ _ _ _ _ 1 _)
  refine seqR (by kernel_rfl) ?_
  refine regionR 1 (by kernel_rfl) (by kernel_rfl) ?_
  refine (run0 (z := 0) 1 [0, 2, 3] [(0, .pointer (some ⟨k, 0, none⟩)), (2, .slice none 0 0), (3, .slice none 0 0)] (fun _ => by kernel_rfl) (endR ?_) : RT _ _ _ _ _ _ 1 _)
  refine seqR (by kernel_rfl) ?_
  refine seqR (by kernel_rfl) ?_
  refine regionR 7 (by kernel_rfl) (by kernel_rfl) ?_
  refine (runR (H := (blk k 59 [.pointer (some ⟨t, 0, none⟩), .pointer (some ⟨m, 0, none⟩), .pointer (some ⟨o, 0, none⟩), .int .i64 s.mt, .int .i64 s.mg, .int .i64 s.nx] :: treeS t s.N :: tmS m s.tm :: obsS o s.ob :: H)) (z := 3) 4 [2, 3, 9] [(2, .slice none 0 0), (3, .slice none 0 0), (9, .pointer (some ⟨t, 0, none⟩))] [(⟨k, 0, none⟩, .pointer (some ⟨t, 0, none⟩))] (hasC (blkAt (T := 59) (cs := [.pointer (some ⟨t, 0, none⟩), .pointer (some ⟨m, 0, none⟩), .pointer (some ⟨o, 0, none⟩), .int .i64 s.mt, .int .i64 s.mg, .int .i64 s.nx]) 0 rfl rfl) has0) (fun _ => by kernel_rfl) ?_ : RT _ _ _ _ _ _ 7 _)
  refine (RT.pick 0 rfl ?_ : RT _ _ _ (blk k 59 [.pointer (some ⟨t, 0, none⟩), .pointer (some ⟨m, 0, none⟩), .pointer (some ⟨o, 0, none⟩), .int .i64 s.mt, .int .i64 s.mg, .int .i64 s.nx] :: treeS t s.N :: tmS m s.tm :: obsS o s.ob :: H) _ _ 3 _)
  refine (RT.pick 1 rfl ?_ : RT _ _ _ (blk k 59 [.pointer (some ⟨t, 0, none⟩), .pointer (some ⟨m, 0, none⟩), .pointer (some ⟨o, 0, none⟩), .int .i64 s.mt, .int .i64 s.mg, .int .i64 s.nx] :: treeS t s.N :: tmS m s.tm :: obsS o s.ob :: H) _ _ 3 _)
  refine (stepR (z := 2) (callS 41 [.pointer (some ⟨t, 0, none⟩)] (some 10) (fun (na : Option Addr × Nat) => .slice na.1 M.length na.2) (fun (na : Option Addr × Nat) => (row nE 71 (.slice na.1 M.length na.2) M :: treeS t s.N :: blk k 59 [.pointer (some ⟨t, 0, none⟩), .pointer (some ⟨m, 0, none⟩), .pointer (some ⟨o, 0, none⟩), .int .i64 s.mt, .int .i64 s.mg, .int .i64 s.nx] :: tmS m s.tm :: obsS o s.ob :: H)) (fun _ => by kernel_rfl) ((hM ▸ trNodes _ t s.N hids))) (fun (na : Option Addr × Nat) => ?_) : RT _ _ _ _ _ _ 3 _)
  refine PT.know (KR.isSome (s := ⟨na.1, na.2, M⟩) (rowKRat 0 rfl) (List.ne_nil_of_length_pos (by show 0 < M.length; omega))) ?_
  rintro ⟨nb, no, hnA⟩
  dsimp only at hnA
  rw [hnA]
  refine (run0 (z := 0) 2 [10, 2, 3, 11, 12] [(10, .slice (some ⟨nb, no, none⟩) M.length na.2), (2, .slice none 0 0), (3, .slice none 0 0), (11, .int .i64 (M.length : Int)), (12, .int .i64 0)] (fun _ => by kernel_rfl) (endR ?_) : RT _ _ _ _ _ _ 2 _)
  refine blockR 0 (by kernel_rfl) (by kernel_rfl) ?_
  refine PT.rowNil (kE .i64) 3 ?_
  refine PT.keep (L' := [(2, .slice none 0 0), (3, .slice none 0 0), (10, .slice (some ⟨nb, no, none⟩) M.length na.2), (11, .int .i64 (M.length : Int)), (12, .int .i64 0)]) [2, 3, 10, 11, 12] rfl ?_
  refine loopG (fun (q : (Option Addr × Nat) × Nat) => [(2, .slice none 0 0), (3, .slice q.1.1 ((thrL (M.take q.2)).length) q.1.2), (10, .slice (some ⟨nb, no, none⟩) M.length na.2), (11, .int .i64 (M.length : Int)), (12, .int .i64 (q.2 : Int))]) (fun (q : (Option Addr × Nat) × Nat) => (row (kE .i64) 3 (.slice q.1.1 (thrL (M.take q.2)).length q.1.2) (thrL (M.take q.2)) :: row nE 71 (.slice (some ⟨nb, no, none⟩) M.length na.2) M :: treeS t s.N :: blk k 59 [.pointer (some ⟨t, 0, none⟩), .pointer (some ⟨m, 0, none⟩), .pointer (some ⟨o, 0, none⟩), .int .i64 s.mt, .int .i64 s.mg, .int .i64 s.nx] :: tmS m s.tm :: obsS o s.ob :: H)) (fun k (q : (Option Addr × Nat) × Nat) => k + q.2 = M.length) M.length ((none, 0), 0) (by kernel_rfl) (by simp) ?_
  rintro k1 ⟨⟨qa, qc⟩, u⟩ hku
  simp only at hku
  refine seqR (by kernel_rfl) ?_
  refine regionR 1 (by kernel_rfl) (by kernel_rfl) ?_
  refine (run0 (z := 0) 1 [2, 3, 10, 11, 12, 13] [(2, .slice none 0 0), (3, .slice qa ((thrL (M.take u)).length) qc), (10, .slice (some ⟨nb, no, none⟩) M.length na.2), (11, .int .i64 (M.length : Int)), (12, .int .i64 (u : Int)), (13, .bool (decide ((u : Int) < (M.length : Int))))] (fun _ => by kernel_rfl) (endR ?_) : RT _ _ _ _ _ _ 1 _)
  refine seqR (by kernel_rfl) ?_
  refine condR (b := decide ((u : Int) < (M.length : Int))) (by kernel_rfl) (fun _ => by kernel_rfl) (fun h2 => ?_) (fun h2 => ?_)
  · skip
    have hi : u < M.length := by have := of_decide_eq_true h2; omega
    obtain ⟨x, hx⟩ : ∃ x, M[u]? = some x := ⟨_, List.getElem?_eq_getElem hi⟩
    have hst := thrL_take hx
    have hnl := thrL_len M u
    refine skipR (by kernel_rfl) ?_
    refine seqR (by kernel_rfl) ?_
    refine blockR 1 (by kernel_rfl) (by kernel_rfl) ?_
    refine seqR (by kernel_rfl) ?_
    refine regionR 4 (by kernel_rfl) (by kernel_rfl) ?_
    refine (stepR (z := 3) (yldS (idxY 50 (.tmp 10) (.tmp 12) nb no M.length na.2 u 6 71 (u : Int) .i64 (some 14) (fun _ => by kernel_rfl) (by kernel_rfl) (by kernel_rfl) (fun _ => by kernel_rfl) (fun _ => by kernel_rfl) Tryz.underlying50 (by kernel_rfl) (by first | rfl | assumption | simp) (by first | omega | (simp; done) | (simp; omega) | (simp at *; omega)))) (fun _ => ?_) : RT _ _ _ _ _ _ 4 _)
    refine (runR (H := (row (kE .i64) 3 (.slice qa (thrL (M.take u)).length qc) (thrL (M.take u)) :: row nE 71 (.slice (some ⟨nb, no, none⟩) M.length na.2) M :: treeS t s.N :: blk k 59 [.pointer (some ⟨t, 0, none⟩), .pointer (some ⟨m, 0, none⟩), .pointer (some ⟨o, 0, none⟩), .int .i64 s.mt, .int .i64 s.mg, .int .i64 s.nx] :: tmS m s.tm :: obsS o s.ob :: H)) (z := 2) 1 [2, 3, 10, 11, 12, 15] [(2, .slice none 0 0), (3, .slice qa ((thrL (M.take u)).length) qc), (10, .slice (some ⟨nb, no, none⟩) M.length na.2), (11, .int .i64 (M.length : Int)), (12, .int .i64 (u : Int)), (15, .agg #[.int .i64 x.id, .int .i64 x.par, .int .i64 x.wt, .int .i64 x.pass, .bool x.thr, .bool x.rdy])] [(⟨nb, no + u * 6, none⟩, .int .i64 x.id), (⟨nb, no + u * 6 + 1, none⟩, .int .i64 x.par), (⟨nb, no + u * 6 + 2, none⟩, .int .i64 x.wt), (⟨nb, no + u * 6 + 3, none⟩, .int .i64 x.pass), (⟨nb, no + u * 6 + 4, none⟩, .bool x.thr), (⟨nb, no + u * 6 + 5, none⟩, .bool x.rdy)] (hasC (rowCell (E := nE) (xs := M) 1 rfl (x := x) hx (j := 0) rfl) (hasC (rowCell (E := nE) (xs := M) 1 rfl (x := x) hx (j := 1) rfl) (hasC (rowCell (E := nE) (xs := M) 1 rfl (x := x) hx (j := 2) rfl) (hasC (rowCell (E := nE) (xs := M) 1 rfl (x := x) hx (j := 3) rfl) (hasC (rowCell (E := nE) (xs := M) 1 rfl (x := x) hx (j := 4) rfl) (hasC (rowCell (E := nE) (xs := M) 1 rfl (x := x) hx (j := 5) rfl) has0)))))) (fun _ => by kernel_rfl) ?_ : RT _ _ _ _ _ _ 3 _)
    refine (stepR (z := 1) (newS 71 [.int .i64 0, .int .i64 0, .int .i64 0, .int .i64 0, .bool false, .bool false] (some 5) (fun b => .pointer (some ⟨b, 0, none⟩)) (fun _ _ => by kernel_rfl)) (fun b1 => ?_) : RT _ _ _ _ _ _ 2 _)
    refine (stepR (z := 0) (storeS [(0, .int .i64 x.id), (1, .int .i64 x.par), (2, .int .i64 x.wt), (3, .int .i64 x.pass), (4, .bool x.thr), (5, .bool x.rdy)] [.int .i64 x.id, .int .i64 x.par, .int .i64 x.wt, .int .i64 x.pass, .bool x.thr, .bool x.rdy] (fun _ => by kernel_rfl) (by kernel_rfl) (by kernel_rfl)) (fun _ => ?_) : RT _ _ _ _ _ _ 1 _)
    refine endR ?_
    refine seqR (by kernel_rfl) ?_
    refine regionR 2 (by kernel_rfl) (by kernel_rfl) ?_
    refine (runR (H := (blk b1 71 [.int .i64 x.id, .int .i64 x.par, .int .i64 x.wt, .int .i64 x.pass, .bool x.thr, .bool x.rdy] :: row (kE .i64) 3 (.slice qa (thrL (M.take u)).length qc) (thrL (M.take u)) :: row nE 71 (.slice (some ⟨nb, no, none⟩) M.length na.2) M :: treeS t s.N :: blk k 59 [.pointer (some ⟨t, 0, none⟩), .pointer (some ⟨m, 0, none⟩), .pointer (some ⟨o, 0, none⟩), .int .i64 s.mt, .int .i64 s.mg, .int .i64 s.nx] :: tmS m s.tm :: obsS o s.ob :: H)) (z := 0) 2 [5, 2, 3, 10, 11, 12, 17] [(5, .pointer (some ⟨b1, 0, none⟩)), (2, .slice none 0 0), (3, .slice qa ((thrL (M.take u)).length) qc), (10, .slice (some ⟨nb, no, none⟩) M.length na.2), (11, .int .i64 (M.length : Int)), (12, .int .i64 (u : Int)), (17, .bool x.thr)] [(⟨b1, 4, none⟩, .bool x.thr)] (hasC (blkAt (T := 71) (cs := [.int .i64 x.id, .int .i64 x.par, .int .i64 x.wt, .int .i64 x.pass, .bool x.thr, .bool x.rdy]) 0 rfl rfl) has0) (fun _ => by kernel_rfl) (endR ?_) : RT _ _ _ _ _ _ 2 _)
    cases h3 : (x.thr) with
    | true =>
      rw [if_pos h3] at hst
      refine condR (b := true) (by kernel_rfl) (fun _ => by kernel_rfl) (fun _ => ?_) (fun h => by cases h)
      refine regionR 6 (by kernel_rfl) (by kernel_rfl) ?_
      refine (runR (H := (blk b1 71 [.int .i64 x.id, .int .i64 x.par, .int .i64 x.wt, .int .i64 x.pass, .bool true, .bool x.rdy] :: row (kE .i64) 3 (.slice qa (thrL (M.take u)).length qc) (thrL (M.take u)) :: row nE 71 (.slice (some ⟨nb, no, none⟩) M.length na.2) M :: treeS t s.N :: blk k 59 [.pointer (some ⟨t, 0, none⟩), .pointer (some ⟨m, 0, none⟩), .pointer (some ⟨o, 0, none⟩), .int .i64 s.mt, .int .i64 s.mg, .int .i64 s.nx] :: tmS m s.tm :: obsS o s.ob :: H)) (z := 3) 3 [2, 3, 10, 11, 12, 18, 20] [(2, .slice none 0 0), (3, .slice qa ((thrL (M.take u)).length) qc), (10, .slice (some ⟨nb, no, none⟩) M.length na.2), (11, .int .i64 (M.length : Int)), (12, .int .i64 (u : Int)), (18, .slice qa ((thrL (M.take u)).length) qc), (20, .int .i64 x.id)] [(⟨b1, 0, none⟩, .int .i64 x.id)] (hasC (blkAt (T := 71) (cs := [.int .i64 x.id, .int .i64 x.par, .int .i64 x.wt, .int .i64 x.pass, .bool true, .bool x.rdy]) 0 rfl rfl) has0) (fun _ => by kernel_rfl) ?_ : RT _ _ _ _ _ _ 6 _)
      refine (stepR (z := 2) (newS 3 [.int .i64 x.id] (some 21) (fun b => .slice (some ⟨b, 0, none⟩) 1 1) (fun _ _ => by kernel_rfl)) (fun b2 => ?_) : RT _ _ _ _ _ _ 3 _)
      refine (RT.pick 2 rfl ?_ : RT _ _ _ (blk b2 3 [.int .i64 x.id] :: blk b1 71 [.int .i64 x.id, .int .i64 x.par, .int .i64 x.wt, .int .i64 x.pass, .bool true, .bool x.rdy] :: row (kE .i64) 3 (.slice qa (thrL (M.take u)).length qc) (thrL (M.take u)) :: row nE 71 (.slice (some ⟨nb, no, none⟩) M.length na.2) M :: treeS t s.N :: blk k 59 [.pointer (some ⟨t, 0, none⟩), .pointer (some ⟨m, 0, none⟩), .pointer (some ⟨o, 0, none⟩), .int .i64 s.mt, .int .i64 s.mg, .int .i64 s.nx] :: tmS m s.tm :: obsS o s.ob :: H) _ _ 2 _)
      refine (stepR (z := 1) (appS (E := (kE .i64)) 42 (.tmp 18) (.tmp 21) qa qc (thrL (M.take u)) [x.id] (.slice (some ⟨b2, 0, none⟩) 1 1) (some 22) (fun _ => by kernel_rfl) (by kernel_rfl) (by kernel_rfl) (fun _ => by kernel_rfl) (fun _ => by kernel_rfl) Tryz.underlying42 (etyIn) (blkRd (x := x.id) 1 rfl) (by simp only [List.length_cons, List.length_nil]; omega)) (fun r3 => ?_) : RT _ _ _ (row (kE .i64) 3 (.slice qa (thrL (M.take u)).length qc) (thrL (M.take u)) :: blk b2 3 [.int .i64 x.id] :: blk b1 71 [.int .i64 x.id, .int .i64 x.par, .int .i64 x.wt, .int .i64 x.pass, .bool true, .bool x.rdy] :: row nE 71 (.slice (some ⟨nb, no, none⟩) M.length na.2) M :: treeS t s.N :: blk k 59 [.pointer (some ⟨t, 0, none⟩), .pointer (some ⟨m, 0, none⟩), .pointer (some ⟨o, 0, none⟩), .int .i64 s.mt, .int .i64 s.mg, .int .i64 s.nx] :: tmS m s.tm :: obsS o s.ob :: H) _ _ 2 _)
      refine (run0 (z := 0) 1 [2, 3, 10, 11, 12] [(2, .slice none 0 0), (3, .slice r3.1 (((thrL (M.take u)) ++ [x.id]).length) r3.2), (10, .slice (some ⟨nb, no, none⟩) M.length na.2), (11, .int .i64 (M.length : Int)), (12, .int .i64 (u : Int))] (fun _ => by kernel_rfl) (endR ?_) : RT _ _ _ _ _ _ 1 _)
      refine regionR 2 (by kernel_rfl) (by kernel_rfl) ?_
      refine (run0 (z := 0) 2 [2, 3, 10, 11, 12] [(2, .slice none 0 0), (3, .slice r3.1 (((thrL (M.take u)) ++ [x.id]).length) r3.2), (10, .slice (some ⟨nb, no, none⟩) M.length na.2), (11, .int .i64 (M.length : Int)), (12, .int .i64 (IntKind.i64.wrap ((u : Int) + 1)))] (fun _ => by kernel_rfl) (endR ?_) : RT _ _ _ _ _ _ 2 _)
      rw [show IntKind.i64.wrap ((u : Int) + 1) = ((u : Int) + 1) by rw [w64 (by omega) (by omega)]]
      refine PT.pick 2 rfl ?_
      refine PT.drop ?_
      refine PT.pick 1 rfl ?_
      refine PT.drop ?_
      rw [show ((thrL (M.take u)) ++ [x.id]) = (thrL (M.take (u + 1))) by exact hst.symm]
      refine PT.keep (L' := [(2, .slice none 0 0), (3, .slice r3.1 ((thrL (M.take (u + 1))).length) r3.2), (10, .slice (some ⟨nb, no, none⟩) M.length na.2), (11, .int .i64 (M.length : Int)), (12, .int .i64 ((u : Int) + 1))]) [2, 3, 10, 11, 12] rfl ?_
      exact againG (k1 - 1) (r3, u + 1) rfl rfl (by omega) (by simp only; omega)
    | false =>
      rw [if_neg (by rw [h3]; simp)] at hst
      refine condR (b := false) (by kernel_rfl) (fun _ => by kernel_rfl) (fun h => by cases h) (fun _ => ?_)
      refine skipR (by kernel_rfl) ?_
      refine regionR 2 (by kernel_rfl) (by kernel_rfl) ?_
      refine (run0 (z := 0) 2 [2, 3, 10, 11, 12] [(2, .slice none 0 0), (3, .slice qa ((thrL (M.take u)).length) qc), (10, .slice (some ⟨nb, no, none⟩) M.length na.2), (11, .int .i64 (M.length : Int)), (12, .int .i64 (IntKind.i64.wrap ((u : Int) + 1)))] (fun _ => by kernel_rfl) (endR ?_) : RT _ _ _ _ _ _ 2 _)
      rw [show IntKind.i64.wrap ((u : Int) + 1) = ((u : Int) + 1) by rw [w64 (by omega) (by omega)]]
      refine PT.drop ?_
      rw [show (thrL (M.take u)) = (thrL (M.take (u + 1))) by exact hst.symm]
      refine PT.keep (L' := [(2, .slice none 0 0), (3, .slice qa ((thrL (M.take (u + 1))).length) qc), (10, .slice (some ⟨nb, no, none⟩) M.length na.2), (11, .int .i64 (M.length : Int)), (12, .int .i64 ((u : Int) + 1))]) [2, 3, 10, 11, 12] rfl ?_
      exact againG (k1 - 1) ((qa, qc), u + 1) rfl rfl (by omega) (by simp only; omega)
  · skip
    have hi : u = M.length := by have := of_decide_eq_false h2; omega
    have hue : M.take u = M := List.take_of_length_le (by omega)
    refine exitR 0 (by kernel_rfl) (by kernel_rfl) ?_
    refine thenX ?_
    refine thenX ?_
    refine leaveR ?_
    refine seqR (by kernel_rfl) ?_
    refine regionR 2 (by kernel_rfl) (by kernel_rfl) ?_
    refine (run0 (z := 0) 2 [2] [(2, .slice qa ((thrL (M.take u)).length) qc)] (fun _ => by kernel_rfl) (endR ?_) : RT _ _ _ _ _ _ 2 _)
    refine retR (by kernel_rfl) ?_
    rw [show (M.take u) = M by exact hue]
    refine PT.pick 1 rfl ?_
    refine PT.drop ?_
    refine PT.pick 1 rfl ?_
    refine PT.pick 2 rfl ?_
    refine PT.pick 2 rfl ?_
    refine done0 (.slice qa ((thrL M).length) qc) (fun _ => by kernel_rfl) (fun w hs => ?_) .ret (.inr rfl)
    exact ⟨(qa, qc), rfl, hs⟩
end Go.Proofs.YtlhjibkkkhgonaaGreat
set_option linter.unusedVariables false
set_option linter.unusedSimpArgs false
namespace Go.Proofs.YtlhjibkkkhgonaaGreat
open Go.RowKit G
section
variable {α : Type} (H : List SP) (k : Nat) (s : KS)
theorem kerOp {s' : KS} {f : FuncId} {vs : Array Value} {R : Value} (h : ∀ t m o, KOk s → ∀ w, Sat w (blk k 59 [.pointer (some ⟨t, 0, none⟩), .pointer (some ⟨m, 0, none⟩), .pointer (some ⟨o, 0, none⟩), .int .i64 s.mt, .int .i64 s.mg, .int .i64 s.nx] :: treeS t s.N :: tmS m s.tm :: obsS o s.ob :: H) → Calls Tryz.prog f vs w (Ret (ι := Unit) (fun _ => R) fun _ => blk k 59 [.pointer (some ⟨t, 0, none⟩), .pointer (some ⟨m, 0, none⟩), .pointer (some ⟨o, 0, none⟩), .int .i64 s'.mt, .int .i64 s'.mg, .int .i64 s'.nx] :: treeS t s'.N :: tmS m s'.tm :: obsS o s'.ob :: H)) (hk : KOk s → KOk s') : ∀ w, Sat w (kerS k s :: H) → Calls Tryz.prog f vs w (Ret (ι := Unit) (fun _ => R) fun _ => kerS k s' :: H) := fun w hs => by
  obtain ⟨t, m, o, h1, hs2⟩ := Sat.openKer hs
  exact (h t m o h1 w hs2).mono fun e w' ⟨_, he, hx⟩ => ⟨(), he, Sat.closeKer (hk h1) hx⟩
theorem kerAt {j : Nat} {H : List SP} {k : Nat} {s : KS} (hj : H[j]? = some (kerS k s)) : ∀ w, Sat w H → KOk s := fun w hs => by
  obtain ⟨_, _, _, h, _⟩ := Sat.openKer (Sat.pick j hj hs)
  exact h
theorem krRunnable : ∀ w, Sat w (kerS k s :: H) → Calls Tryz.prog 23 #[.pointer (some ⟨k, 0, none⟩)] w (Ret (ι := Unit) (fun _ => .bool (krunnable s)) fun _ => kerS k s :: H) :=
  kerOp H k s (fun t m o _ => krunnable_walk H k t m o s) (fun h => h)
theorem krRun : ∀ w, Sat w (kerS k s :: H) → Calls Tryz.prog 15 #[.pointer (some ⟨k, 0, none⟩)] w (Ret (ι := Unit) (fun _ => .tuple #[.int .i64 (krun s).1.1, .bool (krun s).1.2]) fun _ => kerS k (krun s).2 :: H) :=
  kerOp H k s (fun t m o _ => krun_walk H k t m o s) krun_ok
theorem krSleep (id u : Int) : ∀ w, Sat w (kerS k s :: H) → Calls Tryz.prog 16 #[.pointer (some ⟨k, 0, none⟩), .int .i64 id, .int .i64 u] w (Ret (ι := Unit) (fun _ => pqErr (ksleep s id u).1) fun _ => kerS k (ksleep s id u).2 :: H) :=
  kerOp H k s (fun t m o h => ksleep_walk H k t m o s h id u) (fun h => ksleep_ok h id u)
theorem krExit (id : Int) : ∀ w, Sat w (kerS k s :: H) → Calls Tryz.prog 14 #[.pointer (some ⟨k, 0, none⟩), .int .i64 id] w (Ret (ι := Unit) (fun _ => pqErr (kexit s id).1) fun _ => kerS k (kexit s id).2 :: H) :=
  kerOp H k s (fun t m o h => kexit_walk H k t m o s h id) (fun h => kexit_ok h id)
theorem krWait (id j : Int) : ∀ w, Sat w (kerS k s :: H) → Calls Tryz.prog 17 #[.pointer (some ⟨k, 0, none⟩), .int .i64 id, .int .i64 j] w (Ret (ι := Unit) (fun _ => .tuple #[.bool (kwait s id j).1.1, pqErr (kwait s id j).1.2]) fun _ => kerS k (kwait s id j).2 :: H) :=
  kerOp H k s (fun t m o h => kwait_walk H k t m o s h id j) (fun h => kwait_ok h id j)
theorem krSignal (j : Int) : ∀ w, Sat w (kerS k s :: H) → Calls Tryz.prog 21 #[.pointer (some ⟨k, 0, none⟩), .int .i64 j] w (Ret (ι := Unit) (fun _ => pqErr (ksignal s j).1) fun _ => kerS k (ksignal s j).2 :: H) :=
  kerOp H k s (fun t m o h => ksignal_walk H k t m o s h j) (fun h => ksignal_ok h j)
theorem krSpawn (hid : s.nx ≤ 1099511627776) (par wt : Int) : ∀ w, Sat w (kerS k s :: H) → Calls Tryz.prog 12 #[.pointer (some ⟨k, 0, none⟩), .int .i64 par, .int .i64 wt] w (Ret (ι := Unit) (fun _ => .tuple #[.int .i64 (kspawn s par wt).1.1, pqErr (kspawn s par wt).1.2]) fun _ => kerS k (kspawn s par wt).2 :: H) :=
  kerOp H k s (fun t m o h => kspawn_walk H k t m o s h hid par wt) (fun h => kspawn_ok h par wt)
theorem krGroup (hid : s.nx ≤ 1099511627776) (par wt : Int) : ∀ w, Sat w (kerS k s :: H) → Calls Tryz.prog 13 #[.pointer (some ⟨k, 0, none⟩), .int .i64 par, .int .i64 wt] w (Ret (ι := Unit) (fun _ => .tuple #[.int .i64 (kgroup s par wt).1.1, pqErr (kgroup s par wt).1.2]) fun _ => kerS k (kgroup s par wt).2 :: H) :=
  kerOp H k s (fun t m o h => kgroup_walk H k t m o s h hid par wt) (fun h => kgroup_ok h par wt)
theorem krWake (t : Int) : ∀ w, Sat w (kerS k s :: H) → Calls Tryz.prog 20 #[.pointer (some ⟨k, 0, none⟩), .int .i64 t] w (Ret (ι := Option Addr × Nat) (fun x => .slice x.1 (kwake s t).1.length x.2) fun x => row (kE .i64) 3 (.slice x.1 (kwake s t).1.length x.2) (kwake s t).1 :: kerS k (kwake s t).2 :: H) := fun w hs => by
  obtain ⟨tr, m, o, h1, hs2⟩ := Sat.openKer hs
  exact (kwake_walk H k tr m o s h1 t w hs2).mono fun e w' ⟨x, he, hx⟩ => ⟨x, he, SatF.swap (Sat.closeKer (H := row (kE .i64) 3 (.slice x.1 (kwake s t).1.length x.2) (kwake s t).1 :: H) (kwake_ok h1 t) (Sat.perm (List.perm_middle (a := row (kE .i64) 3 (.slice x.1 (kwake s t).1.length x.2) (kwake s t).1) (l₁ := [_, _, _, _]) (l₂ := H)).symm hx))⟩
theorem kerRow {E : Enc α} {T : TypeId} {L : List α} {f : FuncId} {vs : Array Value} (h : ∀ t m o, KOk s → ∀ w, Sat w (blk k 59 [.pointer (some ⟨t, 0, none⟩), .pointer (some ⟨m, 0, none⟩), .pointer (some ⟨o, 0, none⟩), .int .i64 s.mt, .int .i64 s.mg, .int .i64 s.nx] :: treeS t s.N :: tmS m s.tm :: obsS o s.ob :: H) → Calls Tryz.prog f vs w (Ret (ι := Option Addr × Nat) (fun x => .slice x.1 L.length x.2) fun x => row E T (.slice x.1 L.length x.2) L :: blk k 59 [.pointer (some ⟨t, 0, none⟩), .pointer (some ⟨m, 0, none⟩), .pointer (some ⟨o, 0, none⟩), .int .i64 s.mt, .int .i64 s.mg, .int .i64 s.nx] :: treeS t s.N :: tmS m s.tm :: obsS o s.ob :: H)) : ∀ w, Sat w (kerS k s :: H) → Calls Tryz.prog f vs w (Ret (ι := Option Addr × Nat) (fun x => .slice x.1 L.length x.2) fun x => row E T (.slice x.1 L.length x.2) L :: kerS k s :: H) := fun w hs => by
  obtain ⟨tr, m, o, h1, hs2⟩ := Sat.openKer hs
  exact (h tr m o h1 w hs2).mono fun e w' ⟨x, he, hx⟩ => ⟨x, he, SatF.swap (Sat.closeKer (H := row E T (.slice x.1 L.length x.2) L :: H) h1 (Sat.perm (List.perm_middle (a := row E T (.slice x.1 L.length x.2) L) (l₁ := [_, _, _, _]) (l₂ := H)).symm hx))⟩
theorem krThreads (hid : s.nx ≤ 1099511627776) : ∀ w, Sat w (kerS k s :: H) → Calls Tryz.prog 22 #[.pointer (some ⟨k, 0, none⟩)] w (Ret (ι := Option Addr × Nat) (fun x => .slice x.1 (kthreads s).length x.2) fun x => row (kE .i64) 3 (.slice x.1 (kthreads s).length x.2) (kthreads s) :: kerS k s :: H) :=
  kerRow H k s fun t m o h => kthreads_walk H k t m o s h hid
theorem krNodes (hid : s.nx ≤ 1099511627776) : ∀ w, Sat w (kerS k s :: H) → Calls Tryz.prog 24 #[.pointer (some ⟨k, 0, none⟩)] w (Ret (ι := Option Addr × Nat) (fun x => .slice x.1 (nodesN s.N).length x.2) fun x => row nE 71 (.slice x.1 (nodesN s.N).length x.2) (nodesN s.N) :: kerS k s :: H) :=
  kerRow H k s fun t m o h => knodes_walk H k t m o s fun x hx => by have := h.ids x hx; omega
end
end Go.Proofs.YtlhjibkkkhgonaaGreat
set_option linter.unusedVariables false
set_option linter.unusedSimpArgs false
namespace Go.Proofs.YtlhjibkkkhgonaaGreat
open Go.RowKit G
def rdyOf (N : List Nr) (id : Int) : Bool := ((gt N id).getD zeroN).rdy
theorem rdyOf_at {N : List Nr} (hn : (N.map (·.id)).Nodup) {u : Nat} {x : Nr} (h : (nodesN N)[u]? = some x) : rdyOf N x.id = x.rdy := by
  rw [rdyOf, gt_of hn (nodesN_mem hn h)]; rfl
theorem rdyOf_none {N : List Nr} (hn : (N.map (·.id)).Nodup) {id : Int} (h : ∀ x ∈ nodesN N, x.id ≠ id) : rdyOf N id = false := by
  have : gt N id = none := gt_none.2 fun x hx => h x ((nodesN_perm hn).mem_iff.2 hx)
  rw [rdyOf, this]; rfl
set_option maxHeartbeats 1000000 in
set_option maxRecDepth 100000 in
theorem ready10_walk (H : List SP) (k : Nat) (s : KS) (hk : KOk s) (hid : s.nx ≤ 1099511627776) (id : Int) : ∀ w, Sat w (kerS k s :: H) → Calls Tryz.prog 19 #[.pointer (some ⟨k, 0, none⟩), .int .i64 id] w (Ret (ι := Unit) (fun _ => .bool (rdyOf s.N id)) fun _ => kerS k s :: H) := by
  obtain ⟨M, hM⟩ : ∃ M, nodesN s.N = M := ⟨_, rfl⟩
  have hnd := hk.wf.sk.nd
  have hMl : 1 ≤ M.length ∧ M.length ≤ 60 := by
    rw [← hM, nodesN_len]
    obtain ⟨r, hr, _⟩ := hk.wf.sk.root
    exact ⟨List.length_pos_of_mem hr, hk.wf.sk.len⟩
  refine enterG (fn := Tryz.f19) 27 [.pointer (some ⟨k, 0, none⟩), .int .i64 id] Tryz.func19 (by kernel_rfl) (by kernel_rfl) (by kernel_rfl) ?_
  refine seqR (by kernel_rfl) ?_
  refine regionR 1 (by kernel_rfl) (by kernel_rfl) ?_
  refine (run0 (z := 0) 1 [0, 1, 4] [(0, .pointer (some ⟨k, 0, none⟩)), (1, .int .i64 id), (4, .bool false)] (fun _ => by kernel_rfl) (endR ?_) : RT _ _ _ _ _ _ 1 _)
  refine seqR (by kernel_rfl) ?_
  refine regionR 3 (by kernel_rfl) (by kernel_rfl) ?_
  refine (run0 (z := 2) 1 [1, 4, 7] [(1, .int .i64 id), (4, .bool false), (7, .pointer (some ⟨k, 0, none⟩))] (fun _ => by kernel_rfl) ?_ : RT _ _ _ _ _ _ 3 _)
  refine (stepR (z := 1) (callS 24 [.pointer (some ⟨k, 0, none⟩)] (some 8) (fun (na : Option Addr × Nat) => .slice na.1 M.length na.2) (fun (na : Option Addr × Nat) => (row nE 71 (.slice na.1 M.length na.2) M :: kerS k s :: H)) (fun _ => by kernel_rfl) ((hM ▸ krNodes _ k s hid))) (fun (na : Option Addr × Nat) => ?_) : RT _ _ _ _ _ _ 2 _)
  refine PT.know (KR.isSome (s := ⟨na.1, na.2, M⟩) (rowKRat 0 rfl) (List.ne_nil_of_length_pos (by show 0 < M.length; omega))) ?_
  rintro ⟨nb, no, hnA⟩
  dsimp only at hnA
  rw [hnA]
  refine (run0 (z := 0) 1 [1, 4, 5] [(1, .int .i64 id), (4, .bool false), (5, .slice (some ⟨nb, no, none⟩) M.length na.2)] (fun _ => by kernel_rfl) (endR ?_) : RT _ _ _ _ _ _ 1 _)
  refine seqR (by kernel_rfl) ?_
  refine seqR (by kernel_rfl) ?_
  refine regionR 1 (by kernel_rfl) (by kernel_rfl) ?_
  refine (run0 (z := 0) 1 [1, 4, 5, 6] [(1, .int .i64 id), (4, .bool false), (5, .slice (some ⟨nb, no, none⟩) M.length na.2), (6, .int .i64 0)] (fun _ => by kernel_rfl) (endR ?_) : RT _ _ _ _ _ _ 1 _)
  refine blockR 0 (by kernel_rfl) (by kernel_rfl) ?_
  refine PT.keep (L' := [(1, .int .i64 id), (5, .slice (some ⟨nb, no, none⟩) M.length na.2), (6, .int .i64 0)]) [1, 5, 6] rfl ?_
  refine loopG (fun (u : Nat) => [(1, .int .i64 id), (5, .slice (some ⟨nb, no, none⟩) M.length na.2), (6, .int .i64 (u : Int))]) (fun (u : Nat) => (row nE 71 (.slice (some ⟨nb, no, none⟩) M.length na.2) M :: kerS k s :: H)) (fun k (u : Nat) => k + u = M.length ∧ ∀ v x, v < u → M[v]? = some x → x.id ≠ id) M.length 0 (by kernel_rfl) ⟨by simp, fun v x h => by omega⟩ ?_
  rintro k1 u ⟨hku, hno⟩
  refine seqR (by kernel_rfl) ?_
  refine seqR (by kernel_rfl) ?_
  refine regionR 4 (by kernel_rfl) (by kernel_rfl) ?_
  refine (run0 (z := 0) 4 [1, 5, 6, 12] [(1, .int .i64 id), (5, .slice (some ⟨nb, no, none⟩) M.length na.2), (6, .int .i64 (u : Int)), (12, .bool (decide ((u : Int) < (M.length : Int))))] (fun _ => by kernel_rfl) (endR ?_) : RT _ _ _ _ _ _ 4 _)
  refine condR (b := decide ((u : Int) < (M.length : Int))) (by kernel_rfl) (fun _ => by kernel_rfl) (fun h2 => ?_) (fun h2 => ?_)
  · skip
    have hi : u < M.length := by have := of_decide_eq_true h2; omega
    obtain ⟨x, hx⟩ : ∃ x, M[u]? = some x := ⟨_, List.getElem?_eq_getElem hi⟩
    refine skipR (by kernel_rfl) ?_
    refine seqR (by kernel_rfl) ?_
    refine blockR 1 (by kernel_rfl) (by kernel_rfl) ?_
    refine seqR (by kernel_rfl) ?_
    refine regionR 7 (by kernel_rfl) (by kernel_rfl) ?_
    refine (run0 (z := 5) 2 [1, 5, 6, 15, 16] [(1, .int .i64 id), (5, .slice (some ⟨nb, no, none⟩) M.length na.2), (6, .int .i64 (u : Int)), (15, .slice (some ⟨nb, no, none⟩) M.length na.2), (16, .int .i64 (u : Int))] (fun _ => by kernel_rfl) ?_ : RT _ _ _ _ _ _ 7 _)
    refine (stepR (z := 4) (yldS (idxY 50 (.tmp 15) (.tmp 16) nb no M.length na.2 u 6 71 (u : Int) .i64 (some 17) (fun _ => by kernel_rfl) (by kernel_rfl) (by kernel_rfl) (fun _ => by kernel_rfl) (fun _ => by kernel_rfl) Tryz.underlying50 (by kernel_rfl) (by first | rfl | assumption | simp) (by first | omega | (simp; done) | (simp; omega) | (simp at *; omega)))) (fun _ => ?_) : RT _ _ _ _ _ _ 5 _)
    refine (runR (H := (row nE 71 (.slice (some ⟨nb, no, none⟩) M.length na.2) M :: kerS k s :: H)) (z := 0) 4 [1, 5, 6, 21] [(1, .int .i64 id), (5, .slice (some ⟨nb, no, none⟩) M.length na.2), (6, .int .i64 (u : Int)), (21, .bool (x.id == id))] [(⟨nb, no + u * 6, none⟩, .int .i64 x.id)] (hasC (rowCell (E := nE) (xs := M) 0 rfl (x := x) hx (j := 0) rfl) has0) (fun _ => by kernel_rfl) (endR ?_) : RT _ _ _ _ _ _ 4 _)
    refine condR (b := x.id == id) (by kernel_rfl) (fun _ => by kernel_rfl) (fun h3 => ?_) (fun h3 => ?_)
    · skip
      have h4 : x.id = id := eq_of_beq h3
      refine seqR (by kernel_rfl) ?_
      refine regionR 6 (by kernel_rfl) (by kernel_rfl) ?_
      refine (run0 (z := 4) 2 [1, 5, 6, 22, 23] [(1, .int .i64 id), (5, .slice (some ⟨nb, no, none⟩) M.length na.2), (6, .int .i64 (u : Int)), (22, .slice (some ⟨nb, no, none⟩) M.length na.2), (23, .int .i64 (u : Int))] (fun _ => by kernel_rfl) ?_ : RT _ _ _ _ _ _ 6 _)
      refine (stepR (z := 3) (yldS (idxY 50 (.tmp 22) (.tmp 23) nb no M.length na.2 u 6 71 (u : Int) .i64 (some 24) (fun _ => by kernel_rfl) (by kernel_rfl) (by kernel_rfl) (fun _ => by kernel_rfl) (fun _ => by kernel_rfl) Tryz.underlying50 (by kernel_rfl) (by first | rfl | assumption | simp) (by first | omega | (simp; done) | (simp; omega) | (simp at *; omega)))) (fun _ => ?_) : RT _ _ _ _ _ _ 4 _)
      refine (runR (H := (row nE 71 (.slice (some ⟨nb, no, none⟩) M.length na.2) M :: kerS k s :: H)) (z := 0) 3 [1, 5, 6, 4] [(1, .int .i64 id), (5, .slice (some ⟨nb, no, none⟩) M.length na.2), (6, .int .i64 (u : Int)), (4, .bool x.rdy)] [(⟨nb, no + u * 6 + 5, none⟩, .bool x.rdy)] (hasC (rowCell (E := nE) (xs := M) 0 rfl (x := x) hx (j := 5) rfl) has0) (fun _ => by kernel_rfl) (endR ?_) : RT _ _ _ _ _ _ 3 _)
      refine retR (by kernel_rfl) ?_
      refine blockV ?_
      refine thenV ?_
      refine thenV ?_
      refine blockV ?_
      refine thenV ?_
      refine done0 (.bool x.rdy) (fun _ => by kernel_rfl) (fun w hs => ?_) .ret (.inr rfl)
      exact ⟨(), by rw [← h4, rdyOf_at hnd (by rw [hM]; exact hx)], hs.tail⟩
    · skip
      have h4 : x.id ≠ id := beq_eq_false_iff_ne.1 h3
      refine skipR (by kernel_rfl) ?_
      refine regionR 3 (by kernel_rfl) (by kernel_rfl) ?_
      refine (run0 (z := 0) 3 [1, 5, 6] [(1, .int .i64 id), (5, .slice (some ⟨nb, no, none⟩) M.length na.2), (6, .int .i64 (IntKind.i64.wrap ((u : Int) + 1)))] (fun _ => by kernel_rfl) (endR ?_) : RT _ _ _ _ _ _ 3 _)
      rw [show IntKind.i64.wrap ((u : Int) + 1) = ((u : Int) + 1) by rw [w64 (by omega) (by omega)]]
      refine PT.keep (L' := [(1, .int .i64 id), (5, .slice (some ⟨nb, no, none⟩) M.length na.2), (6, .int .i64 ((u : Int) + 1))]) [1, 5, 6] rfl ?_
      exact againG (k1 - 1) (u + 1) rfl rfl (by omega) ⟨by omega, fun v y hv hy => by rcases Nat.lt_succ_iff_lt_or_eq.1 hv with hv | rfl; exact hno v y hv hy; rw [hx] at hy; cases hy; exact h4⟩
  · skip
    have hi : u = M.length := by have := of_decide_eq_false h2; omega
    refine exitR 0 (by kernel_rfl) (by kernel_rfl) ?_
    refine thenX ?_
    refine thenX ?_
    refine leaveR ?_
    refine seqR (by kernel_rfl) ?_
    refine regionR 1 (by kernel_rfl) (by kernel_rfl) ?_
    refine (run0 (z := 0) 1 [4] [(4, .bool false)] (fun _ => by kernel_rfl) (endR ?_) : RT _ _ _ _ _ _ 1 _)
    refine retR (by kernel_rfl) ?_
    refine done0 (.bool false) (fun _ => by kernel_rfl) (fun w hs => ?_) .ret (.inr rfl)
    exact ⟨(), by rw [rdyOf_none hnd fun x hx => by rw [hM] at hx; obtain ⟨v, hv⟩ := List.getElem?_of_mem hx; exact hno v x (by have := (List.getElem?_eq_some_iff.1 hv).1; omega) hv], hs.tail⟩
end Go.Proofs.YtlhjibkkkhgonaaGreat
set_option linter.unusedVariables false
set_option linter.unusedSimpArgs false
namespace Go.Proofs.YtlhjibkkkhgonaaGreat
open Go.RowKit G
def kq0 : KS := ⟨kn01, [], ob0, 2, 1, 2⟩
def kq1 : KS := ⟨[⟨0, -1, 1, 0, false, true, 0⟩, ⟨1, 0, 1, 720720, true, true, 0⟩], [], ob0, 2, 1, 2⟩
def kq2 : KS := ⟨[⟨0, -1, 1, 0, false, true, 0⟩, ⟨1, 0, 1, 720720, true, true, 0⟩, ⟨2, 0, 2, 0, true, true, 0⟩], [], ob0, 2, 1, 3⟩
def kq4 : KS := ⟨[⟨0, -1, 1, 0, false, true, 0⟩, ⟨1, 0, 1, 720720, true, true, 0⟩, ⟨2, 0, 2, 0, true, true, 0⟩, ⟨3, 0, 1, 0, false, false, 0⟩], [], ob0, 2, 1, 4⟩
def kq5 : KS := ⟨[⟨0, -1, 1, 0, false, true, 0⟩, ⟨1, 0, 1, 720720, true, false, 0⟩, ⟨2, 0, 2, 0, true, true, 0⟩, ⟨3, 0, 1, 0, false, false, 0⟩], [(1, 9)], ob0, 2, 1, 4⟩
def kq6 : KS := ⟨[⟨0, -1, 1, 0, false, false, 0⟩, ⟨1, 0, 1, 720720, true, false, 0⟩, ⟨2, 0, 2, 0, true, false, 0⟩, ⟨3, 0, 1, 0, false, false, 0⟩], [(1, 9)], [(0, [2]), (0, []), (0, []), (0, [])], 2, 1, 4⟩
def kq8 : KS := ⟨[⟨0, -1, 1, 0, false, true, 0⟩, ⟨1, 0, 1, 720720, true, false, 0⟩, ⟨2, 0, 2, 360360, true, true, 0⟩, ⟨3, 0, 1, 0, false, false, 0⟩], [(1, 9)], ob0, 2, 1, 4⟩
def kq9 : KS := ⟨[⟨0, -1, 1, 0, false, true, 0⟩, ⟨1, 0, 1, 720720, true, true, 0⟩, ⟨2, 0, 2, 360360, true, true, 0⟩, ⟨3, 0, 1, 0, false, false, 0⟩], [], ob0, 2, 1, 4⟩
theorem kq_1 : krun kq0 = ((1, true), kq1) := by rfl
theorem kq_2 : kspawn kq1 0 2 = ((2, 0), kq2) := by rfl
theorem kq_3 : kspawn kq2 0 2 = ((0, 14), kq2) := by rfl
theorem kq_4 : kgroup kq2 0 1 = ((3, 0), kq4) := by rfl
theorem kq_5 : ksleep kq4 1 9 = (0, kq5) := by rfl
theorem kq_6 : kwait kq5 2 0 = ((false, 0), kq6) := by rfl
theorem kq_7 : ksignal kq6 0 = (0, kq5) := by rfl
theorem kq_8 : krun kq5 = ((2, true), kq8) := by rfl
theorem kq_9 : kwake kq8 9 = ([1], kq9) := by rfl
theorem kq_10 : kexit kq9 7 = (13, kq9) := by rfl
theorem kq0_is : k0 (mtOf 2) (mgOf 1) = kq0 := k0_is (by decide)
set_option maxHeartbeats 1000000 in
set_option maxRecDepth 100000 in
theorem known10 (H : List SP) : ∀ w, Sat w H → Calls Tryz.prog 10 #[] w (Ret (ι := Unit) (fun _ => .bool true) fun _ => H) := by
  refine enterG (fn := Tryz.f10) 140 [] Tryz.func10 (by kernel_rfl) (by kernel_rfl) (by kernel_rfl) ?_
  refine seqR (by kernel_rfl) ?_
  refine regionR 1 (by kernel_rfl) (by kernel_rfl) ?_
  refine (run0 (z := 0) 1 [0] [(0, .bool false)] (fun _ => by kernel_rfl) (endR ?_) : RT _ _ _ _ _ _ 1 _)
  refine seqR (by kernel_rfl) ?_
  refine regionR 2 (by kernel_rfl) (by kernel_rfl) ?_
  refine (stepR (z := 1) (callS 11 [.int .i64 2, .int .i64 1] (some 19) (fun (k : Nat) => .pointer (some ⟨k, 0, none⟩)) (fun (k : Nat) => (kerS k kq0 :: H)) (fun _ => by kernel_rfl) ((kq0_is ▸ knew_walk _ 2 1))) (fun (k : Nat) => ?_) : RT _ _ _ _ _ _ 2 _)
  refine (run0 (z := 0) 1 [0, 1] [(0, .bool false), (1, .pointer (some ⟨k, 0, none⟩))] (fun _ => by kernel_rfl) (endR ?_) : RT _ _ _ _ _ _ 1 _)
  refine seqR (by kernel_rfl) ?_
  refine seqR (by kernel_rfl) ?_
  refine regionR 2 (by kernel_rfl) (by kernel_rfl) ?_
  refine (run0 (z := 0) 2 [0, 1, 21] [(0, .bool false), (1, .pointer (some ⟨k, 0, none⟩)), (21, .bool false)] (fun _ => by kernel_rfl) (endR ?_) : RT _ _ _ _ _ _ 2 _)
  refine condR (b := false) (by kernel_rfl) (fun _ => by kernel_rfl) (fun h => by cases h) (fun _ => ?_)
  refine skipR (by kernel_rfl) ?_
  refine seqR (by kernel_rfl) ?_
  refine regionR 7 (by kernel_rfl) (by kernel_rfl) ?_
  refine (run0 (z := 6) 1 [0, 1, 23] [(0, .bool false), (1, .pointer (some ⟨k, 0, none⟩)), (23, .pointer (some ⟨k, 0, none⟩))] (fun _ => by kernel_rfl) ?_ : RT _ _ _ _ _ _ 7 _)
  refine (stepR (z := 5) (callS 15 [.pointer (some ⟨k, 0, none⟩)] (some 24) (fun _ => .tuple #[.int .i64 1, .bool true]) (fun _ => (kerS k kq1 :: H)) (fun _ => by kernel_rfl) ((by have h := krRun H k kq0; rw [kq_1] at h; exact h))) (fun _ => ?_) : RT _ _ _ _ _ _ 6 _)
  refine (run0 (z := 0) 5 [0, 1, 2, 3] [(0, .bool false), (1, .pointer (some ⟨k, 0, none⟩)), (2, .int .i64 1), (3, .bool true)] (fun _ => by kernel_rfl) (endR ?_) : RT _ _ _ _ _ _ 5 _)
  refine seqR (by kernel_rfl) ?_
  refine regionR 7 (by kernel_rfl) (by kernel_rfl) ?_
  refine (run0 (z := 6) 1 [0, 1, 2, 3, 28] [(0, .bool false), (1, .pointer (some ⟨k, 0, none⟩)), (2, .int .i64 1), (3, .bool true), (28, .pointer (some ⟨k, 0, none⟩))] (fun _ => by kernel_rfl) ?_ : RT _ _ _ _ _ _ 7 _)
  refine (stepR (z := 5) (callS 12 [.pointer (some ⟨k, 0, none⟩), .int .i64 0, .int .i64 2] (some 29) (fun _ => .tuple #[.int .i64 2, .nilIface]) (fun _ => (kerS k kq2 :: H)) (fun _ => by kernel_rfl) ((by have h := krSpawn H k kq1 (by decide) 0 2; rw [kq_2] at h; exact h))) (fun _ => ?_) : RT _ _ _ _ _ _ 6 _)
  refine (run0 (z := 0) 5 [0, 1, 2, 3, 4, 5] [(0, .bool false), (1, .pointer (some ⟨k, 0, none⟩)), (2, .int .i64 1), (3, .bool true), (4, .int .i64 2), (5, .nilIface)] (fun _ => by kernel_rfl) (endR ?_) : RT _ _ _ _ _ _ 5 _)
  refine seqR (by kernel_rfl) ?_
  refine regionR 7 (by kernel_rfl) (by kernel_rfl) ?_
  refine (run0 (z := 6) 1 [0, 1, 2, 3, 4, 5, 33] [(0, .bool false), (1, .pointer (some ⟨k, 0, none⟩)), (2, .int .i64 1), (3, .bool true), (4, .int .i64 2), (5, .nilIface), (33, .pointer (some ⟨k, 0, none⟩))] (fun _ => by kernel_rfl) ?_ : RT _ _ _ _ _ _ 7 _)
  refine (stepR (z := 5) (callS 12 [.pointer (some ⟨k, 0, none⟩), .int .i64 0, .int .i64 2] (some 34) (fun _ => .tuple #[.int .i64 0, .iface 40 (.int .i64 14)]) (fun _ => (kerS k kq2 :: H)) (fun _ => by kernel_rfl) ((by have h := krSpawn H k kq2 (by decide) 0 2; rw [kq_3] at h; exact h))) (fun _ => ?_) : RT _ _ _ _ _ _ 6 _)
  refine (run0 (z := 0) 5 [0, 1, 2, 3, 4, 5, 7] [(0, .bool false), (1, .pointer (some ⟨k, 0, none⟩)), (2, .int .i64 1), (3, .bool true), (4, .int .i64 2), (5, .nilIface), (7, .iface 40 (.int .i64 14))] (fun _ => by kernel_rfl) (endR ?_) : RT _ _ _ _ _ _ 5 _)
  refine seqR (by kernel_rfl) ?_
  refine regionR 7 (by kernel_rfl) (by kernel_rfl) ?_
  refine (run0 (z := 6) 1 [0, 1, 2, 3, 4, 5, 7, 38] [(0, .bool false), (1, .pointer (some ⟨k, 0, none⟩)), (2, .int .i64 1), (3, .bool true), (4, .int .i64 2), (5, .nilIface), (7, .iface 40 (.int .i64 14)), (38, .pointer (some ⟨k, 0, none⟩))] (fun _ => by kernel_rfl) ?_ : RT _ _ _ _ _ _ 7 _)
  refine (stepR (z := 5) (callS 13 [.pointer (some ⟨k, 0, none⟩), .int .i64 0, .int .i64 1] (some 39) (fun _ => .tuple #[.int .i64 3, .nilIface]) (fun _ => (kerS k kq4 :: H)) (fun _ => by kernel_rfl) ((by have h := krGroup H k kq2 (by decide) 0 1; rw [kq_4] at h; exact h))) (fun _ => ?_) : RT _ _ _ _ _ _ 6 _)
  refine (run0 (z := 0) 5 [0, 1, 2, 3, 4, 5, 7, 8, 9] [(0, .bool false), (1, .pointer (some ⟨k, 0, none⟩)), (2, .int .i64 1), (3, .bool true), (4, .int .i64 2), (5, .nilIface), (7, .iface 40 (.int .i64 14)), (8, .int .i64 3), (9, .nilIface)] (fun _ => by kernel_rfl) (endR ?_) : RT _ _ _ _ _ _ 5 _)
  refine seqR (by kernel_rfl) ?_
  refine regionR 3 (by kernel_rfl) (by kernel_rfl) ?_
  refine (run0 (z := 2) 1 [0, 1, 2, 3, 4, 5, 7, 8, 9, 42] [(0, .bool false), (1, .pointer (some ⟨k, 0, none⟩)), (2, .int .i64 1), (3, .bool true), (4, .int .i64 2), (5, .nilIface), (7, .iface 40 (.int .i64 14)), (8, .int .i64 3), (9, .nilIface), (42, .pointer (some ⟨k, 0, none⟩))] (fun _ => by kernel_rfl) ?_ : RT _ _ _ _ _ _ 3 _)
  refine (stepR (z := 1) (callS 16 [.pointer (some ⟨k, 0, none⟩), .int .i64 1, .int .i64 9] (some 43) (fun _ => .nilIface) (fun _ => (kerS k kq5 :: H)) (fun _ => by kernel_rfl) ((by have h := krSleep H k kq4 1 9; rw [kq_5] at h; exact h))) (fun _ => ?_) : RT _ _ _ _ _ _ 2 _)
  refine (run0 (z := 0) 1 [0, 1, 2, 3, 4, 5, 7, 8, 9, 10] [(0, .bool false), (1, .pointer (some ⟨k, 0, none⟩)), (2, .int .i64 1), (3, .bool true), (4, .int .i64 2), (5, .nilIface), (7, .iface 40 (.int .i64 14)), (8, .int .i64 3), (9, .nilIface), (10, .nilIface)] (fun _ => by kernel_rfl) (endR ?_) : RT _ _ _ _ _ _ 1 _)
  refine seqR (by kernel_rfl) ?_
  refine regionR 7 (by kernel_rfl) (by kernel_rfl) ?_
  refine (run0 (z := 6) 1 [0, 1, 2, 3, 4, 5, 7, 8, 9, 10, 45] [(0, .bool false), (1, .pointer (some ⟨k, 0, none⟩)), (2, .int .i64 1), (3, .bool true), (4, .int .i64 2), (5, .nilIface), (7, .iface 40 (.int .i64 14)), (8, .int .i64 3), (9, .nilIface), (10, .nilIface), (45, .pointer (some ⟨k, 0, none⟩))] (fun _ => by kernel_rfl) ?_ : RT _ _ _ _ _ _ 7 _)
  refine (stepR (z := 5) (callS 17 [.pointer (some ⟨k, 0, none⟩), .int .i64 2, .int .i64 0] (some 46) (fun _ => .tuple #[.bool false, .nilIface]) (fun _ => (kerS k kq6 :: H)) (fun _ => by kernel_rfl) ((by have h := krWait H k kq5 2 0; rw [kq_6] at h; exact h))) (fun _ => ?_) : RT _ _ _ _ _ _ 6 _)
  refine (run0 (z := 0) 5 [0, 1, 2, 3, 4, 5, 7, 8, 9, 10, 11, 12] [(0, .bool false), (1, .pointer (some ⟨k, 0, none⟩)), (2, .int .i64 1), (3, .bool true), (4, .int .i64 2), (5, .nilIface), (7, .iface 40 (.int .i64 14)), (8, .int .i64 3), (9, .nilIface), (10, .nilIface), (11, .bool false), (12, .nilIface)] (fun _ => by kernel_rfl) (endR ?_) : RT _ _ _ _ _ _ 5 _)
  refine seqR (by kernel_rfl) ?_
  refine regionR 3 (by kernel_rfl) (by kernel_rfl) ?_
  refine (run0 (z := 2) 1 [0, 1, 2, 3, 4, 5, 7, 8, 9, 10, 11, 12, 49] [(0, .bool false), (1, .pointer (some ⟨k, 0, none⟩)), (2, .int .i64 1), (3, .bool true), (4, .int .i64 2), (5, .nilIface), (7, .iface 40 (.int .i64 14)), (8, .int .i64 3), (9, .nilIface), (10, .nilIface), (11, .bool false), (12, .nilIface), (49, .pointer (some ⟨k, 0, none⟩))] (fun _ => by kernel_rfl) ?_ : RT _ _ _ _ _ _ 3 _)
  refine (stepR (z := 1) (callS 23 [.pointer (some ⟨k, 0, none⟩)] (some 50) (fun _ => .bool false) (fun _ => (kerS k kq6 :: H)) (fun _ => by kernel_rfl) ((krRunnable H k kq6))) (fun _ => ?_) : RT _ _ _ _ _ _ 2 _)
  refine (run0 (z := 0) 1 [0, 1, 2, 3, 4, 5, 7, 8, 9, 10, 11, 12, 13] [(0, .bool false), (1, .pointer (some ⟨k, 0, none⟩)), (2, .int .i64 1), (3, .bool true), (4, .int .i64 2), (5, .nilIface), (7, .iface 40 (.int .i64 14)), (8, .int .i64 3), (9, .nilIface), (10, .nilIface), (11, .bool false), (12, .nilIface), (13, .bool false)] (fun _ => by kernel_rfl) (endR ?_) : RT _ _ _ _ _ _ 1 _)
  refine seqR (by kernel_rfl) ?_
  refine regionR 3 (by kernel_rfl) (by kernel_rfl) ?_
  refine (run0 (z := 2) 1 [0, 1, 2, 3, 4, 5, 7, 8, 9, 10, 11, 12, 13, 51] [(0, .bool false), (1, .pointer (some ⟨k, 0, none⟩)), (2, .int .i64 1), (3, .bool true), (4, .int .i64 2), (5, .nilIface), (7, .iface 40 (.int .i64 14)), (8, .int .i64 3), (9, .nilIface), (10, .nilIface), (11, .bool false), (12, .nilIface), (13, .bool false), (51, .pointer (some ⟨k, 0, none⟩))] (fun _ => by kernel_rfl) ?_ : RT _ _ _ _ _ _ 3 _)
  refine (stepR (z := 1) (callS 21 [.pointer (some ⟨k, 0, none⟩), .int .i64 0] (some 52) (fun _ => .nilIface) (fun _ => (kerS k kq5 :: H)) (fun _ => by kernel_rfl) ((by have h := krSignal H k kq6 0; rw [kq_7] at h; exact h))) (fun _ => ?_) : RT _ _ _ _ _ _ 2 _)
  refine (run0 (z := 0) 1 [0, 1, 2, 3, 4, 5, 7, 8, 9, 10, 11, 12, 13, 14] [(0, .bool false), (1, .pointer (some ⟨k, 0, none⟩)), (2, .int .i64 1), (3, .bool true), (4, .int .i64 2), (5, .nilIface), (7, .iface 40 (.int .i64 14)), (8, .int .i64 3), (9, .nilIface), (10, .nilIface), (11, .bool false), (12, .nilIface), (13, .bool false), (14, .nilIface)] (fun _ => by kernel_rfl) (endR ?_) : RT _ _ _ _ _ _ 1 _)
  refine seqR (by kernel_rfl) ?_
  refine regionR 7 (by kernel_rfl) (by kernel_rfl) ?_
  refine (run0 (z := 6) 1 [0, 1, 2, 3, 4, 5, 7, 8, 9, 10, 11, 12, 13, 14, 54] [(0, .bool false), (1, .pointer (some ⟨k, 0, none⟩)), (2, .int .i64 1), (3, .bool true), (4, .int .i64 2), (5, .nilIface), (7, .iface 40 (.int .i64 14)), (8, .int .i64 3), (9, .nilIface), (10, .nilIface), (11, .bool false), (12, .nilIface), (13, .bool false), (14, .nilIface), (54, .pointer (some ⟨k, 0, none⟩))] (fun _ => by kernel_rfl) ?_ : RT _ _ _ _ _ _ 7 _)
  refine (stepR (z := 5) (callS 15 [.pointer (some ⟨k, 0, none⟩)] (some 55) (fun _ => .tuple #[.int .i64 2, .bool true]) (fun _ => (kerS k kq8 :: H)) (fun _ => by kernel_rfl) ((by have h := krRun H k kq5; rw [kq_8] at h; exact h))) (fun _ => ?_) : RT _ _ _ _ _ _ 6 _)
  refine (run0 (z := 0) 5 [0, 1, 2, 3, 4, 5, 7, 8, 9, 10, 11, 12, 13, 14, 15] [(0, .bool false), (1, .pointer (some ⟨k, 0, none⟩)), (2, .int .i64 1), (3, .bool true), (4, .int .i64 2), (5, .nilIface), (7, .iface 40 (.int .i64 14)), (8, .int .i64 3), (9, .nilIface), (10, .nilIface), (11, .bool false), (12, .nilIface), (13, .bool false), (14, .nilIface), (15, .int .i64 2)] (fun _ => by kernel_rfl) (endR ?_) : RT _ _ _ _ _ _ 5 _)
  refine seqR (by kernel_rfl) ?_
  refine regionR 3 (by kernel_rfl) (by kernel_rfl) ?_
  refine (run0 (z := 2) 1 [0, 1, 2, 3, 4, 5, 7, 8, 9, 10, 11, 12, 13, 14, 15, 58] [(0, .bool false), (1, .pointer (some ⟨k, 0, none⟩)), (2, .int .i64 1), (3, .bool true), (4, .int .i64 2), (5, .nilIface), (7, .iface 40 (.int .i64 14)), (8, .int .i64 3), (9, .nilIface), (10, .nilIface), (11, .bool false), (12, .nilIface), (13, .bool false), (14, .nilIface), (15, .int .i64 2), (58, .pointer (some ⟨k, 0, none⟩))] (fun _ => by kernel_rfl) ?_ : RT _ _ _ _ _ _ 3 _)
  refine (stepR (z := 1) (callS 20 [.pointer (some ⟨k, 0, none⟩), .int .i64 9] (some 59) (fun (r : Option Addr × Nat) => .slice r.1 1 r.2) (fun (r : Option Addr × Nat) => row (kE .i64) 3 (.slice r.1 1 r.2) [1] :: kerS k kq9 :: H) (fun _ => by kernel_rfl) ((by have h := krWake H k kq8 9; rw [kq_9] at h; exact h))) (fun (r : Option Addr × Nat) => ?_) : RT _ _ _ _ _ _ 2 _)
  refine (run0 (z := 0) 1 [0, 1, 2, 3, 4, 5, 7, 8, 9, 10, 11, 12, 13, 14, 15, 17] [(0, .bool false), (1, .pointer (some ⟨k, 0, none⟩)), (2, .int .i64 1), (3, .bool true), (4, .int .i64 2), (5, .nilIface), (7, .iface 40 (.int .i64 14)), (8, .int .i64 3), (9, .nilIface), (10, .nilIface), (11, .bool false), (12, .nilIface), (13, .bool false), (14, .nilIface), (15, .int .i64 2), (17, .slice r.1 1 r.2)] (fun _ => by kernel_rfl) (endR ?_) : RT _ _ _ _ _ _ 1 _)
  refine seqR (by kernel_rfl) ?_
  refine regionR 3 (by kernel_rfl) (by kernel_rfl) ?_
  refine (run0 (z := 2) 1 [0, 1, 2, 3, 4, 5, 7, 8, 9, 10, 11, 12, 13, 14, 15, 17, 60] [(0, .bool false), (1, .pointer (some ⟨k, 0, none⟩)), (2, .int .i64 1), (3, .bool true), (4, .int .i64 2), (5, .nilIface), (7, .iface 40 (.int .i64 14)), (8, .int .i64 3), (9, .nilIface), (10, .nilIface), (11, .bool false), (12, .nilIface), (13, .bool false), (14, .nilIface), (15, .int .i64 2), (17, .slice r.1 1 r.2), (60, .pointer (some ⟨k, 0, none⟩))] (fun _ => by kernel_rfl) ?_ : RT _ _ _ _ _ _ 3 _)
  refine (RT.pick 0 rfl ?_ : RT _ _ _ (row (kE .i64) 3 (.slice r.1 1 r.2) [1] :: kerS k kq9 :: H) _ _ 2 _)
  refine (RT.pick 1 rfl ?_ : RT _ _ _ (row (kE .i64) 3 (.slice r.1 1 r.2) [1] :: kerS k kq9 :: H) _ _ 2 _)
  refine (stepR (z := 1) (callS 14 [.pointer (some ⟨k, 0, none⟩), .int .i64 7] (some 61) (fun _ => .iface 40 (.int .i64 13)) (fun _ => (kerS k kq9 :: row (kE .i64) 3 (.slice r.1 1 r.2) [1] :: H)) (fun _ => by kernel_rfl) ((by have h := krExit (row (kE .i64) 3 (.slice r.1 1 r.2) [1] :: H) k kq9 7; rw [kq_10] at h; exact h))) (fun _ => ?_) : RT _ _ _ _ _ _ 2 _)
  refine PT.know (KR.isSome (s := ⟨r.1, r.2, [1]⟩) (rowKRat 1 rfl) (by simp)) ?_
  rintro ⟨sb, so, hA⟩
  dsimp only at hA
  rw [hA]
  refine (run0 (z := 0) 1 [0, 1, 2, 3, 4, 5, 7, 8, 9, 10, 11, 12, 13, 14, 15, 17, 18] [(0, .bool false), (1, .pointer (some ⟨k, 0, none⟩)), (2, .int .i64 1), (3, .bool true), (4, .int .i64 2), (5, .nilIface), (7, .iface 40 (.int .i64 14)), (8, .int .i64 3), (9, .nilIface), (10, .nilIface), (11, .bool false), (12, .nilIface), (13, .bool false), (14, .nilIface), (15, .int .i64 2), (17, .slice (some ⟨sb, so, none⟩) 1 r.2), (18, .iface 40 (.int .i64 13))] (fun _ => by kernel_rfl) (endR ?_) : RT _ _ _ _ _ _ 1 _)
  refine seqR (by kernel_rfl) ?_
  refine regionR 79 (by kernel_rfl) (by kernel_rfl) ?_
  refine (run0 (z := 63) 16 [0, 1, 8, 9, 10, 11, 12, 13, 14, 15, 17, 18, 75, 76, 77] [(0, .bool false), (1, .pointer (some ⟨k, 0, none⟩)), (8, .int .i64 3), (9, .nilIface), (10, .nilIface), (11, .bool false), (12, .nilIface), (13, .bool false), (14, .nilIface), (15, .int .i64 2), (17, .slice (some ⟨sb, so, none⟩) 1 r.2), (18, .iface 40 (.int .i64 13)), (75, .bool true), (76, .iface 40 (.int .i64 14)), (77, .iface 40 (.int .i64 14))] (fun _ => by kernel_rfl) ?_ : RT _ _ _ _ _ _ 79 _)
  refine (stepR (z := 62) (callS 18 [.iface 40 (.int .i64 14), .iface 40 (.int .i64 14)] (some 78) (fun _ => .bool (14 == 14)) (fun (_ : Unit) => (kerS k kq9 :: row (kE .i64) 3 (.slice (some ⟨sb, so, none⟩) 1 r.2) [1] :: H)) (fun _ => by kernel_rfl) (isErr_walk _ 14 14)) (fun _ => ?_) : RT _ _ _ _ _ _ 63 _)
  refine (run0 (z := 22) 40 [0, 1, 18, 117, 118] [(0, .bool false), (1, .pointer (some ⟨k, 0, none⟩)), (18, .iface 40 (.int .i64 13)), (117, .bool true), (118, .slice (some ⟨sb, so, none⟩) 1 r.2)] (fun _ => by kernel_rfl) ?_ : RT _ _ _ _ _ _ 62 _)
  refine (stepR (z := 21) (yldS (idxY 42 (.tmp 118) (.const (.int .i64 0)) sb so 1 r.2 0 1 3 0 .i64 (some 119) (fun _ => by kernel_rfl) (by kernel_rfl) (by kernel_rfl) (fun _ => by kernel_rfl) (fun _ => by kernel_rfl) Tryz.underlying42 (by kernel_rfl) (by first | rfl | assumption | simp) (by first | omega | (simp; done) | (simp; omega) | (simp at *; omega)))) (fun _ => ?_) : RT _ _ _ _ _ _ 22 _)
  refine (runR (H := (kerS k kq9 :: row (kE .i64) 3 (.slice (some ⟨sb, so, none⟩) 1 r.2) [1] :: H)) (z := 15) 6 [0, 1, 123, 124, 125] [(0, .bool false), (1, .pointer (some ⟨k, 0, none⟩)), (123, .bool true), (124, .iface 40 (.int .i64 13)), (125, .iface 40 (.int .i64 13))] [(⟨sb, so + 0 * 1, none⟩, .int .i64 1)] (hasC (rowCell (E := kE .i64) (xs := [1]) 1 rfl (J := 0) (x := (1 : Int)) rfl (j := 0) rfl) has0) (fun _ => by kernel_rfl) ?_ : RT _ _ _ _ _ _ 21 _)
  refine (stepR (z := 14) (callS 18 [.iface 40 (.int .i64 13), .iface 40 (.int .i64 13)] (some 126) (fun _ => .bool (13 == 13)) (fun (_ : Unit) => (kerS k kq9 :: row (kE .i64) 3 (.slice (some ⟨sb, so, none⟩) 1 r.2) [1] :: H)) (fun _ => by kernel_rfl) (isErr_walk _ 13 13)) (fun _ => ?_) : RT _ _ _ _ _ _ 15 _)
  refine (run0 (z := 11) 3 [0, 1, 128, 129] [(0, .bool false), (1, .pointer (some ⟨k, 0, none⟩)), (128, .bool true), (129, .pointer (some ⟨k, 0, none⟩))] (fun _ => by kernel_rfl) ?_ : RT _ _ _ _ _ _ 14 _)
  refine (stepR (z := 10) (callS 22 [.pointer (some ⟨k, 0, none⟩)] (some 130) (fun (p : Option Addr × Nat) => .slice p.1 2 p.2) (fun (p : Option Addr × Nat) => (row (kE .i64) 3 (.slice p.1 2 p.2) [1, 2] :: kerS k kq9 :: row (kE .i64) 3 (.slice (some ⟨sb, so, none⟩) 1 r.2) [1] :: H)) (fun _ => by kernel_rfl) ((by have h := krThreads (row (kE .i64) 3 (.slice (some ⟨sb, so, none⟩) 1 r.2) [1] :: H) k kq9 (by decide); rw [show kthreads kq9 = [1, 2] by rw [kthreads, nodesN, sortI, List.mergeSort_of_pairwise (by decide)]; rfl] at h; exact h))) (fun (p : Option Addr × Nat) => ?_) : RT _ _ _ _ _ _ 11 _)
  refine (run0 (z := 5) 5 [0, 134, 135] [(0, .bool false), (134, .bool true), (135, .pointer (some ⟨k, 0, none⟩))] (fun _ => by kernel_rfl) ?_ : RT _ _ _ _ _ _ 10 _)
  refine (RT.pick 2 rfl ?_ : RT _ _ _ (row (kE .i64) 3 (.slice p.1 2 p.2) [1, 2] :: kerS k kq9 :: row (kE .i64) 3 (.slice (some ⟨sb, so, none⟩) 1 r.2) [1] :: H) _ _ 5 _)
  refine (RT.pick 1 rfl ?_ : RT _ _ _ (row (kE .i64) 3 (.slice (some ⟨sb, so, none⟩) 1 r.2) [1] :: row (kE .i64) 3 (.slice p.1 2 p.2) [1, 2] :: kerS k kq9 :: H) _ _ 5 _)
  refine (RT.pick 2 rfl ?_ : RT _ _ _ (row (kE .i64) 3 (.slice p.1 2 p.2) [1, 2] :: row (kE .i64) 3 (.slice (some ⟨sb, so, none⟩) 1 r.2) [1] :: kerS k kq9 :: H) _ _ 5 _)
  refine (stepR (z := 4) (callS 24 [.pointer (some ⟨k, 0, none⟩)] (some 136) (fun (q : Option Addr × Nat) => .slice q.1 4 q.2) (fun (q : Option Addr × Nat) => (row nE 71 (.slice q.1 4 q.2) (nodesN kq9.N) :: kerS k kq9 :: row (kE .i64) 3 (.slice p.1 2 p.2) [1, 2] :: row (kE .i64) 3 (.slice (some ⟨sb, so, none⟩) 1 r.2) [1] :: H)) (fun _ => by kernel_rfl) ((by have h := krNodes (row (kE .i64) 3 (.slice p.1 2 p.2) [1, 2] :: row (kE .i64) 3 (.slice (some ⟨sb, so, none⟩) 1 r.2) [1] :: H) k kq9 (by decide); rw [show (nodesN kq9.N).length = 4 by rw [nodesN_len]; rfl] at h; exact h))) (fun (q : Option Addr × Nat) => ?_) : RT _ _ _ _ _ _ 5 _)
  refine (run0 (z := 0) 4 [0] [(0, .bool true)] (fun _ => by kernel_rfl) (endR ?_) : RT _ _ _ _ _ _ 4 _)
  refine retR (by kernel_rfl) ?_
  refine done0 (.bool true) (fun _ => by kernel_rfl) (fun w hs => ?_) .ret (.inr rfl)
  exact ⟨(), rfl, hs.tail.tail.tail.tail⟩
end Go.Proofs.YtlhjibkkkhgonaaGreat
set_option linter.unusedVariables false
set_option linter.unusedSimpArgs false
namespace Go.Proofs.YtlhjibkkkhgonaaGreat
open Go.RowKit G
theorem krun_id {s : KS} (h : KOk s) (hr : (krun s).1.2 = true) : 1 ≤ (krun s).1.1 ∧ (krun s).1.1 < s.nx := by
  have hw := h.wf
  unfold krun at hr ⊢
  cases hg : gt s.N 0 with
  | none => rw [runN, hg] at hr; cases hr
  | some r =>
    cases hrd : r.rdy with
    | false => rw [runN, hg] at hr; simp only [hrd] at hr; cases hr
    | true =>
      obtain ⟨y, id, g, h1, _, _, _, ⟨t, ht, hti, htt, _⟩, _⟩ := run_root hw hg hrd
      rw [h1]
      show 1 ≤ id ∧ id < s.nx
      have h2 := h.ids t ht
      have h3 : t.id ≠ 0 := fun e => by have := (hw.sk.rt t ht e).2; rw [htt] at this; cases this
      have h4 := (hw.sk.pa t ht h3).1
      omega
theorem kadds_no {s : KS} {par wt most : Int} {thr : Bool} (h : (kadds s par wt most thr).1.2 ≠ 0) : (kadds s par wt most thr).2 = s := by
  unfold kadds at h ⊢
  split
  · rfl
  · split
    · rfl
    · split
      · rfl
      · split
        · rfl
        · rename_i c1 c2 c3 c4
          rw [if_neg c1, if_neg c2, if_neg c3, if_neg c4] at h
          exact absurd rfl h
end Go.Proofs.YtlhjibkkkhgonaaGreat
