/- The document's timers: walks. Conditions: none. -/
import Derived.Test.YtgkhnmeemiloaaaTim2
set_option linter.unusedVariables false
set_option linter.unusedSimpArgs false
namespace Go.Proofs.Ytgkhnmeemiloaaa
open Go.RowKit

def RtAt (w : World) (F : Nat → Prop) (p : Value) (l : List (Int × Int)) : Prop := PsAt slE 29 61 w F p l
def RtPost (F : Nat → Prop) (w : World) (p R : Value) (l : List (Int × Int)) (e : Ending) (w' : World) : Prop := PsPost slE 29 61 F w p R l e w'
theorem infoRs : (Try.prog.info? 61).map (fun i => (i.zero, i.size, i.bytes)) = some (some (.agg #[.int .i64 0, .int .i64 0]), 2, 16) := by kernel_rfl
theorem etyRs : Ety Try.prog slE 61 (.agg #[.int .i64 0, .int .i64 0]) := by
  obtain ⟨i, hi, hz, hs, hb⟩ := info_parts infoRs
  exact ⟨⟨i, hi, hz, hs, by omega⟩, rfl⟩

def rtDrop (id : Int) (l : List (Int × Int)) : List (Int × Int) := l.filter (fun p => decide (p.1 ≠ id))
def rtSet (id u : Int) (l : List (Int × Int)) : List (Int × Int) := (rtDrop id l).takeWhile (fun p => decide (p.1 < id)) ++ (id, u) :: (rtDrop id l).dropWhile (fun p => decide (p.1 < id))

theorem rtDrop_take (id : Int) (l : List (Int × Int)) (k : Nat) (y : Int × Int) (hy : l[k]? = some y) : (y.1 ≠ id → rtDrop id (l.take (k + 1)) = rtDrop id (l.take k) ++ [y]) ∧ (y.1 = id → rtDrop id (l.take (k + 1)) = rtDrop id (l.take k)) := by
  have ht : l.take (k + 1) = l.take k ++ [y] := by rw [List.take_add_one, hy]; rfl
  rw [ht]
  exact ⟨fun h => by simp [rtDrop, List.filter_append, h], fun h => by simp [rtDrop, List.filter_append, h]⟩
theorem rtDrop_len (id : Int) (l : List (Int × Int)) (k : Nat) : (rtDrop id (l.take k)).length ≤ k := Nat.le_trans (List.length_filter_le _ _) (List.length_take_le k l)

/-- What stays so far. -/
def RdRel (w : World) (l : List (Int × Int)) (id : Int) (n : Nat) (v i : Value) (wr : World) : Prop :=
  ∃ (k : Nat) (F1 : Nat → Prop), k ≤ n ∧ i = .int .i64 k ∧ Row slE 61 wr F1 v (rtDrop id (l.take k)) ∧ (∀ x, F1 x → w.heap.size ≤ x) ∧ Upd NoB w wr

/-- The cells of an element, in a later world in which nothing old has changed. -/
theorem row_at {α : Type} {E : Enc α} {T : TypeId} {w : World} {F : Nat → Prop} {ao : Option Addr} {c : Nat} {xs : List α} (h : Row E T w F (.slice ao xs.length c) xs) {k : Nat} (hk : k < xs.length) :
    ∃ b o, ao = some ⟨b, o, none⟩ ∧ F = OneB b ∧ b < w.heap.size ∧ (∀ i j x u, xs[i]? = some x → (E.enc x)[j]? = some u → w.cell? ⟨b, o + i * E.k + j, none⟩ = some u) ∧ ∀ j, w.frozen? ⟨b, j, none⟩ = false := by
  obtain ⟨b, o, c', hv, _, _, hc⟩ := h.rd.at hk
  cases hv
  refine ⟨b, o, rfl, ?_, ?_, hc, fun j => h.frozen rfl j⟩
  · rcases h with ⟨h, _⟩ | ⟨b', o', c', cur, h, rfl, hh, _⟩
    · cases h
    · cases h; rfl
  · rcases h with ⟨h, _⟩ | ⟨b', o', c', cur, h, rfl, hh, _⟩
    · cases h
    · cases h; exact lt_of_block hh
theorem cell_keep {w w' : World} (hU : Upd NoB w w') {b o : Nat} {u : Value} (h : w.cell? ⟨b, o, none⟩ = some u) (hb : b < w.heap.size) : w'.cell? ⟨b, o, none⟩ = some u :=
  (World.cell?_of_block (w := w) (a := ⟨b, _, none⟩) (hU.keep b hb (fun x => x))).trans h

set_option maxHeartbeats 1000000 in
set_option maxRecDepth 100000 in
theorem rt_drop (w : World) (F : Nat → Prop) (p : Value) (l : List (Int × Int)) (id : Int) (h : RtAt w F p l) (hn : l.length ≤ 1000000000) :
    Calls Try.prog 17 #[p, .int .i64 id] w (RtPost F w p (.bool (decide ((rtDrop id l).length < l.length))) (rtDrop id l)) := by
  obtain ⟨b, sv, G, rfl, hb, hr, hnb, rfl⟩ := h
  obtain ⟨ao, c, rfl, hlc⟩ := row_form hr
  have h0 : w.cell? ⟨b, 0, none⟩ = some (.slice ao l.length c) := hb.cell 0
  have hbl := hb.lt
  have HB := Lib.hid hb
  have HR := Lib.hid hr
  have HNB := Lib.hid hnb
  clear hb hr hnb
  go_enter Try.func17, Try.ntmps17
  go_wp2
  go_loopw [5, 6] (RdRel w l id l.length) (fun _ i _ => l.length - (intOf i).toNat)
  case atStart => exact ⟨0, NoB, Nat.zero_le _, rfl, Row.nil _ _ _, fun _ h => h.elim, Upd.refl _ _⟩
  case round =>
    obtain ⟨k, F1, hk, rfl, hr1, hd1, hU⟩ := hrel
    have g := cell_keep hU h0 hbl
    by_cases hlt : k < l.length
    · obtain ⟨y, hy⟩ : ∃ y, l[k]? = some y := ⟨l[k], by simp [hlt]⟩
      obtain ⟨sb, o, rfl, _, hsb, hcell, _⟩ := row_at HR.out hlt
      have g0 : wr.cell? ⟨sb, o + k * 2, none⟩ = some (.int .i64 y.1) := cell_keep hU (hcell k 0 y _ hy rfl) hsb
      have g1 : wr.cell? ⟨sb, o + k * 2 + 1, none⟩ = some (.int .i64 y.2) := cell_keep hU (hcell k 1 y _ hy rfl) hsb
      obtain ⟨hs1, hs2⟩ := rtDrop_take id l k y hy
      have hlen := rtDrop_len id l k
      have hsz := hU.size
      by_cases hyt : y.1 = id
      · have e1 := hs2 hyt
        have hfin : RdRel w l id l.length u5 (.int .i64 ((k : Int) + 1)) wr := ⟨k + 1, F1, hlt, by go_num, by rw [e1]; exact hr1, hd1, hU⟩
        have HFIN := Lib.hid hfin
        have hne : (y.1 != id) = false := by simp [hyt]
        clear hs1 hs2 hlen hr1 hd1 hU hy hcell e1 hfin hyt
        go_wp2
        exact ⟨HFIN.out, by simp [intOf]; omega⟩
      · have e1 := hs1 hyt
        obtain ⟨v1, w1, G1, ha1, hb1, hc1, hd1'⟩ := app_new (ty := 27) (x := y) Try.underlying27 etyRs hr1 (by omega) (Upd.alloc _ wr _) (Blk.new _ 61 (slE.enc y))
        have hfin : RdRel w l id l.length v1 (.int .i64 ((k : Int) + 1)) w1 := by
          refine ⟨k + 1, G1, hlt, by go_num, by rw [e1]; exact hb1, ?_, hU.then hc1 (fun x hx hx' => by have := hd1 x hx'; omega)⟩
          intro x hx
          rcases hd1' x hx with h | h
          · exact hd1 x h
          · omega
        have HA := Lib.hid ha1
        have HFIN := Lib.hid hfin
        have hne : (y.1 != id) = true := by simp [hyt]
        clear hs1 hs2 hlen ha1 hb1 hc1 hd1' hr1 hd1 hU hy hcell e1 hfin hyt
        go_wp2_with (at_builtin; refine wpList_append_by ⟨rfl, rfl, rfl, rfl⟩ HA.out ?_)
        exact ⟨HFIN.out, by simp [intOf]; omega⟩
    · have hke : k = l.length := by omega
      subst hke
      have gf : wr.frozen? ⟨b, 0, none⟩ = false := (HB.out.upd hU (fun x => x)).frozen 0
      rw [List.take_of_length_le (Nat.le_refl _)] at hr1
      obtain ⟨ao2, c2, rfl, _⟩ := row_form hr1
      have hnew := fun R => PsAt.put HB.out HNB.out (hU.mono (fun x _ hx => hx.elim)) hr1 (fun x hx => .inr (hd1 x hx)) R
      have HNEW := Lib.hid hnew
      clear hnew hr1 hd1 hU
      go_wp2
      go_ret
      exact HNEW.out _
end Go.Proofs.Ytgkhnmeemiloaaa
