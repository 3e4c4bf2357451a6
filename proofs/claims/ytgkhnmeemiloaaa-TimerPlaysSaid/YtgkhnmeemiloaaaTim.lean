/- The program's timers: walks. Conditions: none. -/
import Derived.Test.YtgkhnmeemiloaaaDel
set_option linter.unusedVariables false
set_option linter.unusedSimpArgs false
namespace Go.Proofs.Ytgkhnmeemiloaaa
open Go.RowKit

def tmPlace (id : Int) : List (Int × Int) → Nat × Bool
  | [] => (0, false)
  | x :: r => if id < x.1 then (0, false) else if x.1 = id then (0, true) else ((tmPlace id r).1 + 1, (tmPlace id r).2)
def tmSet (id u : Int) : List (Int × Int) → List (Int × Int)
  | [] => [(id, u)]
  | x :: r => if id < x.1 then (id, u) :: x :: r else if x.1 = id then (id, u) :: r else x :: tmSet id u r
def tmDrop (id : Int) : List (Int × Int) → List (Int × Int)
  | [] => []
  | x :: r => if id < x.1 then x :: r else if x.1 = id then r else x :: tmDrop id r

def TmAt (w : World) (F : Nat → Prop) (p : Value) (l : List (Int × Int)) : Prop := PsAt slE 55 58 w F p l
def TmPost (F : Nat → Prop) (w : World) (p R : Value) (l : List (Int × Int)) (e : Ending) (w' : World) : Prop := PsPost slE 55 58 F w p R l e w'

set_option maxHeartbeats 1000000 in
set_option maxRecDepth 100000 in
theorem place_any (w : World) (b : Nat) (ao : Option Addr) (c : Nat) (l : List (Int × Int)) (id : Int) (h : w.cell? ⟨b, 0, none⟩ = some (.slice ao l.length c)) (hr : Rd slE w (.slice ao l.length c) l) (hn : l.length ≤ 1000000000) :
    Calls Try.prog 31 #[.pointer (some ⟨b, 0, none⟩), .int .i64 id] w fun e w' => e = .returned (.tuple #[.int .i64 (tmPlace id l).1, .bool (tmPlace id l).2]) ∧ w = w' := by
  go_enter Try.func31, Try.ntmps31
  go_wp2
  refine wp_scope_g 0 (fun n a' w' => w = w' ∧ ∃ (k : Nat), k ≤ l.length ∧ n = l.length - k ∧ Hid ((tmPlace id l).1 = (tmPlace id (l.drop k)).1 + k ∧ (tmPlace id l).2 = (tmPlace id (l.drop k)).2) ∧ ∃ (u2 u3 u7 u8 u9 u10 u11 u12 u13 u14 u15 u16 u17 u18 u19 u20 u21 u22 u23 u24 u25 u26 u27 u28 u29 u30 u31 u32 u33 u34 u35 u36 u37 u38 u39 : Value), a' = { tmps := #[.pointer (some ⟨b, 0, none⟩), .int .i64 id, u2, u3, .int .i64 0, .bool false, .int .i64 k, u7, u8, u9, u10, u11, u12, u13, u14, u15, u16, u17, u18, u19, u20, u21, u22, u23, u24, u25, u26, u27, u28, u29, u30, u31, u32, u33, u34, u35, u36, u37, u38, u39], defers := [] }) rfl ?_ ?_
  · rintro n a' w' ⟨rfl, k, hk, rfl, hH, _, _, _, _, _, _, _, _, _, _, _, _, _, _, _, _, _, _, _, _, _, _, _, _, _, _, _, _, _, _, _, _, _, _, _, rfl⟩ K hK
    by_cases hlt : k < l.length
    · obtain ⟨sb, o, c', hv, _, _, hcell⟩ := hr.at hlt
      cases hv
      have hx : l[k]? = some l[k] := by simp [hlt]
      have h0 : w.cell? ⟨sb, o + k * 2, none⟩ = some (.int .i64 l[k].1) := hcell k 0 l[k] _ hx rfl
      have hne : ((k : Int) == (l.length : Int)) = false := by simp; omega
      have hd : l.drop k = l[k] :: l.drop (k + 1) := List.drop_eq_getElem_cons hlt
      rw [hd] at hH
      have HD := Lib.hid hd
      clear hd hcell
      go_wp2
      · have hlt' : id < l[k].1 := by assumption
        simp only [Exit.jump]
        go_wp2
        go_ret2
        have := hH.out
        simp only [tmPlace, if_pos hlt'] at this
        exact ⟨by rw [this.1, this.2]; simp, rfl⟩
      · have hle : l[k].1 ≤ id := by assumption
        have heq : (l[k].1 == id) = true := by assumption
        simp only [Exit.jump]
        go_wp2
        go_ret2
        have := hH.out
        simp only [tmPlace, if_neg (show ¬ id < l[k].1 by omega), if_pos (beq_iff_eq.1 heq)] at this
        exact ⟨by rw [this.1, this.2]; simp, rfl⟩
      · have hle : l[k].1 ≤ id := by assumption
        have heq : (l[k].1 == id) = false := by assumption
        have := hH.out
        simp only [tmPlace, if_neg (show ¬ id < l[k].1 by omega), if_neg (beq_eq_false_iff_ne.1 heq)] at this
        go_step3
        refine ⟨rfl, hK _ _ ⟨l.length - (k + 1), by omega, rfl, k + 1, hlt, rfl, ⟨by rw [this.1]; omega, this.2⟩, ?_⟩⟩
        (repeat apply Exists.intro)
        rfl
    · have hke : k = l.length := by omega
      subst hke
      have hH' := hH.out
      simp only [List.drop_length, tmPlace, Nat.zero_add] at hH'
      have HH := Lib.hid hH'
      clear hH'
      go_wp2
      simp only [Exit.jump]
      go_wp2
      go_ret2
      exact ⟨by rw [HH.out.1, HH.out.2]; simp, rfl⟩
  · intro K hK
    go_wp2
    go_step3
    go_step
    go_step
    refine hK _ _ _ ⟨rfl, 0, Nat.zero_le _, rfl, ⟨by simp, by simp⟩, ?_⟩
    (repeat apply Exists.intro)
    rfl

theorem tmPlace_le (id : Int) : ∀ l, (tmPlace id l).1 ≤ l.length
  | [] => Nat.le_refl _
  | x :: r => by
    have := tmPlace_le id r
    simp only [tmPlace]; split
    · simp
    · split
      · simp
      · simp; omega
theorem tmPlace_there (id u : Int) : ∀ l, (tmPlace id l).2 = true → ∃ x, l[(tmPlace id l).1]? = some x ∧ x.1 = id ∧ tmSet id u l = l.set (tmPlace id l).1 (id, u) ∧ tmDrop id l = l.take (tmPlace id l).1 ++ l.drop ((tmPlace id l).1 + 1)
  | [], h => by simp [tmPlace] at h
  | x :: r, h => by
    simp only [tmPlace] at h ⊢
    by_cases h1 : id < x.1
    · simp [h1] at h
    · by_cases h2 : x.1 = id
      · simp only [if_neg h1, if_pos h2, tmSet, tmDrop]
        exact ⟨x, by simp, h2, by simp, by simp⟩
      · simp only [if_neg h1, if_neg h2, tmSet, tmDrop] at h ⊢
        obtain ⟨y, hy, he, hs, hd⟩ := tmPlace_there id u r h
        exact ⟨y, by simpa using hy, he, by simp [hs], by simp [hd]⟩
theorem tmPlace_not (id u : Int) : ∀ l, (tmPlace id l).2 = false → tmSet id u l = l.take (tmPlace id l).1 ++ (id, u) :: l.drop (tmPlace id l).1 ∧ tmDrop id l = l
  | [], h => by simp [tmPlace, tmSet, tmDrop]
  | x :: r, h => by
    simp only [tmPlace] at h ⊢
    by_cases h1 : id < x.1
    · simp [h1, tmSet, tmDrop]
    · by_cases h2 : x.1 = id
      · simp [h1, h2] at h
      · simp only [if_neg h1, if_neg h2, tmSet, tmDrop] at h ⊢
        obtain ⟨hs, hd⟩ := tmPlace_not id u r h
        exact ⟨by simp [hs], by rw [hd]⟩

set_option maxHeartbeats 1000000 in
set_option maxRecDepth 100000 in
theorem tm_set (w : World) (F : Nat → Prop) (p : Value) (l : List (Int × Int)) (id u : Int) (h : TmAt w F p l) (hn : l.length ≤ 1000000000) :
    Calls Try.prog 14 #[p, .int .i64 id, .int .i64 u] w (TmPost F w p (.tuple #[]) (tmSet id u l)) := by
  obtain ⟨b, sv, G, rfl, hb, hr, hnb, rfl⟩ := h
  obtain ⟨ao, c, rfl, hlc⟩ := row_form hr
  have h0 : w.cell? ⟨b, 0, none⟩ = some (.slice ao l.length c) := hb.cell 0
  have hf0 := hb.frozen 0
  have hplace := place_any w b ao c l id h0 hr.rd hn
  obtain ⟨r, hR⟩ : ∃ r, r = tmPlace id l := ⟨_, rfl⟩
  have hle := tmPlace_le id l
  rw [← hR] at hplace hle
  by_cases ht : r.2 = true
  · obtain ⟨x, hx, hxe, hset, _⟩ := tmPlace_there id u l (hR ▸ ht)
    rw [← hR] at hx hset
    have hi : r.1 < l.length := (List.getElem?_eq_some_iff.1 hx).1
    obtain ⟨sb, o, c', hv, _, _, hcell⟩ := hr.rd.at hi
    cases hv
    have h1 : w.cell? ⟨sb, o + r.1 * 2 + 1, none⟩ = some (.int .i64 x.2) := hcell r.1 1 x _ hx rfl
    have hf1 : w.frozen? ⟨sb, o + r.1 * 2 + 1, none⟩ = false := hr.frozen rfl _
    have hnew : TmPost (OrB (OneB b) G) w (.pointer (some ⟨b, 0, none⟩)) (.tuple #[]) (tmSet id u l) (.returned (.tuple #[])) (w.setCell ⟨sb, o + r.1 * 2 + 1, none⟩ (.int .i64 u)) := by
      have hG : G sb := by
        rcases hr with ⟨h, _⟩ | ⟨b', o', c', cur, h, rfl, _⟩
        · cases h
        · cases h; rfl
      have hup : Upd G w (w.setCell ⟨sb, o + r.1 * 2 + 1, none⟩ (.int .i64 u)) := Upd.setCell w _ _ hG
      refine ⟨OrB (OneB b) G, rfl, ⟨b, .slice (some ⟨sb, o, none⟩) l.length c, G, rfl, hb.upd hup hnb, ?_, hnb, rfl⟩, hup.mono (fun x _ hx => .inr hx), fun x hx => .inl hx⟩
      rw [hset]
      exact Row.set (E := slE) (x' := (id, u)) hr hx (by show [Value.int .i64 id, .int .i64 u] = [Value.int .i64 x.1, .int .i64 u]; rw [hxe]) (by decide)
    have hp := Lib.hid hnew
    have HP := Lib.hid hplace
    have HT := Lib.hid ht
    have hi' : (r.1 : Int) < (l.length : Int) := by omega
    clear hnew hplace hset hx hxe hR hcell hr ht
    go_enter Try.func14, Try.ntmps14
    go_wp2_with (go_at_call 31; refine HP.out.mono ?_; rintro e w' ⟨rfl, rfl⟩; rw [HT.out])
    go_end0
    exact hp.out
  · have ht' : r.2 = false := by simpa using ht
    obtain ⟨hset, _⟩ := tmPlace_not id u l (hR ▸ ht')
    rw [← hR] at hset
    have hins := fun (W : World) (hW : Upd NoB w W) (yb : Nat) (hyb : Blk W yb 58 (slE.enc (id, u))) (hlt : w.heap.size ≤ yb) => ins_sl W G (.slice ao l.length c) l (id, u) (hr.upd hW (fun x _ hx => hx)) yb _ hyb (fun hx => by have := hr.lt _ hx; omega) r.1 hle hn
    rw [← hset] at hins
    have HP := Lib.hid hplace
    have HT := Lib.hid ht'
    have HI := Lib.hid hins
    have HB := Lib.hid hb
    have hbl := hb.lt
    have hnb' := Lib.hid hnb
    have HGl := Lib.hid hr.lt
    clear hplace hset hR hr ht ht' hb hnb hins
    go_enter Try.func14, Try.ntmps14
    go_wp2_with (first
      | (go_at_call 31; refine HP.out.mono ?_; rintro e w' ⟨rfl, rfl⟩; rw [HT.out])
      | (go_at_call 32; refine (HI.out _ (Upd.alloc _ _ _) _ (Blk.new _ _ _) (Nat.le_refl _)).mono ?_; rintro e w' ⟨v', F', rfl, hr', hu', hF'⟩; obtain ⟨ao', c', rfl, _⟩ := row_form hr'; have hb2 := (HB.out.upd (Upd.alloc NoB _ _) (fun x => x)).upd hu' hnb'.out; have hc2 : w'.cell? ⟨b, 0, none⟩ = some (.slice ao l.length c) := hb2.cell 0; have hf2 := hb2.frozen 0; have HR' := Lib.hid hr'; have HU' := Lib.hid hu'; have HF' := Lib.hid hF'; have HB2 := Lib.hid hb2; clear hr' hu' hF' hb2))
    go_end0
    have hup : Upd G w w' := (Upd.alloc NoB w _ |>.mono (fun x _ hx => hx.elim)).trans HU'.out
    have hFb : ¬ F' b := fun hx => by
      rcases HF'.out b hx with h | h
      · exact hnb'.out h
      · simp at h; omega
    refine ⟨OrB (OneB b) F', rfl, ⟨b, _, F', rfl, HB2.out.set 0 _, HR'.out.upd (Upd.setCell (F := OneB b) w' _ _ rfl) (fun x hx hxb => hFb (by cases hxb; exact hx)), hFb, rfl⟩, (hup.mono (fun x _ hx => .inr hx)).trans (Upd.setCell w' _ _ (.inl rfl)), ?_⟩
    rintro x (rfl | hx)
    · exact .inl (.inl rfl)
    · rcases HF'.out x hx with h | h
      · exact .inl (.inr h)
      · exact .inr (by simp at h; omega)
end Go.Proofs.Ytgkhnmeemiloaaa
