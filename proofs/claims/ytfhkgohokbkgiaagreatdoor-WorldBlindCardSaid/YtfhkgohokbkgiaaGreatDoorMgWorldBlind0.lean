/- Texts put together: WorldBlind: its walk. Conditions: none. -/
import Derived.Test.YtfhkgohokbkgiaaGreatDoorMgWb6
set_option linter.unusedVariables false
set_option linter.unusedSimpArgs false
namespace Go.Proofs.YtfhkgohokbkgiaaGreatDoor
open Go.RowKit G
theorem sdAt_self {z : WS} {d : Nat} {x : SdS} (h : d < z.s.length) : sdAt (wUp z d x) d = x := by
 unfold sdAt wUp
 rw [List.getD_eq_getElem?_getD, List.getElem?_set_self h]; rfl
theorem sdAt_ne {z : WS} {d e : Nat} {x : SdS} (h : d ≠ e) : sdAt (wUp z d x) e = sdAt z e := by
 unfold sdAt wUp
 rw [List.getD_eq_getElem?_getD, List.getD_eq_getElem?_getD, List.getElem?_set_ne h]
structure BlI (z : WS) (L m : Int) : Prop where
 len : z.s.length = 4
 left : (sdAt z 0).left = L
 all : (sdAt z 0).all = 3
 B : WdB z m
theorem BlI.mono {z : WS} {L m n : Int} (h : BlI z L m) (hm : m ≤ n) : BlI z L n := ⟨h.len, h.left, h.all, h.B.mono hm⟩
theorem BlI.start (q : BA) : BlI (wz q) 3 2 := ⟨rfl, by rfl, by rfl, wz_B q⟩
theorem BlI.epoch {z : WS} {L m : Int} (h : BlI z L m) : BlI (wEpoch z) 3 m := by
 have e : sdAt (wEpoch z) 0 = { sdAt z 0 with left := (sdAt z 0).all } := by
  have h0 := h.len
  unfold sdAt wEpoch
  rw [List.getD_eq_getElem?_getD, List.getD_eq_getElem?_getD, List.getElem?_map, List.getElem?_eq_getElem (by omega)]; rfl
 exact ⟨by simp [wEpoch, h.len], by rw [e]; exact h.all, by rw [e]; exact h.all, wEpoch_B h.B⟩
theorem BlI.recv {q : BA} {z : WS} {L m : Int} (h : BlI z L m) (hm : 0 ≤ m) (t : Int) : BlI (act q z t 3 12 0 0) L (m + 1) := by
 have e : sdAt (act q z t 3 12 0 0) 0 = sdAt z 0 := by
  show sdAt (wRecv z 3).2 0 = _
  unfold wRecv; split
  ·exact sdAt_ne (by omega)
  ·rfl
 exact ⟨(wAct_len _ _ _ _ _ _ _ _).trans h.len, by rw [e]; exact h.left, by rw [e]; exact h.all, act_B h.B hm _ _ _ _ _⟩
theorem BlI.send {q : BA} {z : WS} {L m : Int} (h : BlI z L m) (hm : 0 ≤ m) (t v : Int) : wAct (bC q) z t 0 1 11 3 v = ((((if L = 0 then 14 else 0), 0, 0), true), act q z t 0 11 3 v) ∧ BlI (act q z t 0 11 3 v) (if L = 0 then L else L - 1) (m + 1) := by
 have hc : chkFlow (bC q) 0 3 = 0 := by kernel_rfl
 have hs : wSend (bC q) z 0 3 v = if L = 0 then (14, z) else (0, wPut (wPay z 0) 0 3 v) := by unfold wSend; rw [show ((0 : Nat) : Int) = 0 from rfl, if_pos hc, h.left]; rfl
 have hl := h.len
 have hB := act_B (q := q) h.B hm t 0 11 3 v
 by_cases h0 : L = 0
 ·rw [if_pos h0] at hs ⊢
  have hz : act q z t 0 11 3 v = wKeep z 0 t 11 14 := by unfold act wAct; rw [if_neg (by decide)]; show wKeep (wSend (bC q) z 0 3 v).2 0 t 11 (wSays ((0, 0), (wSend (bC q) z 0 3 v).1)).1 = _; rw [hs]; rfl
  refine ⟨Prod.ext ?_ rfl, ?_⟩
  ·unfold wAct; rw [if_neg (by decide)]; show (wSays ((0, 0), (wSend (bC q) z 0 3 v).1), true) = _; rw [hs]; rfl
  ·have e : sdAt (wKeep z 0 t 11 14) 0 = { sdAt z 0 with r := rgAdd (sdAt z 0).r t 11 14 } := by unfold wKeep; rw [if_pos (by rfl), sdAt_self (by omega)]
   rw [if_pos h0]; rw [hz] at hB ⊢
   exact ⟨by unfold wKeep; rw [if_pos (by rfl), wUp_len]; exact hl, by rw [e]; exact h.left, by rw [e]; exact h.all, hB⟩
 ·rw [if_neg h0] at hs ⊢
  have hz : act q z t 0 11 3 v = wKeep (wPut (wPay z 0) 0 3 v) 0 t 11 0 := by unfold act wAct; rw [if_neg (by decide)]; show wKeep (wSend (bC q) z 0 3 v).2 0 t 11 (wSays ((0, 0), (wSend (bC q) z 0 3 v).1)).1 = _; rw [hs]; rfl
  refine ⟨Prod.ext ?_ rfl, ?_⟩
  ·unfold wAct; rw [if_neg (by decide)]; show (wSays ((0, 0), (wSend (bC q) z 0 3 v).1), true) = _; rw [hs]; rfl
  ·have e1 : sdAt (wPut (wPay z 0) 0 3 v) 0 = { sdAt z 0 with left := (sdAt z 0).left - 1 } := by unfold wPut; rw [sdAt_ne (by omega), wPay, sdAt_self (by omega)]
   have l1 : (wPut (wPay z 0) 0 3 v).s.length = 4 := by unfold wPut wPay; rw [wUp_len, wUp_len]; exact hl
   have e : sdAt (wKeep (wPut (wPay z 0) 0 3 v) 0 t 11 0) 0 = { sdAt (wPut (wPay z 0) 0 3 v) 0 with r := rgAdd (sdAt (wPut (wPay z 0) 0 3 v) 0).r t 11 0 } := by unfold wKeep; rw [if_pos (by rfl), sdAt_self (by omega)]
   rw [if_neg h0]; rw [hz] at hB ⊢
   exact ⟨by unfold wKeep; rw [if_pos (by rfl), wUp_len]; exact l1, by rw [e, e1, ← h.left], by rw [e, e1]; exact h.all, hB⟩
structure BlP (u : WS × WS × Int) (m : Int) : Prop where
 a : BlI u.1 u.2.2 m
 b : BlI u.2.1 u.2.2 m
 r : 0 ≤ u.2.2 ∧ u.2.2 ≤ 3
set_option maxHeartbeats 1000000 in
set_option maxRecDepth 100000 in
theorem blind21 (H : List SP) (hE : EK H) (s : SV Int) (t e : SV Bool) (hks : KR H (kE .u8) s) (hkt : KR H boE t) (hke : KR H boE e) (hs8 : ∀ x ∈ s.l, 0 ≤ x ∧ x < 256) : ∀ w, Sat w H → Calls Tryz.prog 7 #[.slice s.a s.l.length s.c, .slice t.a t.l.length t.c, .slice e.a e.l.length e.c] w (Ret (ι := Unit) (fun _ => .bool true) fun _ => H) := by
 refine enterG (fn := Tryz.f7) 105 [.slice s.a s.l.length s.c, .slice t.a t.l.length t.c, .slice e.a e.l.length e.c] Tryz.func7 (by kernel_rfl) (by kernel_rfl) (by kernel_rfl) ?_
 refine Xq (Xg 1 (Xe [(0,.slice s.a s.l.length s.c), (1,.slice t.a t.l.length t.c), (2,.slice e.a e.l.length e.c), (6,.bool false)] ?_ 1))
 refine Xq (Xq (Xg 2 (Xs (Xa (some 17) (fun _ => .bool true) (known21 _ hE)) (fun _ => ?_) 1)))
 refine Xe [(0,.slice s.a s.l.length s.c), (1,.slice t.a t.l.length t.c), (2,.slice e.a e.l.length e.c), (6,.bool false), (18,.bool false)] ?_ 1
 refine Xc false (fun h => by cases h) (fun _ => ?_)
 refine Xk (Xq (Xq (Xg 13 (Xr [(0,.slice s.a s.l.length s.c), (1,.slice t.a t.l.length t.c), (2,.slice e.a e.l.length e.c), (6,.bool false), (22,.bool (decide ((s.l.length : Int) > 60)))] ?_ 9 4))))
 refine (Xs0 5 4 [(0,.slice s.a s.l.length s.c), (1,.slice t.a t.l.length t.c), (2,.slice e.a e.l.length e.c), (6,.bool false), (26,.bool ((decide ((s.l.length : Int) > 60)) || (decide ((t.l.length : Int) > 60))))] ?_ ?_ : RT _ _ _ _ _ _ 9 _)
 ·cases hg4 : (decide ((s.l.length : Int) > 60)) with
  | true =>
   refine Xe [(0,.slice s.a s.l.length s.c), (1,.slice t.a t.l.length t.c), (2,.slice e.a e.l.length e.c), (6,.bool false), (26,.bool true)] ?_ 4
   refine Xp [(0,.slice s.a s.l.length s.c), (1,.slice t.a t.l.length t.c), (2,.slice e.a e.l.length e.c), (6,.bool false), (26,.bool (true || (decide ((t.l.length : Int) > 60))))] ?_
   exact midR () rfl rfl
  | false =>
   refine Xe [(0,.slice s.a s.l.length s.c), (1,.slice t.a t.l.length t.c), (2,.slice e.a e.l.length e.c), (6,.bool false), (26,.bool (decide ((t.l.length : Int) > 60)))] ?_ 4
   refine Xp [(0,.slice s.a s.l.length s.c), (1,.slice t.a t.l.length t.c), (2,.slice e.a e.l.length e.c), (6,.bool false), (26,.bool (false || (decide ((t.l.length : Int) > 60))))] ?_
   exact midR () rfl rfl
 refine Xr [(0,.slice s.a s.l.length s.c), (1,.slice t.a t.l.length t.c), (2,.slice e.a e.l.length e.c), (6,.bool false), (27,.bool ((decide ((s.l.length : Int) > 60)) || (decide ((t.l.length : Int) > 60))))] ?_ 4 1
 refine (Xs0 0 4 [(0,.slice s.a s.l.length s.c), (1,.slice t.a t.l.length t.c), (2,.slice e.a e.l.length e.c), (6,.bool false), (31,.bool (((decide ((s.l.length : Int) > 60)) || (decide ((t.l.length : Int) > 60))) || (decide ((e.l.length : Int) > 60))))] ?_ ?_ : RT _ _ _ _ _ _ 4 _)
 ·cases hg9 : ((decide ((s.l.length : Int) > 60)) || (decide ((t.l.length : Int) > 60))) with
  | true =>
   refine Xe [(0,.slice s.a s.l.length s.c), (1,.slice t.a t.l.length t.c), (2,.slice e.a e.l.length e.c), (6,.bool false), (31,.bool true)] ?_ 4
   refine Xp [(0,.slice s.a s.l.length s.c), (1,.slice t.a t.l.length t.c), (2,.slice e.a e.l.length e.c), (6,.bool false), (31,.bool (true || (decide ((e.l.length : Int) > 60))))] ?_
   exact midR () rfl rfl
  | false =>
   refine Xe [(0,.slice s.a s.l.length s.c), (1,.slice t.a t.l.length t.c), (2,.slice e.a e.l.length e.c), (6,.bool false), (31,.bool (decide ((e.l.length : Int) > 60)))] ?_ 4
   refine Xp [(0,.slice s.a s.l.length s.c), (1,.slice t.a t.l.length t.c), (2,.slice e.a e.l.length e.c), (6,.bool false), (31,.bool (false || (decide ((e.l.length : Int) > 60))))] ?_
   exact midR () rfl rfl
 refine endR ?_
 cases hlen : (((decide ((s.l.length : Int) > 60)) || (decide ((t.l.length : Int) > 60))) || (decide ((e.l.length : Int) > 60))) with
 | true =>
  refine Xc true (fun _ => ?_) (fun h => by cases h)
  refine Xq (Xg 1 (Xe [(0,.slice s.a s.l.length s.c), (1,.slice t.a t.l.length t.c), (2,.slice e.a e.l.length e.c), (6,.bool true)] ?_ 1))
  refine Xv (thenV (Y0 (.bool true) (fun w hs => ?_)))
  exact ⟨(), rfl, hs⟩
 | false =>
  simp only [Bool.or_eq_false_iff, decide_eq_false_iff_not] at hlen
  obtain ⟨⟨hl1, hl2⟩, hl3⟩ := hlen
  refine Xc false (fun h => by cases h) (fun _ => ?_)
  refine Xk (Xq (Xg 6 (Xs (Xa (some 32) (fun (q : BA) => .agg #[vi 8, vi 2, .slice (some ⟨q.ps, 0, none⟩) 2 2, .slice (some ⟨q.ds, 0, none⟩) 4 4]) (base_walk _)) (fun (q : BA) => ?_) 5)))
  refine Xs (Xa (some 33) (fun (p : Nat × WP) => .pointer (some ⟨p.1, 0, none⟩)) (wnew_walk _ (bC q) (bKC q _) (by show 4 ≤ 6; omega))) (fun (p : Nat × WP) => ?_) 4
  refine Xs (Xa (some 34) (fun (r : BA) => .agg #[vi 8, vi 2, .slice (some ⟨r.ps, 0, none⟩) 2 2, .slice (some ⟨r.ds, 0, none⟩) 4 4]) (base_walk _)) (fun (r : BA) => ?_) 3
  refine Xs (Xa (some 35) (fun (o : Nat × WP) => .pointer (some ⟨o.1, 0, none⟩)) (wnew_walk _ (bC r) (bKC r _) (by show 4 ≤ 6; omega))) (fun (o : Nat × WP) => ?_) 2
  refine Xe [(0,.slice s.a s.l.length s.c), (1,.slice t.a t.l.length t.c), (2,.slice e.a e.l.length e.c), (6,.bool false), (7,.pointer (some ⟨p.1, 0, none⟩)), (8,.pointer (some ⟨o.1, 0, none⟩))] ?_ 2
  refine Xq (Xg 1 (Xe [(0,.slice s.a s.l.length s.c), (1,.slice t.a t.l.length t.c), (2,.slice e.a e.l.length e.c), (6,.bool false), (7,.pointer (some ⟨p.1, 0, none⟩)), (8,.pointer (some ⟨o.1, 0, none⟩)), (9,vi 3)] ?_ 1))
  refine Xq (Xq (Xg 1 (Xe [(0,.slice s.a s.l.length s.c), (1,.slice t.a t.l.length t.c), (2,.slice e.a e.l.length e.c), (6,.bool false), (7,.pointer (some ⟨p.1, 0, none⟩)), (8,.pointer (some ⟨o.1, 0, none⟩)), (9,vi 3), (10,vi 0)] ?_ 1)))
  refine Xb 0 ?_
  refine PT.pick 1 rfl ?_
  refine PT.pick 1 rfl ?_
  refine PT.pick 3 rfl ?_
  refine PT.pick 3 rfl ?_
  refine Xp [(0,.slice s.a s.l.length s.c), (1,.slice t.a t.l.length t.c), (2,.slice e.a e.l.length e.c), (7,.pointer (some ⟨p.1, 0, none⟩)), (8,.pointer (some ⟨o.1, 0, none⟩)), (9,vi 3), (10,vi 0)] ?_
  refine loopG (fun (x : (WS × WS × Int) × Nat) => [(0, .slice s.a s.l.length s.c), (1, .slice t.a t.l.length t.c), (2, .slice e.a e.l.length e.c), (7, .pointer (some ⟨p.1, 0, none⟩)), (8, .pointer (some ⟨o.1, 0, none⟩)), (9, vi x.1.2.2), (10, vi (x.2 : Int))]) (fun (x : (WS × WS × Int) × Nat) => (wdS p.1 (bC q) p.2 x.1.1 :: bS q :: wdS o.1 (bC r) o.2 x.1.2.1 :: bS r :: H)) (fun k (x : (WS × WS × Int) × Nat) => k + x.2 = s.l.length ∧ BlP x.1 (2 + 3 * x.2)) s.l.length ((wz q, wz r, 3), 0) (by kernel_rfl) ⟨by simp, ⟨(BlI.start q).mono (by simp), (BlI.start r).mono (by simp), by simp⟩⟩ ?_
  rintro k0 ⟨⟨a, b, L⟩, i⟩ ⟨hki, hI⟩
  simp only at hki hI
  refine Xq (Xq (Xg 4 (Xe [(0,.slice s.a s.l.length s.c), (1,.slice t.a t.l.length t.c), (2,.slice e.a e.l.length e.c), (7,.pointer (some ⟨p.1, 0, none⟩)), (8,.pointer (some ⟨o.1, 0, none⟩)), (9,vi L), (10,vi i), (39,.bool (decide ((i : Int) < (s.l.length : Int))))] ?_ 4)))
  refine Xc (decide ((i : Int) < (s.l.length : Int))) (fun h1 => ?_) (fun h1 => ?_)
  ·skip
   have hi : i < s.l.length := by have := of_decide_eq_true h1; omega
   refine Xk (Xq (Xb 1 (Xq ?_)))
   refine joinR (fun (x : {u : WS × WS × Int // BlP u (2 + 3 * i)}) => [(0, .slice s.a s.l.length s.c), (1, .slice t.a t.l.length t.c), (2, .slice e.a e.l.length e.c), (7, .pointer (some ⟨p.1, 0, none⟩)), (8, .pointer (some ⟨o.1, 0, none⟩)), (9, vi x.1.2.2), (10, vi i)]) (fun (x : {u : WS × WS × Int // BlP u (2 + 3 * i)}) => (wdS p.1 (bC q) p.2 x.1.1 :: bS q :: wdS o.1 (bC r) o.2 x.1.2.1 :: bS r :: H)) ?_ (fun x => ?_)
   ·skip
    by_cases hie : i < e.l.length
    ·skip
     obtain ⟨v, hv⟩ : ∃ v, e.l[i]? = some v := ⟨_, List.getElem?_eq_getElem hie⟩
     refine PT.know ((hke).up.up.up.up.isSome (List.ne_nil_of_length_pos (by omega))) ?_
     rintro ⟨eb, eo, hA⟩
     try rw [hA]
     refine Xq (Xg 10 (Xr [(0,.slice s.a s.l.length s.c), (1,.slice t.a t.l.length t.c), (2,.slice (some ⟨eb, eo, none⟩) e.l.length e.c), (7,.pointer (some ⟨p.1, 0, none⟩)), (8,.pointer (some ⟨o.1, 0, none⟩)), (9,vi L), (10,vi i), (46,.bool (decide ((i : Int) < (e.l.length : Int))))] ?_ 5 5))
     refine (Xs0 0 5 [(0,.slice s.a s.l.length s.c), (1,.slice t.a t.l.length t.c), (2,.slice (some ⟨eb, eo, none⟩) e.l.length e.c), (7,.pointer (some ⟨p.1, 0, none⟩)), (8,.pointer (some ⟨o.1, 0, none⟩)), (9,vi L), (10,vi i), (51,.bool ((decide ((i : Int) < (e.l.length : Int))) && v))] ?_ ?_ : RT _ _ _ _ _ _ 5 _)
     ·cases hg5 : (decide ((i : Int) < (e.l.length : Int))) with
      | true =>
       refine Xr [(0,.slice s.a s.l.length s.c), (1,.slice t.a t.l.length t.c), (2,.slice (some ⟨eb, eo, none⟩) e.l.length e.c), (7,.pointer (some ⟨p.1, 0, none⟩)), (8,.pointer (some ⟨o.1, 0, none⟩)), (9,vi L), (10,vi i), (46,.bool true), (47,.slice (some ⟨eb, eo, none⟩) e.l.length e.c), (48,vi i)] ?_ 3 2
       refine Xs (yldS (Xi 56 (.tmp 47) (.tmp 48) eb eo e.l.length e.c i 1 4 (i : Int) 49 Tryz.underlying56)) (fun _ => ?_) 2
       refine Xm [(0,.slice s.a s.l.length s.c), (1,.slice t.a t.l.length t.c), (2,.slice (some ⟨eb, eo, none⟩) e.l.length e.c), (7,.pointer (some ⟨p.1, 0, none⟩)), (8,.pointer (some ⟨o.1, 0, none⟩)), (9,vi L), (10,vi i), (51,.bool v)] [(⟨eb, eo + i * 1, none⟩, .bool v)] (hasC (up (up (up (up (hke.cell hA (i := i) (x := v) hv (j := 0) rfl))))) has0) ?_ 2
       refine Xp [(0,.slice s.a s.l.length s.c), (1,.slice t.a t.l.length t.c), (2,.slice (some ⟨eb, eo, none⟩) e.l.length e.c), (7,.pointer (some ⟨p.1, 0, none⟩)), (8,.pointer (some ⟨o.1, 0, none⟩)), (9,vi L), (10,vi i), (51,.bool (true && v))] ?_
       exact midR () rfl rfl
      | false =>
       refine Xe [(0,.slice s.a s.l.length s.c), (1,.slice t.a t.l.length t.c), (2,.slice (some ⟨eb, eo, none⟩) e.l.length e.c), (7,.pointer (some ⟨p.1, 0, none⟩)), (8,.pointer (some ⟨o.1, 0, none⟩)), (9,vi L), (10,vi i), (51,.bool false)] ?_ 5
       refine Xp [(0,.slice s.a s.l.length s.c), (1,.slice t.a t.l.length t.c), (2,.slice (some ⟨eb, eo, none⟩) e.l.length e.c), (7,.pointer (some ⟨p.1, 0, none⟩)), (8,.pointer (some ⟨o.1, 0, none⟩)), (9,vi L), (10,vi i), (51,.bool (false && v))] ?_
       exact midR () rfl rfl
     refine endR ?_
     rw [show (decide ((i : Int) < (e.l.length : Int))) = true by exact decide_eq_true (by omega)]
     try rw [← hA]
     cases v
     ·skip
      rw [show (true && false) = false by rfl]
      refine Xc false (fun h => by cases h) (fun _ => ?_)
      refine Xk (Xp [(0,.slice s.a s.l.length s.c), (1,.slice t.a t.l.length t.c), (2,.slice e.a e.l.length e.c), (7,.pointer (some ⟨p.1, 0, none⟩)), (8,.pointer (some ⟨o.1, 0, none⟩)), (9,vi L), (10,vi i)] ?_)
      exact midR (⟨(a, b, L), hI⟩) rfl rfl
     ·skip
      rw [show (true && true) = true by rfl]
      refine Xc true (fun _ => ?_) (fun h => by cases h)
      refine Xq (Xg 2 (Xr [(0,.slice s.a s.l.length s.c), (1,.slice t.a t.l.length t.c), (2,.slice e.a e.l.length e.c), (7,.pointer (some ⟨p.1, 0, none⟩)), (8,.pointer (some ⟨o.1, 0, none⟩)), (9,vi L), (10,vi i), (52,.pointer (some ⟨p.1, 0, none⟩))] ?_ 1 1))
      refine Xs (Xa (some 53) (fun _ => .tuple #[]) (wEpoch_c _ p.1 (bC q) p.2 a)) (fun _ => ?_) 0
      refine endR ?_
      refine Xq (Xg 2 (Xr [(0,.slice s.a s.l.length s.c), (1,.slice t.a t.l.length t.c), (2,.slice e.a e.l.length e.c), (7,.pointer (some ⟨p.1, 0, none⟩)), (8,.pointer (some ⟨o.1, 0, none⟩)), (9,vi L), (10,vi i), (54,.pointer (some ⟨o.1, 0, none⟩))] ?_ 1 1))
      refine Xs (Xa (some 55) (fun _ => .tuple #[]) (chg_at 2 rfl (wEpoch_c _ o.1 (bC r) o.2 b))) (fun _ => ?_) 0
      refine endR ?_
      refine Xg 1 (Xe [(0,.slice s.a s.l.length s.c), (1,.slice t.a t.l.length t.c), (2,.slice e.a e.l.length e.c), (7,.pointer (some ⟨p.1, 0, none⟩)), (8,.pointer (some ⟨o.1, 0, none⟩)), (9,vi 3), (10,vi i)] ?_ 1)
      refine Xp [(0,.slice s.a s.l.length s.c), (1,.slice t.a t.l.length t.c), (2,.slice e.a e.l.length e.c), (7,.pointer (some ⟨p.1, 0, none⟩)), (8,.pointer (some ⟨o.1, 0, none⟩)), (9,vi 3), (10,vi i)] ?_
      exact midR (⟨(wEpoch a, wEpoch b, 3), ⟨hI.a.epoch, hI.b.epoch, by simp⟩⟩) rfl rfl
    ·skip
     refine Xq (Xg 10 (Xr [(0,.slice s.a s.l.length s.c), (1,.slice t.a t.l.length t.c), (2,.slice e.a e.l.length e.c), (7,.pointer (some ⟨p.1, 0, none⟩)), (8,.pointer (some ⟨o.1, 0, none⟩)), (9,vi L), (10,vi i), (46,.bool (decide ((i : Int) < (e.l.length : Int))))] ?_ 5 5))
     rw [show (decide ((i : Int) < (e.l.length : Int))) = false from by simp; omega]
     refine Xe [(0,.slice s.a s.l.length s.c), (1,.slice t.a t.l.length t.c), (2,.slice e.a e.l.length e.c), (7,.pointer (some ⟨p.1, 0, none⟩)), (8,.pointer (some ⟨o.1, 0, none⟩)), (9,vi L), (10,vi i), (51,.bool false)] ?_ 5
     refine Xc false (fun h => by cases h) (fun _ => ?_)
     refine Xk (Xp [(0,.slice s.a s.l.length s.c), (1,.slice t.a t.l.length t.c), (2,.slice e.a e.l.length e.c), (7,.pointer (some ⟨p.1, 0, none⟩)), (8,.pointer (some ⟨o.1, 0, none⟩)), (9,vi L), (10,vi i)] ?_)
     exact midR (⟨(a, b, L), hI⟩) rfl rfl
   obtain ⟨⟨x1, y1, K1⟩, hI1⟩ := x
   dsimp only
   refine Xq ?_
   refine joinR (fun (x : {u : WS × WS × Int // BlP u (2 + 3 * i + 1)}) => [(0, .slice s.a s.l.length s.c), (1, .slice t.a t.l.length t.c), (2, .slice e.a e.l.length e.c), (7, .pointer (some ⟨p.1, 0, none⟩)), (8, .pointer (some ⟨o.1, 0, none⟩)), (9, vi x.1.2.2), (10, vi i)]) (fun (x : {u : WS × WS × Int // BlP u (2 + 3 * i + 1)}) => (wdS p.1 (bC q) p.2 x.1.1 :: bS q :: wdS o.1 (bC r) o.2 x.1.2.1 :: bS r :: H)) ?_ (fun x => ?_)
   ·skip
    by_cases hit : i < t.l.length
    ·skip
     obtain ⟨v, hv⟩ : ∃ v, t.l[i]? = some v := ⟨_, List.getElem?_eq_getElem hit⟩
     refine PT.know ((hkt).up.up.up.up.isSome (List.ne_nil_of_length_pos (by omega))) ?_
     rintro ⟨eb, eo, hA⟩
     try rw [hA]
     refine Xq (Xg 10 (Xr [(0,.slice s.a s.l.length s.c), (1,.slice (some ⟨eb, eo, none⟩) t.l.length t.c), (2,.slice e.a e.l.length e.c), (7,.pointer (some ⟨p.1, 0, none⟩)), (8,.pointer (some ⟨o.1, 0, none⟩)), (9,vi K1), (10,vi i), (60,.bool (decide ((i : Int) < (t.l.length : Int))))] ?_ 5 5))
     refine (Xs0 0 5 [(0,.slice s.a s.l.length s.c), (1,.slice (some ⟨eb, eo, none⟩) t.l.length t.c), (2,.slice e.a e.l.length e.c), (7,.pointer (some ⟨p.1, 0, none⟩)), (8,.pointer (some ⟨o.1, 0, none⟩)), (9,vi K1), (10,vi i), (65,.bool ((decide ((i : Int) < (t.l.length : Int))) && v))] ?_ ?_ : RT _ _ _ _ _ _ 5 _)
     ·cases hg5 : (decide ((i : Int) < (t.l.length : Int))) with
      | true =>
       refine Xr [(0,.slice s.a s.l.length s.c), (1,.slice (some ⟨eb, eo, none⟩) t.l.length t.c), (2,.slice e.a e.l.length e.c), (7,.pointer (some ⟨p.1, 0, none⟩)), (8,.pointer (some ⟨o.1, 0, none⟩)), (9,vi K1), (10,vi i), (60,.bool true), (61,.slice (some ⟨eb, eo, none⟩) t.l.length t.c), (62,vi i)] ?_ 3 2
       refine Xs (yldS (Xi 56 (.tmp 61) (.tmp 62) eb eo t.l.length t.c i 1 4 (i : Int) 63 Tryz.underlying56)) (fun _ => ?_) 2
       refine Xm [(0,.slice s.a s.l.length s.c), (1,.slice (some ⟨eb, eo, none⟩) t.l.length t.c), (2,.slice e.a e.l.length e.c), (7,.pointer (some ⟨p.1, 0, none⟩)), (8,.pointer (some ⟨o.1, 0, none⟩)), (9,vi K1), (10,vi i), (65,.bool v)] [(⟨eb, eo + i * 1, none⟩, .bool v)] (hasC (up (up (up (up (hkt.cell hA (i := i) (x := v) hv (j := 0) rfl))))) has0) ?_ 2
       refine Xp [(0,.slice s.a s.l.length s.c), (1,.slice (some ⟨eb, eo, none⟩) t.l.length t.c), (2,.slice e.a e.l.length e.c), (7,.pointer (some ⟨p.1, 0, none⟩)), (8,.pointer (some ⟨o.1, 0, none⟩)), (9,vi K1), (10,vi i), (65,.bool (true && v))] ?_
       exact midR () rfl rfl
      | false =>
       refine Xe [(0,.slice s.a s.l.length s.c), (1,.slice (some ⟨eb, eo, none⟩) t.l.length t.c), (2,.slice e.a e.l.length e.c), (7,.pointer (some ⟨p.1, 0, none⟩)), (8,.pointer (some ⟨o.1, 0, none⟩)), (9,vi K1), (10,vi i), (65,.bool false)] ?_ 5
       refine Xp [(0,.slice s.a s.l.length s.c), (1,.slice (some ⟨eb, eo, none⟩) t.l.length t.c), (2,.slice e.a e.l.length e.c), (7,.pointer (some ⟨p.1, 0, none⟩)), (8,.pointer (some ⟨o.1, 0, none⟩)), (9,vi K1), (10,vi i), (65,.bool (false && v))] ?_
       exact midR () rfl rfl
     refine endR ?_
     rw [show (decide ((i : Int) < (t.l.length : Int))) = true by exact decide_eq_true (by omega)]
     try rw [← hA]
     cases v
     ·skip
      rw [show (true && false) = false by rfl]
      refine Xc false (fun h => by cases h) (fun _ => ?_)
      refine Xk (Xp [(0,.slice s.a s.l.length s.c), (1,.slice t.a t.l.length t.c), (2,.slice e.a e.l.length e.c), (7,.pointer (some ⟨p.1, 0, none⟩)), (8,.pointer (some ⟨o.1, 0, none⟩)), (9,vi K1), (10,vi i)] ?_)
      exact midR (⟨(x1, y1, K1), ⟨hI1.a.mono (by omega), hI1.b.mono (by omega), hI1.r⟩⟩) rfl rfl
     ·skip
      rw [show (true && true) = true by rfl]
      refine Xc true (fun _ => ?_) (fun h => by cases h)
      refine Xg 4 (Xr [(0,.slice s.a s.l.length s.c), (1,.slice t.a t.l.length t.c), (2,.slice e.a e.l.length e.c), (7,.pointer (some ⟨p.1, 0, none⟩)), (8,.pointer (some ⟨o.1, 0, none⟩)), (9,vi K1), (10,vi i), (66,.pointer (some ⟨o.1, 0, none⟩)), (67,vi i), (68,.agg #[vi 12, vi 0, vi 0])] ?_ 1 3)
      refine Xs (Xa (some 69) (fun _ => ansV (wAct (bC r) y1 i 3 1 12 0 0).1) (chg_at 2 rfl (bDoes _ o.1 r o.2 y1 hE.up.up.up ((bKC r H).up.up) (2 + 3 * i) hI1.b.B (by omega) i 3 (by omega) 12 0 0))) (fun _ => ?_) 0
      refine endR ?_
      refine Xp [(0,.slice s.a s.l.length s.c), (1,.slice t.a t.l.length t.c), (2,.slice e.a e.l.length e.c), (7,.pointer (some ⟨p.1, 0, none⟩)), (8,.pointer (some ⟨o.1, 0, none⟩)), (9,vi K1), (10,vi i)] ?_
      exact midR (⟨(x1, act r y1 i 3 12 0 0, K1), ⟨hI1.a.mono (by omega), hI1.b.recv (by omega) i, hI1.r⟩⟩) rfl rfl
    ·skip
     refine Xq (Xg 10 (Xr [(0,.slice s.a s.l.length s.c), (1,.slice t.a t.l.length t.c), (2,.slice e.a e.l.length e.c), (7,.pointer (some ⟨p.1, 0, none⟩)), (8,.pointer (some ⟨o.1, 0, none⟩)), (9,vi K1), (10,vi i), (60,.bool (decide ((i : Int) < (t.l.length : Int))))] ?_ 5 5))
     rw [show (decide ((i : Int) < (t.l.length : Int))) = false from by simp; omega]
     refine Xe [(0,.slice s.a s.l.length s.c), (1,.slice t.a t.l.length t.c), (2,.slice e.a e.l.length e.c), (7,.pointer (some ⟨p.1, 0, none⟩)), (8,.pointer (some ⟨o.1, 0, none⟩)), (9,vi K1), (10,vi i), (65,.bool false)] ?_ 5
     refine Xc false (fun h => by cases h) (fun _ => ?_)
     refine Xk (Xp [(0,.slice s.a s.l.length s.c), (1,.slice t.a t.l.length t.c), (2,.slice e.a e.l.length e.c), (7,.pointer (some ⟨p.1, 0, none⟩)), (8,.pointer (some ⟨o.1, 0, none⟩)), (9,vi K1), (10,vi i)] ?_)
     exact midR (⟨(x1, y1, K1), ⟨hI1.a.mono (by omega), hI1.b.mono (by omega), hI1.r⟩⟩) rfl rfl
   obtain ⟨⟨x2, y2, K2⟩, hI2⟩ := x
   dsimp only
   obtain ⟨v, hv⟩ : ∃ v, s.l[i]? = some v := ⟨_, List.getElem?_eq_getElem hi⟩
   have hv8 := hs8 v (List.mem_of_getElem? hv)
   refine PT.know ((hks).up.up.up.up.isSome (List.ne_nil_of_length_pos (by omega))) ?_
   rintro ⟨sb, so, hA⟩
   try rw [hA]
   refine Xq (Xg 8 (Xr [(0,.slice (some ⟨sb, so, none⟩) s.l.length s.c), (1,.slice t.a t.l.length t.c), (2,.slice e.a e.l.length e.c), (7,.pointer (some ⟨p.1, 0, none⟩)), (8,.pointer (some ⟨o.1, 0, none⟩)), (9,vi K2), (10,vi i), (70,.slice (some ⟨sb, so, none⟩) s.l.length s.c), (71,vi i)] ?_ 6 2))
   refine Xs (yldS (Xi 55 (.tmp 70) (.tmp 71) sb so s.l.length s.c i 1 5 (i : Int) 72 Tryz.underlying55)) (fun _ => ?_) 5
   refine Xl [(0,.slice (some ⟨sb, so, none⟩) s.l.length s.c), (1,.slice t.a t.l.length t.c), (2,.slice e.a e.l.length e.c), (7,.pointer (some ⟨p.1, 0, none⟩)), (8,.pointer (some ⟨o.1, 0, none⟩)), (9,vi K2), (10,vi i), (75,.agg #[vi 11, vi 3, vi (IntKind.i64.wrap v)])] [(⟨sb, so + i * 1, none⟩, .int .u8 v)] (hasC (up (up (up (up (hks.cell hA (i := i) (x := v) hv (j := 0) rfl))))) has0) ?_ 2 3
   refine Xs (Xn 35 [vi 0, vi 0, vi 0] (some 11) (fun b => vp b)) (fun b1 => ?_) 1
   refine Xs (Xz [(0,vi 11), (1,vi 3), (2,vi (IntKind.i64.wrap v))]) (fun _ => ?_) 0
   refine endR ?_
   refine Xq (Xg 10 (Xl [(11,vp b1), (0,.slice (some ⟨sb, so, none⟩) s.l.length s.c), (1,.slice t.a t.l.length t.c), (2,.slice e.a e.l.length e.c), (7,.pointer (some ⟨p.1, 0, none⟩)), (8,.pointer (some ⟨o.1, 0, none⟩)), (9,vi K2), (10,vi i), (77,.pointer (some ⟨p.1, 0, none⟩)), (78,vi i), (79,.agg #[vi 11, vi 3, vi (IntKind.i64.wrap v)])] [(⟨b1, 0, none⟩, vi 11), (⟨b1, 1, none⟩, vi 3), (⟨b1, 2, none⟩, vi (IntKind.i64.wrap v))] (hasC (ba 0) (hasC (ba 0) (hasC (ba 0) has0))) ?_ 7 3))
   try rw [← hA]
   rw [show IntKind.i64.wrap v = v by rw [w64 (by omega) (by omega)]]
   have hr2 := hI2.r
   simp only at hr2
   by_cases h0 : K2 = 0
   ·skip
    obtain ⟨hra, hJa⟩ := hI2.a.send (q := q) (by omega) (i : Int) v
    obtain ⟨hrb, hJb⟩ := hI2.b.send (q := r) (by omega) (i : Int) v
    rw [if_pos h0] at hra hrb
    simp only [if_pos h0] at hJa hJb
    refine Xs (Xa (some 80) (fun _ => .tuple #[.agg #[vi 14, vi 0, vi 0], .bool true]) (chg_at 1 rfl (bAct _ p.1 q p.2 x2 hE.up.up.up.up ((bKC q (wdS o.1 (bC r) o.2 y2 :: bS r :: H)).up) (2 + 3 * i + 1) hI2.a.B (by omega) i 0 (by omega) 1 11 3 v hra))) (fun _ => ?_) 6
    refine Xr [(11,vp b1), (0,.slice s.a s.l.length s.c), (1,.slice t.a t.l.length t.c), (2,.slice e.a e.l.length e.c), (7,.pointer (some ⟨p.1, 0, none⟩)), (8,.pointer (some ⟨o.1, 0, none⟩)), (9,vi K2), (10,vi i), (81,.agg #[vi 14, vi 0, vi 0]), (82,.bool true)] ?_ 3 3
    refine Xs (Xn 31 [vi 0, vi 0, vi 0] (some 12) (fun b => vp b)) (fun b2 => ?_) 2
    refine Xs (Xz [(0,vi 14), (1,vi 0), (2,vi 0)]) (fun _ => ?_) 1
    refine Xe [(12,vp b2), (11,vp b1), (0,.slice s.a s.l.length s.c), (1,.slice t.a t.l.length t.c), (2,.slice e.a e.l.length e.c), (7,.pointer (some ⟨p.1, 0, none⟩)), (8,.pointer (some ⟨o.1, 0, none⟩)), (9,vi K2), (10,vi i)] ?_ 1
    refine Xq (Xg 10 (Xl [(12,vp b2), (0,.slice s.a s.l.length s.c), (1,.slice t.a t.l.length t.c), (2,.slice e.a e.l.length e.c), (7,.pointer (some ⟨p.1, 0, none⟩)), (8,.pointer (some ⟨o.1, 0, none⟩)), (9,vi K2), (10,vi i), (84,.pointer (some ⟨o.1, 0, none⟩)), (85,vi i), (86,.agg #[vi 11, vi 3, vi v])] [(⟨b1, 0, none⟩, vi 11), (⟨b1, 1, none⟩, vi 3), (⟨b1, 2, none⟩, vi v)] (hasC (ba 1) (hasC (ba 1) (hasC (ba 1) has0))) ?_ 7 3))
    refine Xs (Xa (some 87) (fun _ => .tuple #[.agg #[vi 14, vi 0, vi 0], .bool true]) (chg_at 4 rfl (bAct _ o.1 r o.2 y2 hE.up.up.up.up.up ((bKC r H).up.up.up.up) (2 + 3 * i + 1) hI2.b.B (by omega) i 0 (by omega) 1 11 3 v hrb))) (fun _ => ?_) 6
    refine Xr [(12,vp b2), (0,.slice s.a s.l.length s.c), (1,.slice t.a t.l.length t.c), (2,.slice e.a e.l.length e.c), (7,.pointer (some ⟨p.1, 0, none⟩)), (8,.pointer (some ⟨o.1, 0, none⟩)), (9,vi K2), (10,vi i), (88,.agg #[vi 14, vi 0, vi 0]), (89,.bool true)] ?_ 3 3
    refine Xs (Xn 31 [vi 0, vi 0, vi 0] (some 14) (fun b => vp b)) (fun b3 => ?_) 2
    refine Xs (Xz [(0,vi 14), (1,vi 0), (2,vi 0)]) (fun _ => ?_) 1
    refine Xe [(14,vp b3), (12,vp b2), (0,.slice s.a s.l.length s.c), (1,.slice t.a t.l.length t.c), (2,.slice e.a e.l.length e.c), (7,.pointer (some ⟨p.1, 0, none⟩)), (8,.pointer (some ⟨o.1, 0, none⟩)), (9,vi K2), (10,vi i)] ?_ 1
    refine Xq (Xg 3 (Xr [(14,vp b3), (12,vp b2), (0,.slice s.a s.l.length s.c), (1,.slice t.a t.l.length t.c), (2,.slice e.a e.l.length e.c), (7,.pointer (some ⟨p.1, 0, none⟩)), (8,.pointer (some ⟨o.1, 0, none⟩)), (9,vi K2), (10,vi i), (90,.agg #[vi 0, vi 0, vi 0])] ?_ 2 1))
    refine Xs (Xn 31 [vi 0, vi 0, vi 0] (some 16) (fun b => vp b)) (fun b4 => ?_) 1
    refine Xs (Xz [(0,vi 0), (1,vi 0), (2,vi 0)]) (fun _ => ?_) 0
    refine endR ?_
    refine Xq (Xq (Xg 2 (Xe [(16,vp b4), (14,vp b3), (12,vp b2), (0,.slice s.a s.l.length s.c), (1,.slice t.a t.l.length t.c), (2,.slice e.a e.l.length e.c), (7,.pointer (some ⟨p.1, 0, none⟩)), (8,.pointer (some ⟨o.1, 0, none⟩)), (9,vi K2), (10,vi i), (92,.bool (K2 == 0))] ?_ 2)))
    rw [show (K2 == 0) = true from by simp [h0]]
    refine Xc true (fun _ => ?_) (fun h => by cases h)
    refine Xg 2 (Xr [(16,vp b4), (14,vp b3), (12,vp b2), (0,.slice s.a s.l.length s.c), (1,.slice t.a t.l.length t.c), (2,.slice e.a e.l.length e.c), (7,.pointer (some ⟨p.1, 0, none⟩)), (8,.pointer (some ⟨o.1, 0, none⟩)), (9,vi K2), (10,vi i), (93,vp b4)] ?_ 1 1)
    refine Xs (Xz [(0,vi 14)]) (fun _ => ?_) 0
    refine endR ?_
    refine Xq (Xg 4 (Xe [(16,vp b4), (14,vp b3), (12,vp b2), (0,.slice s.a s.l.length s.c), (1,.slice t.a t.l.length t.c), (2,.slice e.a e.l.length e.c), (7,.pointer (some ⟨p.1, 0, none⟩)), (8,.pointer (some ⟨o.1, 0, none⟩)), (9,vi (mxI 0 (IntKind.i64.wrap (K2 - 1)))), (10,vi i)] ?_ 4))
    refine Xq (Xg 8 (Xl [(16,vp b4), (12,vp b2), (0,.slice s.a s.l.length s.c), (1,.slice t.a t.l.length t.c), (2,.slice e.a e.l.length e.c), (7,.pointer (some ⟨p.1, 0, none⟩)), (8,.pointer (some ⟨o.1, 0, none⟩)), (9,vi (mxI 0 (IntKind.i64.wrap (K2 - 1)))), (10,vi i), (97,.agg #[vi 14, vi 0, vi 0]), (98,.agg #[vi 14, vi 0, vi 0])] [(⟨b2, 0, none⟩, vi 14), (⟨b2, 1, none⟩, vi 0), (⟨b2, 2, none⟩, vi 0), (⟨b3, 0, none⟩, vi 14), (⟨b3, 1, none⟩, vi 0), (⟨b3, 2, none⟩, vi 0)] (hasC (ba 2) (hasC (ba 2) (hasC (ba 2) (hasC (ba 1) (hasC (ba 1) (hasC (ba 1) has0)))))) ?_ 6 2))
    refine Xs (yldS (eqY1 31 31 (.tmp 97) (.tmp 98) [.int .i64 14, .int .i64 0, .int .i64 0] [.int .i64 14, .int .i64 0, .int .i64 0] true 99)) (fun _ => ?_) 5
    refine Xl [(0,.slice s.a s.l.length s.c), (1,.slice t.a t.l.length t.c), (2,.slice e.a e.l.length e.c), (7,.pointer (some ⟨p.1, 0, none⟩)), (8,.pointer (some ⟨o.1, 0, none⟩)), (9,vi (mxI 0 (IntKind.i64.wrap (K2 - 1)))), (10,vi i), (100,.bool false), (101,.agg #[vi 14, vi 0, vi 0]), (102,.agg #[vi 14, vi 0, vi 0])] [(⟨b2, 0, none⟩, vi 14), (⟨b2, 1, none⟩, vi 0), (⟨b2, 2, none⟩, vi 0), (⟨b4, 0, none⟩, vi 14), (⟨b4, 1, none⟩, vi 0), (⟨b4, 2, none⟩, vi 0)] (hasC (ba 2) (hasC (ba 2) (hasC (ba 2) (hasC (ba 0) (hasC (ba 0) (hasC (ba 0) has0)))))) ?_ 2 3
    refine Xs (yldS (eqY1 31 31 (.tmp 101) (.tmp 102) [.int .i64 14, .int .i64 0, .int .i64 0] [.int .i64 14, .int .i64 0, .int .i64 0] true 103)) (fun _ => ?_) 1
    refine Xe [(0,.slice s.a s.l.length s.c), (1,.slice t.a t.l.length t.c), (2,.slice e.a e.l.length e.c), (7,.pointer (some ⟨p.1, 0, none⟩)), (8,.pointer (some ⟨o.1, 0, none⟩)), (9,vi (mxI 0 (IntKind.i64.wrap (K2 - 1)))), (10,vi i), (104,.bool false)] ?_ 1
    refine Xc false (fun h => by cases h) (fun _ => ?_)
    refine Xk (Xg 3 (Xe [(0,.slice s.a s.l.length s.c), (1,.slice t.a t.l.length t.c), (2,.slice e.a e.l.length e.c), (7,.pointer (some ⟨p.1, 0, none⟩)), (8,.pointer (some ⟨o.1, 0, none⟩)), (9,vi (mxI 0 (IntKind.i64.wrap (K2 - 1)))), (10,vi (IntKind.i64.wrap ((i : Int) + 1)))] ?_ 3))
    rw [show IntKind.i64.wrap (K2 - 1) = (K2 - 1) by rw [w64 (by omega) (by omega)]]
    rw [show IntKind.i64.wrap ((i : Int) + 1) = ((i : Int) + 1) by rw [w64 (by omega) (by omega)]]
    rw [show (mxI 0 (K2 - 1)) = (K2) by unfold mxI; split <;> omega]
    refine PT.pick 3 rfl ?_
    refine PT.pick 3 rfl ?_
    refine PT.pick 3 rfl ?_
    refine PT.pick 3 rfl ?_
    refine PT.pick 7 rfl ?_
    refine PT.pick 7 rfl ?_
    refine PT.pick 7 rfl ?_
    refine PT.pick 7 rfl ?_
    refine PT.pick 4 rfl ?_
    refine PT.drop ?_
    refine PT.pick 4 rfl ?_
    refine PT.drop ?_
    refine PT.pick 4 rfl ?_
    refine PT.drop ?_
    refine PT.pick 4 rfl ?_
    refine PT.drop ?_
    refine Xp [(0,.slice s.a s.l.length s.c), (1,.slice t.a t.l.length t.c), (2,.slice e.a e.l.length e.c), (7,.pointer (some ⟨p.1, 0, none⟩)), (8,.pointer (some ⟨o.1, 0, none⟩)), (9,vi K2), (10,vi ((i : Int) + 1))] ?_
    exact againG (k0 - 1) ((act q x2 i 0 11 3 v, act r y2 i 0 11 3 v, K2), i + 1) rfl rfl (by omega) ⟨by simp only; omega, ⟨hJa.mono (by simp only; omega), hJb.mono (by simp only; omega), by simp only; omega⟩⟩
   ·skip
    obtain ⟨hra, hJa⟩ := hI2.a.send (q := q) (by omega) (i : Int) v
    obtain ⟨hrb, hJb⟩ := hI2.b.send (q := r) (by omega) (i : Int) v
    rw [if_neg h0] at hra hrb
    simp only [if_neg h0] at hJa hJb
    refine Xs (Xa (some 80) (fun _ => .tuple #[.agg #[vi 0, vi 0, vi 0], .bool true]) (chg_at 1 rfl (bAct _ p.1 q p.2 x2 hE.up.up.up.up ((bKC q (wdS o.1 (bC r) o.2 y2 :: bS r :: H)).up) (2 + 3 * i + 1) hI2.a.B (by omega) i 0 (by omega) 1 11 3 v hra))) (fun _ => ?_) 6
    refine Xr [(11,vp b1), (0,.slice s.a s.l.length s.c), (1,.slice t.a t.l.length t.c), (2,.slice e.a e.l.length e.c), (7,.pointer (some ⟨p.1, 0, none⟩)), (8,.pointer (some ⟨o.1, 0, none⟩)), (9,vi K2), (10,vi i), (81,.agg #[vi 0, vi 0, vi 0]), (82,.bool true)] ?_ 3 3
    refine Xs (Xn 31 [vi 0, vi 0, vi 0] (some 12) (fun b => vp b)) (fun b2 => ?_) 2
    refine Xs (Xz [(0,vi 0), (1,vi 0), (2,vi 0)]) (fun _ => ?_) 1
    refine Xe [(12,vp b2), (11,vp b1), (0,.slice s.a s.l.length s.c), (1,.slice t.a t.l.length t.c), (2,.slice e.a e.l.length e.c), (7,.pointer (some ⟨p.1, 0, none⟩)), (8,.pointer (some ⟨o.1, 0, none⟩)), (9,vi K2), (10,vi i)] ?_ 1
    refine Xq (Xg 10 (Xl [(12,vp b2), (0,.slice s.a s.l.length s.c), (1,.slice t.a t.l.length t.c), (2,.slice e.a e.l.length e.c), (7,.pointer (some ⟨p.1, 0, none⟩)), (8,.pointer (some ⟨o.1, 0, none⟩)), (9,vi K2), (10,vi i), (84,.pointer (some ⟨o.1, 0, none⟩)), (85,vi i), (86,.agg #[vi 11, vi 3, vi v])] [(⟨b1, 0, none⟩, vi 11), (⟨b1, 1, none⟩, vi 3), (⟨b1, 2, none⟩, vi v)] (hasC (ba 1) (hasC (ba 1) (hasC (ba 1) has0))) ?_ 7 3))
    refine Xs (Xa (some 87) (fun _ => .tuple #[.agg #[vi 0, vi 0, vi 0], .bool true]) (chg_at 4 rfl (bAct _ o.1 r o.2 y2 hE.up.up.up.up.up ((bKC r H).up.up.up.up) (2 + 3 * i + 1) hI2.b.B (by omega) i 0 (by omega) 1 11 3 v hrb))) (fun _ => ?_) 6
    refine Xr [(12,vp b2), (0,.slice s.a s.l.length s.c), (1,.slice t.a t.l.length t.c), (2,.slice e.a e.l.length e.c), (7,.pointer (some ⟨p.1, 0, none⟩)), (8,.pointer (some ⟨o.1, 0, none⟩)), (9,vi K2), (10,vi i), (88,.agg #[vi 0, vi 0, vi 0]), (89,.bool true)] ?_ 3 3
    refine Xs (Xn 31 [vi 0, vi 0, vi 0] (some 14) (fun b => vp b)) (fun b3 => ?_) 2
    refine Xs (Xz [(0,vi 0), (1,vi 0), (2,vi 0)]) (fun _ => ?_) 1
    refine Xe [(14,vp b3), (12,vp b2), (0,.slice s.a s.l.length s.c), (1,.slice t.a t.l.length t.c), (2,.slice e.a e.l.length e.c), (7,.pointer (some ⟨p.1, 0, none⟩)), (8,.pointer (some ⟨o.1, 0, none⟩)), (9,vi K2), (10,vi i)] ?_ 1
    refine Xq (Xg 3 (Xr [(14,vp b3), (12,vp b2), (0,.slice s.a s.l.length s.c), (1,.slice t.a t.l.length t.c), (2,.slice e.a e.l.length e.c), (7,.pointer (some ⟨p.1, 0, none⟩)), (8,.pointer (some ⟨o.1, 0, none⟩)), (9,vi K2), (10,vi i), (90,.agg #[vi 0, vi 0, vi 0])] ?_ 2 1))
    refine Xs (Xn 31 [vi 0, vi 0, vi 0] (some 16) (fun b => vp b)) (fun b4 => ?_) 1
    refine Xs (Xz [(0,vi 0), (1,vi 0), (2,vi 0)]) (fun _ => ?_) 0
    refine endR ?_
    refine Xq (Xq (Xg 2 (Xe [(16,vp b4), (14,vp b3), (12,vp b2), (0,.slice s.a s.l.length s.c), (1,.slice t.a t.l.length t.c), (2,.slice e.a e.l.length e.c), (7,.pointer (some ⟨p.1, 0, none⟩)), (8,.pointer (some ⟨o.1, 0, none⟩)), (9,vi K2), (10,vi i), (92,.bool (K2 == 0))] ?_ 2)))
    rw [show (K2 == 0) = false from by simp [h0]]
    refine Xc false (fun h => by cases h) (fun _ => ?_)
    refine Xk (Xq (Xg 4 (Xe [(16,vp b4), (14,vp b3), (12,vp b2), (0,.slice s.a s.l.length s.c), (1,.slice t.a t.l.length t.c), (2,.slice e.a e.l.length e.c), (7,.pointer (some ⟨p.1, 0, none⟩)), (8,.pointer (some ⟨o.1, 0, none⟩)), (9,vi (mxI 0 (IntKind.i64.wrap (K2 - 1)))), (10,vi i)] ?_ 4)))
    refine Xq (Xg 8 (Xl [(16,vp b4), (12,vp b2), (0,.slice s.a s.l.length s.c), (1,.slice t.a t.l.length t.c), (2,.slice e.a e.l.length e.c), (7,.pointer (some ⟨p.1, 0, none⟩)), (8,.pointer (some ⟨o.1, 0, none⟩)), (9,vi (mxI 0 (IntKind.i64.wrap (K2 - 1)))), (10,vi i), (97,.agg #[vi 0, vi 0, vi 0]), (98,.agg #[vi 0, vi 0, vi 0])] [(⟨b2, 0, none⟩, vi 0), (⟨b2, 1, none⟩, vi 0), (⟨b2, 2, none⟩, vi 0), (⟨b3, 0, none⟩, vi 0), (⟨b3, 1, none⟩, vi 0), (⟨b3, 2, none⟩, vi 0)] (hasC (ba 2) (hasC (ba 2) (hasC (ba 2) (hasC (ba 1) (hasC (ba 1) (hasC (ba 1) has0)))))) ?_ 6 2))
    refine Xs (yldS (eqY1 31 31 (.tmp 97) (.tmp 98) [.int .i64 0, .int .i64 0, .int .i64 0] [.int .i64 0, .int .i64 0, .int .i64 0] true 99)) (fun _ => ?_) 5
    refine Xl [(0,.slice s.a s.l.length s.c), (1,.slice t.a t.l.length t.c), (2,.slice e.a e.l.length e.c), (7,.pointer (some ⟨p.1, 0, none⟩)), (8,.pointer (some ⟨o.1, 0, none⟩)), (9,vi (mxI 0 (IntKind.i64.wrap (K2 - 1)))), (10,vi i), (100,.bool false), (101,.agg #[vi 0, vi 0, vi 0]), (102,.agg #[vi 0, vi 0, vi 0])] [(⟨b2, 0, none⟩, vi 0), (⟨b2, 1, none⟩, vi 0), (⟨b2, 2, none⟩, vi 0), (⟨b4, 0, none⟩, vi 0), (⟨b4, 1, none⟩, vi 0), (⟨b4, 2, none⟩, vi 0)] (hasC (ba 2) (hasC (ba 2) (hasC (ba 2) (hasC (ba 0) (hasC (ba 0) (hasC (ba 0) has0)))))) ?_ 2 3
    refine Xs (yldS (eqY1 31 31 (.tmp 101) (.tmp 102) [.int .i64 0, .int .i64 0, .int .i64 0] [.int .i64 0, .int .i64 0, .int .i64 0] true 103)) (fun _ => ?_) 1
    refine Xe [(0,.slice s.a s.l.length s.c), (1,.slice t.a t.l.length t.c), (2,.slice e.a e.l.length e.c), (7,.pointer (some ⟨p.1, 0, none⟩)), (8,.pointer (some ⟨o.1, 0, none⟩)), (9,vi (mxI 0 (IntKind.i64.wrap (K2 - 1)))), (10,vi i), (104,.bool false)] ?_ 1
    refine Xc false (fun h => by cases h) (fun _ => ?_)
    refine Xk (Xg 3 (Xe [(0,.slice s.a s.l.length s.c), (1,.slice t.a t.l.length t.c), (2,.slice e.a e.l.length e.c), (7,.pointer (some ⟨p.1, 0, none⟩)), (8,.pointer (some ⟨o.1, 0, none⟩)), (9,vi (mxI 0 (IntKind.i64.wrap (K2 - 1)))), (10,vi (IntKind.i64.wrap ((i : Int) + 1)))] ?_ 3))
    rw [show IntKind.i64.wrap (K2 - 1) = (K2 - 1) by rw [w64 (by omega) (by omega)]]
    rw [show IntKind.i64.wrap ((i : Int) + 1) = ((i : Int) + 1) by rw [w64 (by omega) (by omega)]]
    rw [show (mxI 0 (K2 - 1)) = (K2 - 1) by unfold mxI; split <;> omega]
    refine PT.pick 3 rfl ?_
    refine PT.pick 3 rfl ?_
    refine PT.pick 3 rfl ?_
    refine PT.pick 3 rfl ?_
    refine PT.pick 7 rfl ?_
    refine PT.pick 7 rfl ?_
    refine PT.pick 7 rfl ?_
    refine PT.pick 7 rfl ?_
    refine PT.pick 4 rfl ?_
    refine PT.drop ?_
    refine PT.pick 4 rfl ?_
    refine PT.drop ?_
    refine PT.pick 4 rfl ?_
    refine PT.drop ?_
    refine PT.pick 4 rfl ?_
    refine PT.drop ?_
    refine Xp [(0,.slice s.a s.l.length s.c), (1,.slice t.a t.l.length t.c), (2,.slice e.a e.l.length e.c), (7,.pointer (some ⟨p.1, 0, none⟩)), (8,.pointer (some ⟨o.1, 0, none⟩)), (9,vi (K2 - 1)), (10,vi ((i : Int) + 1))] ?_
    exact againG (k0 - 1) ((act q x2 i 0 11 3 v, act r y2 i 0 11 3 v, K2 - 1), i + 1) rfl rfl (by omega) ⟨by simp only; omega, ⟨hJa.mono (by simp only; omega), hJb.mono (by simp only; omega), by simp only; omega⟩⟩
  ·skip
   refine Xx 0 (thenX (thenX (leaveR (Xq (Xg 1 (Xe [(6,.bool true)] ?_ 1))))))
   refine Xv (Y0 (.bool true) (fun w hs => ?_))
   exact ⟨(), rfl, Sat.right (R := [_, _, _, _]) hs⟩
theorem blind_row (W : World) (hE : W.cell? ⟨0, 0, none⟩ = some errT) (ao : Option Addr) (c : Nat) (l : List Int) (ao2 : Option Addr) (c2 : Nat) (l2 : List Bool) (ao3 : Option Addr) (c3 : Nat) (l3 : List Bool) (hrd : Rd (kE .u8) W (.slice ao l.length c) l) (hl : ∀ x ∈ l, (Lit.int .u8 x).wf = true) (hrd2 : Rd boE W (.slice ao2 l2.length c2) l2) (hl2 : ∀ x ∈ l2, True) (hrd3 : Rd boE W (.slice ao3 l3.length c3) l3) (hl3 : ∀ x ∈ l3, True) : Calls Tryz.prog 7 #[.slice ao l.length c, .slice ao2 l2.length c2, .slice ao3 l3.length c3] W (LawPost W) :=
 lawPost (fun _ _ h => h) (blind21 [old W] (EK.old 0 rfl hE) ⟨ao, c, l⟩ ⟨ao2, c2, l2⟩ ⟨ao3, c3, l3⟩ (KR.old hrd 0 rfl) (KR.old hrd2 0 rfl) (KR.old hrd3 0 rfl) (fun x hx => u8_wf (hl x hx)) W (Sat.start W))
end Go.Proofs.YtfhkgohokbkgiaaGreatDoor
