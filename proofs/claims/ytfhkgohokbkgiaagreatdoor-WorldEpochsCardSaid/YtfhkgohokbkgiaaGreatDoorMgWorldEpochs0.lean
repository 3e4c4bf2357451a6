/- Texts put together: A world's kernels: contracts. A latch's levels, plan, as a world's. tontineref1.SameInts. WorldEpochs: its walk. Conditions: none. -/
import Derived.Test.YtfhkgohokbkgiaaGreatDoorMgWb6
set_option linter.unusedVariables false
set_option linter.unusedSimpArgs false
namespace Go.Proofs.YtfhkgohokbkgiaaGreatDoor
open Go.RowKit G
def kUp (z : WS) (d : Nat) (k : KS) : WS := wUp z d { sdAt z d with k := k }
def kOf (z : WS) (d : Nat) : KS := (sdAt z d).k
theorem sd_at {z : WS} {d : Nat} (h : d < z.s.length) : z.s[d]? = some (sdAt z d) := by
 rw [sdAt, List.getD_eq_getElem?_getD, List.getElem?_eq_getElem h]; rfl
theorem kUp_self {z : WS} {d : Nat} (h : d < z.s.length) : kUp z d (kOf z d) = z := wUp_self (x := sdAt z d) (sd_at h)
section
variable (H : List SP) (wb : Nat) (c : ConfV) (P : WP) (z : WS) (d : Nat) (p : SdP) (hp : P.s[d]? = some p) (hd : d < z.s.length)
include hp hd
theorem wkRunnable : ∀ v, Sat v (wdS wb c P z :: H) → Calls Tryz.prog 27 #[.pointer (some ⟨p.k, 0, none⟩)] v (Ret (ι := Unit) (fun _ => .bool (krunnable (kOf z d))) fun _ => wdS wb c P z :: H) := fun v hs => by
 have h := wdKer (wb := wb) (c := c) (X := fun _ : Unit => []) (k' := fun _ => kOf z d) hp (sd_at hd) (fun H => krRunnable H p.k (kOf z d)) H v hs
 rwa [show wUp z d { sdAt z d with k := kOf z d } = z from kUp_self hd] at h
theorem wkWake (t : Int) : ∀ v, Sat v (wdS wb c P z :: H) → Calls Tryz.prog 28 #[.pointer (some ⟨p.k, 0, none⟩), vi t] v (Ret (ι := Option Addr × Nat) (fun x => .slice x.1 (kwake (kOf z d) t).1.length x.2) fun x => row (kE .i64) 3 (.slice x.1 (kwake (kOf z d) t).1.length x.2) (kwake (kOf z d) t).1 :: wdS wb c P (kUp z d (kwake (kOf z d) t).2) :: H) :=
 wdKer (wb := wb) (c := c) (X := fun x : Option Addr × Nat => [row (kE .i64) 3 (.slice x.1 (kwake (kOf z d) t).1.length x.2) (kwake (kOf z d) t).1]) (k' := fun _ => (kwake (kOf z d) t).2) hp (sd_at hd) (fun H => krWake H p.k (kOf z d) t) H
theorem wkRun : ∀ v, Sat v (wdS wb c P z :: H) → Calls Tryz.prog 33 #[.pointer (some ⟨p.k, 0, none⟩)] v (Ret (ι := Unit) (fun _ => .tuple #[vi (krun (kOf z d)).1.1, .bool (krun (kOf z d)).1.2]) fun _ => wdS wb c P (kUp z d (krun (kOf z d)).2) :: H) :=
 wdKer (wb := wb) (c := c) (X := fun _ : Unit => []) (k' := fun _ => (krun (kOf z d)).2) hp (sd_at hd) (fun H => krRun H p.k (kOf z d)) H
theorem wkSignal (j : Int) : ∀ v, Sat v (wdS wb c P z :: H) → Calls Tryz.prog 133 #[.pointer (some ⟨p.k, 0, none⟩), vi j] v (Ret (ι := Unit) (fun _ => pqErr (ksignal (kOf z d) j).1) fun _ => wdS wb c P (kUp z d (ksignal (kOf z d) j).2) :: H) :=
 wdKer (wb := wb) (c := c) (X := fun _ : Unit => []) (k' := fun _ => (ksignal (kOf z d) j).2) hp (sd_at hd) (fun H => krSignal H p.k (kOf z d) j) H
theorem wkNodes (hid : (kOf z d).nx ≤ 1099511627776) : ∀ v, Sat v (wdS wb c P z :: H) → Calls Tryz.prog 26 #[.pointer (some ⟨p.k, 0, none⟩)] v (Ret (ι := Option Addr × Nat) (fun x => .slice x.1 (nodesN (kOf z d).N).length x.2) fun x => row nE 147 (.slice x.1 (nodesN (kOf z d).N).length x.2) (nodesN (kOf z d).N) :: wdS wb c P z :: H) := fun v hs => by
 have h := wdKer (wb := wb) (c := c) (X := fun x : Option Addr × Nat => [row nE 147 (.slice x.1 (nodesN (kOf z d).N).length x.2) (nodesN (kOf z d).N)]) (k' := fun _ => kOf z d) hp (sd_at hd) (fun H => krNodes H p.k (kOf z d) hid) H v hs
 rwa [show wUp z d { sdAt z d with k := kOf z d } = z from kUp_self hd] at h
end
end Go.Proofs.YtfhkgohokbkgiaaGreatDoor
set_option linter.unusedVariables false
set_option linter.unusedSimpArgs false
namespace Go.Proofs.YtfhkgohokbkgiaaGreatDoor
open Go.RowKit G
theorem blkKR {α : Type} {E : Enc α} {T : TypeId} {b : Nat} {xs : List α} {H : List SP} (j : Nat) (hj : H[j]? = some (blk b T (E.flat xs))) (hl : xs.length ≤ maxLen) : KR H E ⟨some ⟨b, 0, none⟩, xs.length, xs⟩ := fun w hs => rowKRat (T := T) 0 rfl w (Sat.blkRows hl (hs.pick j hj))
set_option maxRecDepth 100000 in
theorem cloneI_walk (H : List SP) (j : Nat) (A : Option Addr) (cap : Nat) (l : List Int) (hj : H[j]? = some (row (kE .i64) 3 (.slice A l.length cap) l)) (hl : l.length ≤ 1000000) : ∀ w, Sat w H → Calls Tryz.prog 56 #[.slice A l.length cap] w (Ret (ι := Option Addr × Nat) (fun p => .slice p.1 l.length p.2) fun p => row (kE .i64) 3 (.slice p.1 l.length p.2) l :: H) := by
 have hk : KR H (kE .i64) ⟨A, cap, l⟩ := rowKRat j hj
 refine enterG (fn := Tryz.f56) 8 [.slice A l.length cap] Tryz.func56 (by kernel_rfl) (by kernel_rfl) (by kernel_rfl) ?_
 refine PT.know (rowA j hj) ?_
 intro hA
 rcases hA with ⟨rfl, rfl, rfl⟩ | ⟨sb, so, rfl⟩
 ·skip
  refine Xq (Xg 1 (Xe [(0,.slice none 0 0), (2,.slice none 0 0)] ?_ 1))
  refine Xq (Xq (Xg 2 (Xe [(0,.slice none 0 0), (2,.slice none 0 0), (4,.bool true)] ?_ 2)))
  refine Xc true (fun _ => ?_) (fun h => by cases h)
  refine Xq (Xg 1 (Xe [(0,.slice none 0 0), (2,.slice none 0 0)] ?_ 1))
  refine Xv (thenV ?_)
  refine PT.rowNil (kE .i64) 3 ?_
  refine Y0 (.slice none 0 0) (fun w hs => ?_)
  exact ⟨(none, 0), rfl, hs⟩
 ·skip
  refine Xq (Xg 1 (Xe [(0,.slice (some ⟨sb, so, none⟩) l.length cap), (2,.slice none 0 0)] ?_ 1))
  refine Xq (Xq (Xg 2 (Xe [(0,.slice (some ⟨sb, so, none⟩) l.length cap), (2,.slice none 0 0), (4,.bool false)] ?_ 2)))
  refine Xc false (fun h => by cases h) (fun _ => ?_)
  refine Xk (Xq (Xg 4 (Xs (Xn 3 [] (some 5) (fun b => .slice (some ⟨b, 0, none⟩) 0 0)) (fun b1 => ?_) 3)))
  refine Xr [(5,.slice (some ⟨b1, 0, none⟩) 0 0), (2,.slice none 0 0), (6,.slice (some ⟨sb, so, none⟩) l.length cap)] ?_ 2 1
  refine PT.blkRow0 (E := kE .i64) ?_
  refine Xs (Xf (E := (kE .i64)) 42 (.tmp 5) (.tmp 6) (some ⟨b1, 0, none⟩) 0 ([] : List Int) l (.slice (some ⟨sb, so, none⟩) l.length cap) 7 Tryz.underlying42 (etyIn) ((hk.up)) (by simp only [List.length_nil]; omega)) (fun r2 => ?_) 1
  refine Xe [(2,.slice r2.1 ((([] : List Int) ++ l).length) r2.2)] ?_ 1
  refine Xv (Y0 (.slice r2.1 ((([] : List Int) ++ l).length) r2.2) (fun w hs => ?_))
  exact ⟨r2, rfl, hs⟩
set_option maxRecDepth 100000 in
theorem ltlevels_walk (H : List SP) (b r q : Nat) (c : ConfV) (p ap : Int) (l al : List Int) (hl : l.length ≤ 1000000) : ∀ w, Sat w (blk b 139 [vi c.frame, vi c.epoch, .slice c.plans.a c.plans.l.length c.plans.c, .slice c.domains.a c.domains.l.length c.domains.c, vi p, .slice (some ⟨r, 0, none⟩) l.length l.length, vi ap, .slice (some ⟨q, 0, none⟩) al.length al.length] :: row (kE .i64) 3 (.slice (some ⟨r, 0, none⟩) l.length l.length) l :: row (kE .i64) 3 (.slice (some ⟨q, 0, none⟩) al.length al.length) al :: H) → Calls Tryz.prog 24 #[vp b] w (Ret (ι := Option Addr × Nat) (fun x => .slice x.1 l.length x.2) fun x => row (kE .i64) 3 (.slice x.1 l.length x.2) l :: blk b 139 [vi c.frame, vi c.epoch, .slice c.plans.a c.plans.l.length c.plans.c, .slice c.domains.a c.domains.l.length c.domains.c, vi p, .slice (some ⟨r, 0, none⟩) l.length l.length, vi ap, .slice (some ⟨q, 0, none⟩) al.length al.length] :: row (kE .i64) 3 (.slice (some ⟨r, 0, none⟩) l.length l.length) l :: row (kE .i64) 3 (.slice (some ⟨q, 0, none⟩) al.length al.length) al :: H) := by
 refine enterG (fn := Tryz.f24) 9 [vp b] Tryz.func24 (by kernel_rfl) (by kernel_rfl) (by kernel_rfl) ?_
 refine Xq (Xg 1 (Xe [(0,vp b), (2,.slice none 0 0)] ?_ 1))
 refine Xq (Xg 7 (Xl [(2,.slice none 0 0), (7,.slice (some ⟨r, 0, none⟩) l.length l.length)] [(⟨b, 5, none⟩, .slice (some ⟨r, 0, none⟩) l.length l.length)] (hasC (ba 0) has0) ?_ 2 5))
 refine Xs (Xa (some 8) (fun (x : Option Addr × Nat) => .slice x.1 l.length x.2) (cloneI_walk _ 1 (some ⟨r, 0, none⟩) l.length l rfl hl)) (fun (x : Option Addr × Nat) => ?_) 1
 refine Xe [(2,.slice x.1 l.length x.2)] ?_ 1
 refine Xv (Y0 (.slice x.1 l.length x.2) (fun w hs => ?_))
 exact ⟨x, rfl, hs⟩
theorem ltLevels_c (H : List SP) (b : Nat) (c : ConfV) (t : LtS) : ∀ w, Sat w (ltS b c t :: H) → Calls Tryz.prog 24 #[vp b] w (Ret (ι := Option Addr × Nat) (fun x => .slice x.1 t.lv.length x.2) fun x => row (kE .i64) 3 (.slice x.1 t.lv.length x.2) t.lv :: ltS b c t :: H) := fun w hs => by
 obtain ⟨r, q, h1, hs⟩ := Sat.openLt hs
 exact (ltlevels_walk H b r q c t.plan t.askp t.lv t.ask (by have := h1.1; have := h1.2.2; omega) w hs).mono fun e w' ⟨x, he, hx⟩ => ⟨x, he, SatF.swap (Sat.closeLt (H := row (kE .i64) 3 (.slice x.1 t.lv.length x.2) t.lv :: H) (r := r) (q := q) h1 (Sat.perm (List.perm_middle (a := row (kE .i64) 3 (.slice x.1 t.lv.length x.2) t.lv) (l₁ := [_, _, _]) (l₂ := H)).symm hx))⟩
section
variable (H : List SP) (wb : Nat) (c : ConfV) (P : WP) (z : WS)
theorem wLevels_c : ∀ v, Sat v (wdS wb c P z :: H) → Calls Tryz.prog 24 #[.pointer (some ⟨P.t, 0, none⟩)] v (Ret (ι := Option Addr × Nat) (fun x => .slice x.1 z.t.lv.length x.2) fun x => row (kE .i64) 3 (.slice x.1 z.t.lv.length x.2) z.t.lv :: wdS wb c P z :: H) :=
 wdLat (X := fun x : Option Addr × Nat => [row (kE .i64) 3 (.slice x.1 z.t.lv.length x.2) z.t.lv]) (t' := fun _ => z.t) (fun R => ltLevels_c (R ++ H) P.t c z.t)
theorem wPlan_c : ∀ v, Sat v (wdS wb c P z :: H) → Calls Tryz.prog 22 #[.pointer (some ⟨P.t, 0, none⟩)] v (Ret (ι := Unit) (fun _ => vi z.t.plan) fun _ => wdS wb c P z :: H) :=
 wdLat (X := fun _ : Unit => []) (t' := fun _ => z.t) (fun R => ltPlan_c (R ++ H) P.t c z.t)
end
end Go.Proofs.YtfhkgohokbkgiaaGreatDoor
set_option linter.unusedVariables false
set_option linter.unusedSimpArgs false
namespace Go.Proofs.YtfhkgohokbkgiaaGreatDoor
open Go.RowKit G
set_option maxRecDepth 100000 in
theorem sameInts_walk (H : List SP) (s t : SV Int) (hk : KR H (kE .i64) s) (hk2 : KR H (kE .i64) t) (hl : s.l.length < 1000000000) (hl2 : t.l.length < 1000000000) : ∀ w, Sat w H → Calls Tryz.prog 23 #[.slice s.a s.l.length s.c, .slice t.a t.l.length t.c] w (Ret (ι := Unit) (fun _ => .bool (decide (s.l = t.l))) fun _ => H) := by
 refine enterG (fn := Tryz.f23) 26 [.slice s.a s.l.length s.c, .slice t.a t.l.length t.c] Tryz.func23 (by kernel_rfl) (by kernel_rfl) (by kernel_rfl) ?_
 refine Xq (Xg 1 (Xe [(0,.slice s.a s.l.length s.c), (1,.slice t.a t.l.length t.c), (4,.bool false)] ?_ 1))
 refine Xq (Xq (Xg 5 (Xe [(0,.slice s.a s.l.length s.c), (1,.slice t.a t.l.length t.c), (4,.bool false), (10,.bool ((s.l.length : Int) != (t.l.length : Int)))] ?_ 5)))
 refine Xc ((s.l.length : Int) != (t.l.length : Int)) (fun hb => ?_) (fun hb => ?_)
 ·skip
  refine Xq (Xg 1 (Xe [(0,.slice s.a s.l.length s.c), (1,.slice t.a t.l.length t.c), (4,.bool false)] ?_ 1))
  refine Xv (thenV ?_)
  have hne : s.l ≠ t.l := by intro h0; rw [h0] at hb; simp at hb
  refine Y0 (.bool false) (fun w hs => ?_)
  exact ⟨(), by rw [decide_eq_false hne], hs⟩
 ·skip
  have hll : s.l.length = t.l.length := by simp at hb; omega
  refine Xk (Xq (Xq (Xg 1 (Xe [(0,.slice s.a s.l.length s.c), (1,.slice t.a t.l.length t.c), (4,.bool false), (5,vi 0)] ?_ 1))))
  refine Xb 0 (Xp [(0,.slice s.a s.l.length s.c), (1,.slice t.a t.l.length t.c), (4,.bool false), (5,vi 0)] (Xl0 (fun (u : Nat) => [(0,.slice s.a s.l.length s.c), (1,.slice t.a t.l.length t.c), (4,.bool false), (5,vi u)]) (fun k (u : Nat) => k + u = s.l.length ∧ s.l.take u = t.l.take u) s.l.length 0 (by kernel_rfl) ⟨by omega, rfl⟩ ?_))
  rintro k u ⟨hku, hsame⟩
  have hw : IntKind.i64.wrap ((u : Int) + 1) = ((u + 1 : Nat) : Int) := by rw [IntKind.wrap_i64]; omega
  refine Xq (Xq (Xg 4 (Xe [(0,.slice s.a s.l.length s.c), (1,.slice t.a t.l.length t.c), (4,.bool false), (5,vi u), (14,.bool (decide ((u : Int) < (s.l.length : Int))))] ?_ 4)))
  refine Xc (decide ((u : Int) < (s.l.length : Int))) (fun h => ?_) (fun h => ?_)
  ·skip
   have hu : u < s.l.length := by have := of_decide_eq_true h; omega
   have hu2 : u < t.l.length := by omega
   obtain ⟨y, hy⟩ : ∃ y, s.l[u]? = some y := ⟨_, by simp [hu]; rfl⟩
   obtain ⟨z, hz⟩ : ∃ z, t.l[u]? = some z := ⟨_, by simp [hu2]; rfl⟩
   have ht : s.l.take (u + 1) = s.l.take u ++ [y] := by rw [List.take_add_one, hy]; rfl
   have ht2 : t.l.take (u + 1) = t.l.take u ++ [z] := by rw [List.take_add_one, hz]; rfl
   refine PT.know ((hk).isSome (List.ne_nil_of_length_pos (by omega))) ?_
   rintro ⟨sb, so, hA⟩
   try rw [hA]
   refine PT.know ((hk2).isSome (List.ne_nil_of_length_pos (by omega))) ?_
   rintro ⟨tb, to_, hB⟩
   try rw [hB]
   refine Xk (Xq (Xb 1 (Xq (Xy0 0 [] 9 ?_))))
   refine Xt [0, 1, 4, 5] [(0,.slice (some ⟨sb, so, none⟩) s.l.length s.c), (1,.slice (some ⟨tb, to_, none⟩) t.l.length t.c), (4,.bool false), (5,vi u), (17,.slice (some ⟨sb, so, none⟩) s.l.length s.c), (18,vi u), (21,.slice (some ⟨tb, to_, none⟩) t.l.length t.c), (22,vi u)] [] has0 ?_
   refine Xu 2 (Xi 42 (.tmp 17) (.tmp 18) sb so s.l.length s.c u 1 3 (u : Int) 19 Tryz.underlying42) ?_
   refine Xt [3] [(0,.slice (some ⟨sb, so, none⟩) s.l.length s.c), (1,.slice (some ⟨tb, to_, none⟩) t.l.length t.c), (4,.bool false), (5,vi u), (21,.slice (some ⟨tb, to_, none⟩) t.l.length t.c), (22,vi u), (20,vi y)] [(⟨sb, so + u * 1, none⟩, vi y)] (hasC (hk.cell hA (i := u) (x := y) hy (j := 0) rfl) has0) ?_
   refine Xu 6 (Xi 42 (.tmp 21) (.tmp 22) tb to_ t.l.length t.c u 1 3 (u : Int) 23 Tryz.underlying42) ?_
   refine Xt [7, 8] [(0,.slice (some ⟨sb, so, none⟩) s.l.length s.c), (1,.slice (some ⟨tb, to_, none⟩) t.l.length t.c), (4,.bool false), (5,vi u), (25,.bool (y != z))] [(⟨tb, to_ + u * 1, none⟩, vi z)] (hasC (hk2.cell hB (i := u) (x := z) hz (j := 0) rfl) has0) ?_
   refine Xd ?_
   try rw [← hB]
   try rw [← hA]
   refine Xc (y != z) (fun h2 => ?_) (fun h2 => ?_)
   ·skip
    refine Xq (Xg 1 (Xe [(0,.slice s.a s.l.length s.c), (1,.slice t.a t.l.length t.c), (4,.bool false), (5,vi u)] ?_ 1))
    refine Xv (blockV (thenV (thenV (blockV (thenV ?_)))))
    have hne : s.l ≠ t.l := by intro h0; rw [h0, hz] at hy; cases hy; simp at h2
    refine Y0 (.bool false) (fun w hs => ?_)
    exact ⟨(), by rw [decide_eq_false hne], hs⟩
   ·skip
    refine Xk (Xg 3 (Xe [(0,.slice s.a s.l.length s.c), (1,.slice t.a t.l.length t.c), (4,.bool false), (5,vi (IntKind.i64.wrap ((u : Int) + 1)))] ?_ 3))
    have hyz : y = z := by simpa using h2
    refine Xp [(0,.slice s.a s.l.length s.c), (1,.slice t.a t.l.length t.c), (4,.bool false), (5,vi (IntKind.i64.wrap ((u : Int) + 1)))] ?_
    exact againG (k - 1) (u + 1) (by rw [hw]) rfl (by omega) ⟨by omega, by rw [ht, ht2, hsame, hyz]⟩
  ·skip
   have hu : u = s.l.length := by have := of_decide_eq_false h; omega
   rw [hu, List.take_length, hll, List.take_length] at hsame
   refine Xx 0 (thenX (thenX (leaveR (Xq (Xg 1 (Xe [(4,.bool true)] ?_ 1))))))
   refine Xv (Y0 (.bool true) (fun w hs => ?_))
   exact ⟨(), by rw [decide_eq_true hsame], hs⟩
end Go.Proofs.YtfhkgohokbkgiaaGreatDoor
set_option linter.unusedVariables false
set_option linter.unusedSimpArgs false
namespace Go.Proofs.YtfhkgohokbkgiaaGreatDoor
open Go.RowKit G
def ep1 (q : BA) (l : Nat) : WS := act q (wz q) 0 3 13 l 0
def ep2 (q : BA) (l g : Nat) : WS := act q (ep1 q l) 1 0 14 g 0
def ep3 (q : BA) (l g : Nat) : Nat → WS
 | 0 => ep2 q l g
 | i + 1 => act q (ep3 q l g i) (IntKind.i64.wrap (2 + i)) 1 11 3 i
def ep4 (q : BA) (l g n : Nat) : WS := wEpoch (ep3 q l g n)
def ep5 (q : BA) (l g n : Nat) : WS := act q (ep4 q l g n) 20 1 11 3 9
def epL (l : Nat) : Int := if l < 3 then l else 0
def epG (g : Nat) : Int := if g < 2 then g else 0
def epChk (q : BA) : Bool := allN 5 fun l => allN 4 fun g => allN 6 fun n => says q (wz q) 0 3 13 l 0 (if l < 3 then 0 else 10, 0, 0) && says q (ep1 q l) 1 0 14 g 0 (if g < 2 then 0 else 10, 0, 0) && (allN n fun i => says q (ep3 q l g i) (IntKind.i64.wrap (2 + (i : Int))) 1 11 3 i (if i < 3 then 0 else 14, 0, 0)) && says q (ep4 q l g n) 20 1 11 3 9 (0, 0, 0) &&
 ((ep3 q l g n).t.plan == 0) && ((ep3 q l g n).t.lv == [0, 0, 0, 0]) && ((ep5 q l g n).t.plan == epG g) && ((ep5 q l g n).t.lv == [0, 0, 0, epL l]) && Nat.beq (kOf (ep3 q l g n) 1).N.length (kOf (ep5 q l g n) 1).N.length && Nat.beq (sdAt (ep5 q l g n) 1).r.l.length (min 4 ((sdAt (ep3 q l g n) 1).r.l.length + 1)) && decide ((kOf (ep3 q l g n) 1).nx ≤ 9) && decide ((kOf (ep5 q l g n) 1).nx ≤ 9) && decide ((sdAt (ep3 q l g n) 1).r.l.length ≤ 9)
theorem epChk_ok (q : BA) : epChk q = true := by kernel_rfl
structure EpF (q : BA) (l g n : Nat) : Prop where
 r1 : wAct (bC q) (wz q) 0 3 1 13 l 0 = (((if l < 3 then 0 else 10, 0, 0), true), ep1 q l)
 r2 : wAct (bC q) (ep1 q l) 1 0 1 14 g 0 = (((if g < 2 then 0 else 10, 0, 0), true), ep2 q l g)
 r3 : ∀ i, i < n → wAct (bC q) (ep3 q l g i) (IntKind.i64.wrap (2 + (i : Int))) 1 1 11 3 i = (((if i < 3 then 0 else 14, 0, 0), true), ep3 q l g (i + 1))
 r4 : wAct (bC q) (ep4 q l g n) 20 1 1 11 3 9 = (((0, 0, 0), true), ep5 q l g n)
 p3 : (ep3 q l g n).t.plan = 0
 l3 : (ep3 q l g n).t.lv = [0, 0, 0, 0]
 p5 : (ep5 q l g n).t.plan = epG g
 l5 : (ep5 q l g n).t.lv = [0, 0, 0, epL l]
 k : (kOf (ep5 q l g n) 1).N.length = (kOf (ep3 q l g n) 1).N.length
 r : (sdAt (ep5 q l g n) 1).r.l.length = min 4 ((sdAt (ep3 q l g n) 1).r.l.length + 1)
 nx3 : (kOf (ep3 q l g n) 1).nx ≤ 9
 nx5 : (kOf (ep5 q l g n) 1).nx ≤ 9
 rl : (sdAt (ep3 q l g n) 1).r.l.length ≤ 9
theorem ep_all (q : BA) {l g n : Nat} (hl : l < 5) (hg : g < 4) (hn : n < 6) : EpF q l g n := by
 have h := allN_at (allN_at (allN_at (epChk_ok q) hl) hg) hn
 simp only [Bool.and_eq_true, decide_eq_true_eq] at h
 obtain ⟨⟨⟨⟨⟨⟨⟨⟨⟨⟨⟨⟨h1, h2⟩, h3⟩, h4⟩, h5⟩, h6⟩, h7⟩, h8⟩, h9⟩, h10⟩, h11⟩, h12⟩, h13⟩ := h
 exact ⟨says_is h1, says_is h2, fun i hi => says_is (allN_at h3 hi), says_is h4, eq_of_beq h5, eq_of_beq h6, eq_of_beq h7, eq_of_beq h8, (Nat.eq_of_beq_eq_true h9).symm, Nat.eq_of_beq_eq_true h10, h11, h12, h13⟩
theorem ep3_B (q : BA) (l g : Nat) : ∀ i : Nat, WdB (ep3 q l g i) (4 + i)
 | 0 => by have h1 := act_B (q := q) (wz_B q) (by omega) 0 3 13 l 0; exact (act_B (q := q) h1 (by omega) 1 0 14 g 0).mono (by omega)
 | i + 1 => (act_B (q := q) (ep3_B q l g i) (by omega) (IntKind.i64.wrap (2 + i)) 1 11 3 i).mono (by omega)
theorem ep3_len (q : BA) (l g : Nat) : ∀ i : Nat, (ep3 q l g i).s.length = 4
 | 0 => by unfold ep3 ep2 ep1 act; rw [wAct_len, wAct_len]; rfl
 | i + 1 => by unfold ep3 act; rw [wAct_len]; exact ep3_len q l g i
theorem ep5_len (q : BA) (l g n : Nat) : (ep5 q l g n).s.length = 4 := by
 unfold ep5 act ep4 wEpoch; rw [wAct_len]; simp only [List.length_map]; exact ep3_len q l g n
set_option maxHeartbeats 1000000 in
set_option maxRecDepth 100000 in
theorem epochs21 (H : List SP) (hE : EK H) (lv pl sn : Int) (hlv : 0 ≤ lv ∧ lv < 256) (hpl : 0 ≤ pl ∧ pl < 256) (hsn : 0 ≤ sn ∧ sn < 256) : ∀ w, Sat w H → Calls Tryz.prog 8 #[.int .u8 lv, .int .u8 pl, .int .u8 sn] w (Ret (ι := Unit) (fun _ => .bool true) fun _ => H) := by
 have h5 := tmod_range hlv.1 (m := 5) (by omega)
 have h4 := tmod_range hpl.1 (m := 4) (by omega)
 have h6 := tmod_range hsn.1 (m := 6) (by omega)
 obtain ⟨l, hl⟩ : ∃ x : Nat, Int.tmod lv 5 = (x : Int) := ⟨(Int.tmod lv 5).toNat, by omega⟩
 obtain ⟨g, hg⟩ : ∃ x : Nat, Int.tmod pl 4 = (x : Int) := ⟨(Int.tmod pl 4).toNat, by omega⟩
 obtain ⟨n, hn⟩ : ∃ x : Nat, Int.tmod sn 6 = (x : Int) := ⟨(Int.tmod sn 6).toNat, by omega⟩
 have hcd : ((((if l < 3 then (0 : Int) else 10) == 0) == (decide (lv.tmod 5 < 3))) && (((if g < 2 then (0 : Int) else 10) == 0) == (decide (pl.tmod 4 < 2)))) = true := by
  rw [hl, hg]; by_cases a : l < 3 <;> by_cases b : g < 2 <;> simp [a, b] <;> omega
 have hmx : mxI 0 (IntKind.i64.wrap (IntKind.i64.wrap (sn.tmod 6) - 3)) = ((n - 3 : Nat) : Int) := by rw [w64 (n := sn.tmod 6) (by omega) (by omega), hn, w64 (by omega) (by omega)]; unfold mxI; split <;> omega
 refine enterG (fn := Tryz.f8) 169 [.int .u8 lv, .int .u8 pl, .int .u8 sn] Tryz.func8 (by kernel_rfl) (by kernel_rfl) (by kernel_rfl) ?_
 refine Xq (Xg 1 (Xe [(0,.int .u8 lv), (1,.int .u8 pl), (2,.int .u8 sn), (6,.bool false)] ?_ 1))
 refine Xq (Xq (Xg 2 (Xs (Xa (some 22) (fun _ => .bool true) (known21 _ hE)) (fun _ => ?_) 1)))
 refine Xe [(0,.int .u8 lv), (1,.int .u8 pl), (2,.int .u8 sn), (6,.bool false), (23,.bool false)] ?_ 1
 refine Xc false (fun h => by cases h) (fun _ => ?_)
 refine Xk (Xq (Xg 3 (Xs (Xa (some 24) (fun (q : BA) => .agg #[vi 8, vi 2, .slice (some ⟨q.ps, 0, none⟩) 2 2, .slice (some ⟨q.ds, 0, none⟩) 4 4]) (base_walk _)) (fun (q : BA) => ?_) 2)))
 have hF := ep_all q (l := l) (g := g) (n := n) (by omega) (by omega) (by omega)
 refine Xs (Xa (some 25) (fun (p : Nat × WP) => .pointer (some ⟨p.1, 0, none⟩)) (bNew _ q (bKC q _))) (fun (p : Nat × WP) => ?_) 1
 refine PT.know (bGet (bS q :: H) p.1 q p.2 (wz q) 1 (by omega)) ?_
 rintro ⟨p1, x1, hp1, hx1⟩
 refine Xe [(0,.int .u8 lv), (1,.int .u8 pl), (2,.int .u8 sn), (6,.bool false), (7,.pointer (some ⟨p.1, 0, none⟩))] ?_ 1
 refine Xq (Xg 12 (Xr [(0,.int .u8 lv), (1,.int .u8 pl), (2,.int .u8 sn), (6,.bool false), (7,.pointer (some ⟨p.1, 0, none⟩)), (27,.pointer (some ⟨p.1, 0, none⟩)), (31,.agg #[vi 13, vi (IntKind.i64.wrap (Int.tmod lv 5)), vi 0])] ?_ 7 5))
 rw [show IntKind.i64.wrap (Int.tmod lv 5) = (l : Int) by rw [w64 (by omega) (by omega)]; exact hl]
 refine Xs (Xa (some 32) (fun _ => .tuple #[.agg #[vi (if l < 3 then (0 : Int) else 10), vi 0, vi 0], .bool true]) (bAct _ p.1 q p.2 (wz q) hE.up (bKC q H) 2 (wz_B q) (by omega) 0 3 (by omega) 1 13 l 0 hF.r1)) (fun _ => ?_) 6
 refine Xr [(0,.int .u8 lv), (1,.int .u8 pl), (2,.int .u8 sn), (6,.bool false), (7,.pointer (some ⟨p.1, 0, none⟩)), (33,.agg #[vi (if l < 3 then (0 : Int) else 10), vi 0, vi 0]), (34,.bool true)] ?_ 3 3
 refine Xs (Xn 31 [vi 0, vi 0, vi 0] (some 8) (fun b => vp b)) (fun b1 => ?_) 2
 refine Xs (Xz [(0,vi (if l < 3 then (0 : Int) else 10)), (1,vi 0), (2,vi 0)]) (fun _ => ?_) 1
 refine Xe [(8,vp b1), (0,.int .u8 lv), (1,.int .u8 pl), (2,.int .u8 sn), (6,.bool false), (7,.pointer (some ⟨p.1, 0, none⟩))] ?_ 1
 refine Xq (Xg 12 (Xr [(8,vp b1), (0,.int .u8 lv), (1,.int .u8 pl), (2,.int .u8 sn), (6,.bool false), (7,.pointer (some ⟨p.1, 0, none⟩)), (36,.pointer (some ⟨p.1, 0, none⟩)), (40,.agg #[vi 14, vi (IntKind.i64.wrap (Int.tmod pl 4)), vi 0])] ?_ 7 5))
 rw [show IntKind.i64.wrap (Int.tmod pl 4) = (g : Int) by rw [w64 (by omega) (by omega)]; exact hg]
 refine Xs (Xa (some 41) (fun _ => .tuple #[.agg #[vi (if g < 2 then (0 : Int) else 10), vi 0, vi 0], .bool true]) (chg_at 1 rfl (bAct _ p.1 q p.2 (ep1 q l) hE.up.up (bKC q H).up 3 (act_B (q := q) (wz_B q) (by omega) 0 3 13 l 0) (by omega) 1 0 (by omega) 1 14 g 0 hF.r2))) (fun _ => ?_) 6
 refine Xr [(8,vp b1), (0,.int .u8 lv), (1,.int .u8 pl), (2,.int .u8 sn), (6,.bool false), (7,.pointer (some ⟨p.1, 0, none⟩)), (42,.agg #[vi (if g < 2 then (0 : Int) else 10), vi 0, vi 0]), (43,.bool true)] ?_ 3 3
 refine Xs (Xn 31 [vi 0, vi 0, vi 0] (some 10) (fun b => vp b)) (fun b2 => ?_) 2
 refine Xs (Xz [(0,vi (if g < 2 then (0 : Int) else 10)), (1,vi 0), (2,vi 0)]) (fun _ => ?_) 1
 refine Xe [(10,vp b2), (8,vp b1), (0,.int .u8 lv), (1,.int .u8 pl), (2,.int .u8 sn), (6,.bool false), (7,.pointer (some ⟨p.1, 0, none⟩))] ?_ 1
 refine Xq (Xg 1 (Xe [(10,vp b2), (8,vp b1), (0,.int .u8 lv), (1,.int .u8 pl), (2,.int .u8 sn), (6,.bool false), (7,.pointer (some ⟨p.1, 0, none⟩)), (12,vi 0)] ?_ 1))
 refine Xq (Xq (Xg 1 (Xe [(10,vp b2), (8,vp b1), (0,.int .u8 lv), (1,.int .u8 pl), (2,.int .u8 sn), (6,.bool false), (7,.pointer (some ⟨p.1, 0, none⟩)), (12,vi 0), (13,vi 0)] ?_ 1)))
 refine Xb 0 (Xp [(0,.int .u8 lv), (1,.int .u8 pl), (2,.int .u8 sn), (7,.pointer (some ⟨p.1, 0, none⟩)), (8,vp b1), (10,vp b2), (12,vi 0), (13,vi 0)] ?_)
 refine loopG (fun (i : Nat) => [(0, .int .u8 lv), (1, .int .u8 pl), (2, .int .u8 sn), (7, .pointer (some ⟨p.1, 0, none⟩)), (8, vp b1), (10, vp b2), (12, vi ((i - 3 : Nat) : Int)), (13, vi i)]) (fun (i : Nat) => (blk b2 31 [vi (if g < 2 then (0 : Int) else 10), vi 0, vi 0] :: blk b1 31 [vi (if l < 3 then (0 : Int) else 10), vi 0, vi 0] :: wdS p.1 (bC q) p.2 (ep3 q l g i) :: bS q :: H)) (fun k (i : Nat) => k + i = n) n 0 (by kernel_rfl) (by omega) ?_
 rintro k0 i hki
 refine Xq (Xq (Xg 5 (Xe [(0,.int .u8 lv), (1,.int .u8 pl), (2,.int .u8 sn), (7,.pointer (some ⟨p.1, 0, none⟩)), (8,vp b1), (10,vp b2), (12,vi ((i - 3 : Nat) : Int)), (13,vi i), (48,.bool (decide ((i : Int) < (IntKind.i64.wrap (Int.tmod sn 6)))))] ?_ 5)))
 rw [show IntKind.i64.wrap (Int.tmod sn 6) = (n : Int) by rw [w64 (by omega) (by omega)]; exact hn]
 refine Xc (decide ((i : Int) < (n : Int))) (fun h1 => ?_) (fun h1 => ?_)
 ·skip
  have hi : i < n := by have := of_decide_eq_true h1; omega
  refine Xk (Xq (Xb 1 (Xq (Xg 12 (Xr [(0,.int .u8 lv), (1,.int .u8 pl), (2,.int .u8 sn), (7,.pointer (some ⟨p.1, 0, none⟩)), (8,vp b1), (10,vp b2), (12,vi ((i - 3 : Nat) : Int)), (13,vi i), (52,.pointer (some ⟨p.1, 0, none⟩)), (54,vi (IntKind.i64.wrap (2 + (i : Int)))), (56,.agg #[vi 11, vi 3, vi i])] ?_ 7 5)))))
  by_cases h3 : i < 3
  ·skip
   have hr3 := hF.r3 i hi
   rw [if_pos h3] at hr3
   refine Xs (Xa (some 57) (fun _ => .tuple #[.agg #[vi 0, vi 0, vi 0], .bool true]) (chg_at 2 rfl (bAct _ p.1 q p.2 (ep3 q l g i) hE.up.up.up (bKC q H).up.up (4 + i) (ep3_B q l g i) (by omega) (IntKind.i64.wrap (2 + (i : Int))) 1 (by omega) 1 11 3 i hr3))) (fun _ => ?_) 6
   refine Xr [(0,.int .u8 lv), (1,.int .u8 pl), (2,.int .u8 sn), (7,.pointer (some ⟨p.1, 0, none⟩)), (8,vp b1), (10,vp b2), (12,vi ((i - 3 : Nat) : Int)), (13,vi i), (58,.agg #[vi 0, vi 0, vi 0]), (59,.bool true)] ?_ 3 3
   refine Xs (Xn 31 [vi 0, vi 0, vi 0] (some 14) (fun b => vp b)) (fun b3 => ?_) 2
   refine Xs (Xz [(0,vi 0), (1,vi 0), (2,vi 0)]) (fun _ => ?_) 1
   refine Xe [(14,vp b3), (0,.int .u8 lv), (1,.int .u8 pl), (2,.int .u8 sn), (7,.pointer (some ⟨p.1, 0, none⟩)), (8,vp b1), (10,vp b2), (12,vi ((i - 3 : Nat) : Int)), (13,vi i)] ?_ 1
   refine Xq (Xg 3 (Xm [(14,vp b3), (0,.int .u8 lv), (1,.int .u8 pl), (2,.int .u8 sn), (7,.pointer (some ⟨p.1, 0, none⟩)), (8,vp b1), (10,vp b2), (12,vi ((i - 3 : Nat) : Int)), (13,vi i), (62,.bool false)] [(⟨b3, 0, none⟩, vi 0)] (hasC (ba 0) has0) ?_ 3))
   refine Xc false (fun h => by cases h) (fun _ => ?_)
   refine Xq (Xg 3 (Xl [(0,.int .u8 lv), (1,.int .u8 pl), (2,.int .u8 sn), (7,.pointer (some ⟨p.1, 0, none⟩)), (8,vp b1), (10,vp b2), (12,vi ((i - 3 : Nat) : Int)), (13,vi i), (65,.agg #[vi 0, vi 0, vi 0]), (66,.agg #[vi 0, vi 0, vi 0])] [(⟨b3, 0, none⟩, vi 0), (⟨b3, 1, none⟩, vi 0), (⟨b3, 2, none⟩, vi 0)] (hasC (ba 0) (hasC (ba 0) (hasC (ba 0) has0))) ?_ 1 2))
   refine Xs (yldS (eqY1 31 31 (.tmp 65) (.tmp 66) [.int .i64 0, .int .i64 0, .int .i64 0] [.int .i64 0, .int .i64 0, .int .i64 0] true 67)) (fun _ => ?_) 0
   refine endR ?_
   refine Xc false (fun h => by cases h) (fun _ => ?_)
   refine Xk (Xg 3 (Xe [(0,.int .u8 lv), (1,.int .u8 pl), (2,.int .u8 sn), (7,.pointer (some ⟨p.1, 0, none⟩)), (8,vp b1), (10,vp b2), (12,vi ((i - 3 : Nat) : Int)), (13,vi (IntKind.i64.wrap ((i : Int) + 1)))] ?_ 3))
   rw [show IntKind.i64.wrap ((i : Int) + 1) = ((i : Int) + 1) by rw [w64 (by omega) (by omega)]]
   rw [show ((i - 3 : Nat) : Int) = ((i + 1 - 3 : Nat) : Int) by omega]
   refine PT.drop ?_
   refine Xp [(0,.int .u8 lv), (1,.int .u8 pl), (2,.int .u8 sn), (7,.pointer (some ⟨p.1, 0, none⟩)), (8,vp b1), (10,vp b2), (12,vi ((i + 1 - 3 : Nat) : Int)), (13,vi ((i : Int) + 1))] ?_
   exact againG (k0 - 1) (i + 1) rfl rfl (by omega) (by omega)
  ·skip
   have hr3 := hF.r3 i hi
   rw [if_neg h3] at hr3
   refine Xs (Xa (some 57) (fun _ => .tuple #[.agg #[vi 14, vi 0, vi 0], .bool true]) (chg_at 2 rfl (bAct _ p.1 q p.2 (ep3 q l g i) hE.up.up.up (bKC q H).up.up (4 + i) (ep3_B q l g i) (by omega) (IntKind.i64.wrap (2 + (i : Int))) 1 (by omega) 1 11 3 i hr3))) (fun _ => ?_) 6
   refine Xr [(0,.int .u8 lv), (1,.int .u8 pl), (2,.int .u8 sn), (7,.pointer (some ⟨p.1, 0, none⟩)), (8,vp b1), (10,vp b2), (12,vi ((i - 3 : Nat) : Int)), (13,vi i), (58,.agg #[vi 14, vi 0, vi 0]), (59,.bool true)] ?_ 3 3
   refine Xs (Xn 31 [vi 0, vi 0, vi 0] (some 14) (fun b => vp b)) (fun b3 => ?_) 2
   refine Xs (Xz [(0,vi 14), (1,vi 0), (2,vi 0)]) (fun _ => ?_) 1
   refine Xe [(14,vp b3), (0,.int .u8 lv), (1,.int .u8 pl), (2,.int .u8 sn), (7,.pointer (some ⟨p.1, 0, none⟩)), (8,vp b1), (10,vp b2), (12,vi ((i - 3 : Nat) : Int)), (13,vi i)] ?_ 1
   refine Xq (Xg 3 (Xm [(14,vp b3), (0,.int .u8 lv), (1,.int .u8 pl), (2,.int .u8 sn), (7,.pointer (some ⟨p.1, 0, none⟩)), (8,vp b1), (10,vp b2), (12,vi ((i - 3 : Nat) : Int)), (13,vi i), (62,.bool true)] [(⟨b3, 0, none⟩, vi 14)] (hasC (ba 0) has0) ?_ 3))
   refine Xc true (fun _ => ?_) (fun h => by cases h)
   refine Xg 3 (Xe [(0,.int .u8 lv), (1,.int .u8 pl), (2,.int .u8 sn), (7,.pointer (some ⟨p.1, 0, none⟩)), (8,vp b1), (10,vp b2), (12,vi (IntKind.i64.wrap (((i - 3 : Nat) : Int) + 1))), (13,vi i)] ?_ 3)
   refine Xg 3 (Xe [(0,.int .u8 lv), (1,.int .u8 pl), (2,.int .u8 sn), (7,.pointer (some ⟨p.1, 0, none⟩)), (8,vp b1), (10,vp b2), (12,vi (IntKind.i64.wrap (((i - 3 : Nat) : Int) + 1))), (13,vi (IntKind.i64.wrap ((i : Int) + 1)))] ?_ 3)
   rw [show IntKind.i64.wrap (((i - 3 : Nat) : Int) + 1) = (((i - 3 : Nat) : Int) + 1) by rw [w64 (by omega) (by omega)]]
   rw [show IntKind.i64.wrap ((i : Int) + 1) = ((i : Int) + 1) by rw [w64 (by omega) (by omega)]]
   rw [show (((i - 3 : Nat) : Int) + 1) = ((i + 1 - 3 : Nat) : Int) by omega]
   refine PT.drop ?_
   refine Xp [(0,.int .u8 lv), (1,.int .u8 pl), (2,.int .u8 sn), (7,.pointer (some ⟨p.1, 0, none⟩)), (8,vp b1), (10,vp b2), (12,vi ((i + 1 - 3 : Nat) : Int)), (13,vi ((i : Int) + 1))] ?_
   exact againG (k0 - 1) (i + 1) rfl rfl (by omega) (by omega)
 ·skip
  have hi : n = i := by have := of_decide_eq_false h1; omega
  subst hi
  refine Xx 0 (thenX (thenX (leaveR (Xq (Xq (Xg 21 (Xr [(0,.int .u8 lv), (1,.int .u8 pl), (2,.int .u8 sn), (7,.pointer (some ⟨p.1, 0, none⟩)), (8,vp b1), (10,vp b2), (12,vi ((n - 3 : Nat) : Int)), (68,.pointer (some ⟨p.1, 0, none⟩))] ?_ 20 1)))))))
  refine Xs (Xa (some 69) (fun _ => .pointer (some ⟨p.2.t, 0, none⟩)) (chg_at 2 rfl (wlatch_walk _ p.1 (bC q) p.2 (ep3 q l g n)))) (fun _ => ?_) 19
  refine Xs (Xa (some 70) (fun _ => vi 0) ((by have h := chg_at (H := (blk b2 31 [.int .i64 (if g < 2 then (0 : Int) else 10), .int .i64 0, .int .i64 0] :: blk b1 31 [.int .i64 (if l < 3 then (0 : Int) else 10), .int .i64 0, .int .i64 0] :: wdS p.1 (bC q) p.2 (ep3 q l g n) :: bS q :: H)) 2 rfl (wPlan_c _ p.1 (bC q) p.2 (ep3 q l g n)); rw [hF.p3] at h; exact h))) (fun _ => ?_) 18
  refine Xr [(0,.int .u8 lv), (1,.int .u8 pl), (2,.int .u8 sn), (7,.pointer (some ⟨p.1, 0, none⟩)), (8,vp b1), (10,vp b2), (12,vi ((n - 3 : Nat) : Int)), (72,.bool false), (73,.pointer (some ⟨p.1, 0, none⟩))] ?_ 15 3
  refine Xs (Xa (some 74) (fun _ => .pointer (some ⟨p.2.t, 0, none⟩)) (chg_at 2 rfl (wlatch_walk _ p.1 (bC q) p.2 (ep3 q l g n)))) (fun _ => ?_) 14
  refine Xs (Xa (some 75) (fun (r : Option Addr × Nat) => .slice r.1 4 r.2) ((by have h := new_at (H := (blk b2 31 [.int .i64 (if g < 2 then (0 : Int) else 10), .int .i64 0, .int .i64 0] :: blk b1 31 [.int .i64 (if l < 3 then (0 : Int) else 10), .int .i64 0, .int .i64 0] :: wdS p.1 (bC q) p.2 (ep3 q l g n) :: bS q :: H)) 2 rfl (wLevels_c _ p.1 (bC q) p.2 (ep3 q l g n)); rw [hF.l3] at h; exact h))) (fun (r : Option Addr × Nat) => ?_) 13
  refine Xs (Xn 3 [vi 0, vi 0, vi 0, vi 0] (some 76) (fun b => .slice (some ⟨b, 0, none⟩) 4 4)) (fun b3 => ?_) 12
  refine Xs (Xa (some 77) (fun _ => .bool true) (sameInts_walk _ ⟨r.1, r.2, [0, 0, 0, 0]⟩ ⟨some ⟨b3, 0, none⟩, 4, [0, 0, 0, 0]⟩ (rowKRat 1 rfl) (blkKR (T := 3) 0 rfl (by show 4 ≤ maxLen; decide)) (by show 4 < 1000000000; omega) (by show 4 < 1000000000; omega))) (fun _ => ?_) 11
  refine Xe [(0,.int .u8 lv), (1,.int .u8 pl), (7,.pointer (some ⟨p.1, 0, none⟩)), (8,vp b1), (10,vp b2), (88,.bool (((n - 3 : Nat) : Int) != (mxI 0 (IntKind.i64.wrap ((IntKind.i64.wrap (Int.tmod sn 6)) - 3)))))] ?_ 11
  rw [show (mxI 0 (IntKind.i64.wrap ((IntKind.i64.wrap (Int.tmod sn 6)) - 3))) = ((n - 3 : Nat) : Int) by exact hmx]
  rw [show (((n - 3 : Nat) : Int) != ((n - 3 : Nat) : Int)) = false from by simp]
  refine PT.drop ?_
  refine PT.drop ?_
  refine Xc false (fun h => by cases h) (fun _ => ?_)
  refine Xk (Xq (Xg 9 (Xr [(0,.int .u8 lv), (1,.int .u8 pl), (7,.pointer (some ⟨p.1, 0, none⟩)), (8,vp b1), (10,vp b2), (89,.pointer (some ⟨p.1, 0, none⟩))] ?_ 8 1)))
  refine Xs (Xa (some 90) (fun (r6 : Option Addr × Nat) => .slice r6.1 (sdAt (ep3 q l g n) 1).r.l.length r6.2) (new_at (H := (blk b2 31 [.int .i64 (if g < 2 then (0 : Int) else 10), .int .i64 0, .int .i64 0] :: blk b1 31 [.int .i64 (if l < 3 then (0 : Int) else 10), .int .i64 0, .int .i64 0] :: wdS p.1 (bC q) p.2 (ep3 q l g n) :: bS q :: H)) 2 rfl (wRecords_c _ p.1 (bC q) p.2 (ep3 q l g n) 1 (by show 1 < 4; omega)))) (fun (r6 : Option Addr × Nat) => ?_) 7
  refine Xr [(0,.int .u8 lv), (1,.int .u8 pl), (7,.pointer (some ⟨p.1, 0, none⟩)), (8,vp b1), (10,vp b2), (91,vi ((sdAt (ep3 q l g n) 1).r.l.length : Int)), (92,.pointer (some ⟨p.1, 0, none⟩))] ?_ 5 2
  refine Xs (Xa (some 93) (fun _ => .pointer (some ⟨p1.k, 0, none⟩)) (same_at 3 rfl (wKernel_c _ p.1 (bC q) p.2 (ep3 q l g n) 1 p1 hp1))) (fun _ => ?_) 4
  refine Xs (Xa (some 94) (fun (r7 : Option Addr × Nat) => .slice r7.1 (nodesN (kOf (ep3 q l g n) 1).N).length r7.2) (new_at (H := (row reE 48 (.slice r6.1 (sdAt (ep3 q l g n) 1).r.l.length r6.2) (sdAt (ep3 q l g n) 1).r.l :: blk b2 31 [.int .i64 (if g < 2 then (0 : Int) else 10), .int .i64 0, .int .i64 0] :: blk b1 31 [.int .i64 (if l < 3 then (0 : Int) else 10), .int .i64 0, .int .i64 0] :: wdS p.1 (bC q) p.2 (ep3 q l g n) :: bS q :: H)) 3 rfl (wkNodes _ p.1 (bC q) p.2 (ep3 q l g n) 1 p1 hp1 (by rw [ep3_len]; omega) (by have := hF.nx3; omega)))) (fun (r7 : Option Addr × Nat) => ?_) 3
  refine Xe [(0,.int .u8 lv), (1,.int .u8 pl), (7,.pointer (some ⟨p.1, 0, none⟩)), (8,vp b1), (10,vp b2), (16,vi ((sdAt (ep3 q l g n) 1).r.l.length : Int)), (17,vi ((nodesN (kOf (ep3 q l g n) 1).N).length : Int))] ?_ 3
  refine Xq (Xg 2 (Xr [(0,.int .u8 lv), (1,.int .u8 pl), (7,.pointer (some ⟨p.1, 0, none⟩)), (8,vp b1), (10,vp b2), (16,vi ((sdAt (ep3 q l g n) 1).r.l.length : Int)), (17,vi ((nodesN (kOf (ep3 q l g n) 1).N).length : Int)), (96,.pointer (some ⟨p.1, 0, none⟩))] ?_ 1 1))
  refine Xs (Xa (some 97) (fun _ => .tuple #[]) (chg_at 4 rfl (wEpoch_c _ p.1 (bC q) p.2 (ep3 q l g n)))) (fun _ => ?_) 0
  refine endR ?_
  refine Xq (Xg 2 (Xe [(0,.int .u8 lv), (1,.int .u8 pl), (7,.pointer (some ⟨p.1, 0, none⟩)), (8,vp b1), (10,vp b2), (16,vi ((sdAt (ep3 q l g n) 1).r.l.length : Int)), (17,vi ((nodesN (kOf (ep3 q l g n) 1).N).length : Int)), (18,vi 0), (19,vi 0)] ?_ 2))
  refine Xq (Xj0 (fun (x : {v : Int // v = epL l}) => [(0,.int .u8 lv), (1,.int .u8 pl), (7,.pointer (some ⟨p.1, 0, none⟩)), (8,vp b1), (10,vp b2), (16,vi ((sdAt (ep3 q l g n) 1).r.l.length : Int)), (17,vi ((nodesN (kOf (ep3 q l g n) 1).N).length : Int)), (18,vi x.1), (19,vi 0)]) ?_ (fun x => ?_))
  ·skip
   refine Xq (Xg 3 (Xe [(0,.int .u8 lv), (1,.int .u8 pl), (7,.pointer (some ⟨p.1, 0, none⟩)), (8,vp b1), (10,vp b2), (16,vi ((sdAt (ep3 q l g n) 1).r.l.length : Int)), (17,vi ((nodesN (kOf (ep3 q l g n) 1).N).length : Int)), (18,vi 0), (19,vi 0), (100,.bool (decide ((Int.tmod lv 5) < 3)))] ?_ 3))
   rw [show Int.tmod lv 5 = (l : Int) by exact hl]
   by_cases h9 : l < 3
   ·skip
    rw [show (decide ((l : Int) < 3)) = true from by simp; omega]
    refine Xc true (fun _ => ?_) (fun h => by cases h)
    refine Xg 4 (Xe [(0,.int .u8 lv), (1,.int .u8 pl), (7,.pointer (some ⟨p.1, 0, none⟩)), (8,vp b1), (10,vp b2), (16,vi ((sdAt (ep3 q l g n) 1).r.l.length : Int)), (17,vi ((nodesN (kOf (ep3 q l g n) 1).N).length : Int)), (18,vi (IntKind.i64.wrap (Int.tmod lv 5))), (19,vi 0)] ?_ 4)
    rw [show IntKind.i64.wrap (Int.tmod lv 5) = (l : Int) by rw [w64 (by omega) (by omega)]; exact hl]
    refine Xp [(0,.int .u8 lv), (1,.int .u8 pl), (7,.pointer (some ⟨p.1, 0, none⟩)), (8,vp b1), (10,vp b2), (16,vi ((sdAt (ep3 q l g n) 1).r.l.length : Int)), (17,vi ((nodesN (kOf (ep3 q l g n) 1).N).length : Int)), (18,vi l), (19,vi 0)] ?_
    exact midR (⟨(l : Int), (if_pos h9).symm⟩) rfl rfl
   ·skip
    rw [show (decide ((l : Int) < 3)) = false from by simp; omega]
    refine Xc false (fun h => by cases h) (fun _ => ?_)
    refine Xk (Xp [(0,.int .u8 lv), (1,.int .u8 pl), (7,.pointer (some ⟨p.1, 0, none⟩)), (8,vp b1), (10,vp b2), (16,vi ((sdAt (ep3 q l g n) 1).r.l.length : Int)), (17,vi ((nodesN (kOf (ep3 q l g n) 1).N).length : Int)), (18,vi 0), (19,vi 0)] ?_)
    exact midR (⟨0, (if_neg h9).symm⟩) rfl rfl
  obtain ⟨v, rfl⟩ := x
  dsimp only
  refine Xq (Xj0 (fun (x : {v : Int // v = epG g}) => [(0,.int .u8 lv), (1,.int .u8 pl), (7,.pointer (some ⟨p.1, 0, none⟩)), (8,vp b1), (10,vp b2), (16,vi ((sdAt (ep3 q l g n) 1).r.l.length : Int)), (17,vi ((nodesN (kOf (ep3 q l g n) 1).N).length : Int)), (18,vi (epL l)), (19,vi x.1)]) ?_ (fun x => ?_))
  ·skip
   refine Xq (Xg 3 (Xe [(0,.int .u8 lv), (1,.int .u8 pl), (7,.pointer (some ⟨p.1, 0, none⟩)), (8,vp b1), (10,vp b2), (16,vi ((sdAt (ep3 q l g n) 1).r.l.length : Int)), (17,vi ((nodesN (kOf (ep3 q l g n) 1).N).length : Int)), (18,vi (epL l)), (19,vi 0), (106,.bool (decide ((Int.tmod pl 4) < 2)))] ?_ 3))
   rw [show Int.tmod pl 4 = (g : Int) by exact hg]
   by_cases h9 : g < 2
   ·skip
    rw [show (decide ((g : Int) < 2)) = true from by simp; omega]
    refine Xc true (fun _ => ?_) (fun h => by cases h)
    refine Xg 4 (Xe [(0,.int .u8 lv), (1,.int .u8 pl), (7,.pointer (some ⟨p.1, 0, none⟩)), (8,vp b1), (10,vp b2), (16,vi ((sdAt (ep3 q l g n) 1).r.l.length : Int)), (17,vi ((nodesN (kOf (ep3 q l g n) 1).N).length : Int)), (18,vi (epL l)), (19,vi (IntKind.i64.wrap (Int.tmod pl 4)))] ?_ 4)
    rw [show IntKind.i64.wrap (Int.tmod pl 4) = (g : Int) by rw [w64 (by omega) (by omega)]; exact hg]
    refine Xp [(0,.int .u8 lv), (1,.int .u8 pl), (7,.pointer (some ⟨p.1, 0, none⟩)), (8,vp b1), (10,vp b2), (16,vi ((sdAt (ep3 q l g n) 1).r.l.length : Int)), (17,vi ((nodesN (kOf (ep3 q l g n) 1).N).length : Int)), (18,vi (epL l)), (19,vi g)] ?_
    exact midR (⟨(g : Int), (if_pos h9).symm⟩) rfl rfl
   ·skip
    rw [show (decide ((g : Int) < 2)) = false from by simp; omega]
    refine Xc false (fun h => by cases h) (fun _ => ?_)
    refine Xk (Xp [(0,.int .u8 lv), (1,.int .u8 pl), (7,.pointer (some ⟨p.1, 0, none⟩)), (8,vp b1), (10,vp b2), (16,vi ((sdAt (ep3 q l g n) 1).r.l.length : Int)), (17,vi ((nodesN (kOf (ep3 q l g n) 1).N).length : Int)), (18,vi (epL l)), (19,vi 0)] ?_)
    exact midR (⟨0, (if_neg h9).symm⟩) rfl rfl
  obtain ⟨v, rfl⟩ := x
  dsimp only
  refine Xq (Xg 9 (Xr [(0,.int .u8 lv), (1,.int .u8 pl), (7,.pointer (some ⟨p.1, 0, none⟩)), (8,vp b1), (10,vp b2), (16,vi ((sdAt (ep3 q l g n) 1).r.l.length : Int)), (17,vi ((nodesN (kOf (ep3 q l g n) 1).N).length : Int)), (18,vi (epL l)), (19,vi (epG g)), (111,.pointer (some ⟨p.1, 0, none⟩)), (112,.agg #[vi 11, vi 3, vi 9])] ?_ 7 2))
  refine Xs (Xa (some 113) (fun _ => .tuple #[.agg #[vi 0, vi 0, vi 0], .bool true]) (chg_at 4 rfl (bAct _ p.1 q p.2 (ep4 q l g n) (by repeat' first | exact hE | apply EK.up) (by repeat' first | exact bKC q _ | apply KC.up) (4 + n) (wEpoch_B (ep3_B q l g n)) (by omega) 20 1 (by omega) 1 11 3 9 hF.r4))) (fun _ => ?_) 6
  refine Xr [(0,.int .u8 lv), (1,.int .u8 pl), (7,.pointer (some ⟨p.1, 0, none⟩)), (8,vp b1), (10,vp b2), (16,vi ((sdAt (ep3 q l g n) 1).r.l.length : Int)), (17,vi ((nodesN (kOf (ep3 q l g n) 1).N).length : Int)), (18,vi (epL l)), (19,vi (epG g)), (114,.agg #[vi 0, vi 0, vi 0]), (115,.bool true)] ?_ 3 3
  refine Xs (Xn 31 [vi 0, vi 0, vi 0] (some 20) (fun b => vp b)) (fun b4 => ?_) 2
  refine Xs (Xz [(0,vi 0), (1,vi 0), (2,vi 0)]) (fun _ => ?_) 1
  refine Xe [(20,vp b4), (0,.int .u8 lv), (1,.int .u8 pl), (7,.pointer (some ⟨p.1, 0, none⟩)), (8,vp b1), (10,vp b2), (16,vi ((sdAt (ep3 q l g n) 1).r.l.length : Int)), (17,vi ((nodesN (kOf (ep3 q l g n) 1).N).length : Int)), (18,vi (epL l)), (19,vi (epG g))] ?_ 1
  refine Xq (Xg 54 (Xl [(20,vp b4), (1,.int .u8 pl), (7,.pointer (some ⟨p.1, 0, none⟩)), (10,vp b2), (16,vi ((sdAt (ep3 q l g n) 1).r.l.length : Int)), (17,vi ((nodesN (kOf (ep3 q l g n) 1).N).length : Int)), (18,vi (epL l)), (19,vi (epG g)), (123,.bool (((if l < 3 then (0 : Int) else 10) == 0) == (decide ((Int.tmod lv 5) < 3))))] [(⟨b1, 0, none⟩, vi (if l < 3 then (0 : Int) else 10))] (hasC (ba 4) has0) ?_ 46 8))
  refine (Xs0 38 8 [(20,vp b4), (7,.pointer (some ⟨p.1, 0, none⟩)), (16,vi ((sdAt (ep3 q l g n) 1).r.l.length : Int)), (17,vi ((nodesN (kOf (ep3 q l g n) 1).N).length : Int)), (18,vi (epL l)), (19,vi (epG g)), (131,.bool ((((if l < 3 then (0 : Int) else 10) == 0) == (decide ((Int.tmod lv 5) < 3))) && (((if g < 2 then (0 : Int) else 10) == 0) == (decide ((Int.tmod pl 4) < 2)))))] ?_ ?_ : RT _ _ _ _ _ _ 46 _)
  ·cases hg8 : (((if l < 3 then (0 : Int) else 10) == 0) == (decide ((Int.tmod lv 5) < 3))) with
   | true =>
    refine Xm [(20,vp b4), (7,.pointer (some ⟨p.1, 0, none⟩)), (16,vi ((sdAt (ep3 q l g n) 1).r.l.length : Int)), (17,vi ((nodesN (kOf (ep3 q l g n) 1).N).length : Int)), (18,vi (epL l)), (19,vi (epG g)), (131,.bool (((if g < 2 then (0 : Int) else 10) == 0) == (decide ((Int.tmod pl 4) < 2))))] [(⟨b2, 0, none⟩, vi (if g < 2 then (0 : Int) else 10))] (hasC (ba 3) has0) ?_ 8
    refine Xp [(20,vp b4), (7,.pointer (some ⟨p.1, 0, none⟩)), (16,vi ((sdAt (ep3 q l g n) 1).r.l.length : Int)), (17,vi ((nodesN (kOf (ep3 q l g n) 1).N).length : Int)), (18,vi (epL l)), (19,vi (epG g)), (131,.bool (true && (((if g < 2 then (0 : Int) else 10) == 0) == (decide ((Int.tmod pl 4) < 2)))))] ?_
    exact midR () rfl rfl
   | false =>
    refine Xe [(20,vp b4), (7,.pointer (some ⟨p.1, 0, none⟩)), (16,vi ((sdAt (ep3 q l g n) 1).r.l.length : Int)), (17,vi ((nodesN (kOf (ep3 q l g n) 1).N).length : Int)), (18,vi (epL l)), (19,vi (epG g)), (131,.bool false)] ?_ 8
    refine Xp [(20,vp b4), (7,.pointer (some ⟨p.1, 0, none⟩)), (16,vi ((sdAt (ep3 q l g n) 1).r.l.length : Int)), (17,vi ((nodesN (kOf (ep3 q l g n) 1).N).length : Int)), (18,vi (epL l)), (19,vi (epG g)), (131,.bool (false && (((if g < 2 then (0 : Int) else 10) == 0) == (decide ((Int.tmod pl 4) < 2)))))] ?_
    exact midR () rfl rfl
  refine Xr [(20,vp b4), (7,.pointer (some ⟨p.1, 0, none⟩)), (16,vi ((sdAt (ep3 q l g n) 1).r.l.length : Int)), (17,vi ((nodesN (kOf (ep3 q l g n) 1).N).length : Int)), (18,vi (epL l)), (19,vi (epG g)), (132,.bool ((((if l < 3 then (0 : Int) else 10) == 0) == (decide ((Int.tmod lv 5) < 3))) && (((if g < 2 then (0 : Int) else 10) == 0) == (decide ((Int.tmod pl 4) < 2)))))] ?_ 37 1
  rw [show ((((if l < 3 then (0 : Int) else 10) == 0) == (decide ((Int.tmod lv 5) < 3))) && (((if g < 2 then (0 : Int) else 10) == 0) == (decide ((Int.tmod pl 4) < 2)))) = true from hcd]
  refine Xr [(20,vp b4), (7,.pointer (some ⟨p.1, 0, none⟩)), (16,vi ((sdAt (ep3 q l g n) 1).r.l.length : Int)), (17,vi ((nodesN (kOf (ep3 q l g n) 1).N).length : Int)), (18,vi (epL l)), (19,vi (epG g)), (132,.bool true), (133,.pointer (some ⟨p.1, 0, none⟩))] ?_ 36 1
  refine Xs (Xa (some 134) (fun _ => .pointer (some ⟨p.2.t, 0, none⟩)) (same_at 5 rfl (wlatch_walk _ p.1 (bC q) p.2 (ep5 q l g n)))) (fun _ => ?_) 35
  refine Xs (Xa (some 135) (fun _ => vi (epG g)) ((by have h := same_at (H := (blk b4 31 [.int .i64 0, .int .i64 0, .int .i64 0] :: row nE 147 (.slice r7.1 (nodesN (kOf (ep3 q l g n) 1).N).length r7.2) (nodesN (kOf (ep3 q l g n) 1).N) :: row reE 48 (.slice r6.1 (sdAt (ep3 q l g n) 1).r.l.length r6.2) (sdAt (ep3 q l g n) 1).r.l :: blk b2 31 [.int .i64 (if g < 2 then (0 : Int) else 10), .int .i64 0, .int .i64 0] :: blk b1 31 [.int .i64 (if l < 3 then (0 : Int) else 10), .int .i64 0, .int .i64 0] :: wdS p.1 (bC q) p.2 (ep5 q l g n) :: bS q :: H)) 5 rfl (wPlan_c _ p.1 (bC q) p.2 (ep5 q l g n)); rw [hF.p5] at h; exact h))) (fun _ => ?_) 34
  refine Xr [(20,vp b4), (7,.pointer (some ⟨p.1, 0, none⟩)), (16,vi ((sdAt (ep3 q l g n) 1).r.l.length : Int)), (17,vi ((nodesN (kOf (ep3 q l g n) 1).N).length : Int)), (18,vi (epL l)), (139,.bool ((epG g) == (epG g)))] ?_ 30 4
  rw [show ((epG g) == (epG g)) = true from by simp]
  refine Xr [(20,vp b4), (7,.pointer (some ⟨p.1, 0, none⟩)), (16,vi ((sdAt (ep3 q l g n) 1).r.l.length : Int)), (17,vi ((nodesN (kOf (ep3 q l g n) 1).N).length : Int)), (18,vi (epL l)), (139,.bool true), (140,.pointer (some ⟨p.1, 0, none⟩))] ?_ 29 1
  refine Xs (Xa (some 141) (fun _ => .pointer (some ⟨p.2.t, 0, none⟩)) (same_at 5 rfl (wlatch_walk _ p.1 (bC q) p.2 (ep5 q l g n)))) (fun _ => ?_) 28
  refine Xs (Xa (some 142) (fun (r8 : Option Addr × Nat) => .slice r8.1 4 r8.2) ((by have h := new_at (H := (blk b4 31 [.int .i64 0, .int .i64 0, .int .i64 0] :: row nE 147 (.slice r7.1 (nodesN (kOf (ep3 q l g n) 1).N).length r7.2) (nodesN (kOf (ep3 q l g n) 1).N) :: row reE 48 (.slice r6.1 (sdAt (ep3 q l g n) 1).r.l.length r6.2) (sdAt (ep3 q l g n) 1).r.l :: blk b2 31 [.int .i64 (if g < 2 then (0 : Int) else 10), .int .i64 0, .int .i64 0] :: blk b1 31 [.int .i64 (if l < 3 then (0 : Int) else 10), .int .i64 0, .int .i64 0] :: wdS p.1 (bC q) p.2 (ep5 q l g n) :: bS q :: H)) 5 rfl (wLevels_c _ p.1 (bC q) p.2 (ep5 q l g n)); rw [hF.l5] at h; exact h))) (fun (r8 : Option Addr × Nat) => ?_) 27
  refine Xr [(142,.slice r8.1 4 r8.2), (20,vp b4), (7,.pointer (some ⟨p.1, 0, none⟩)), (16,vi ((sdAt (ep3 q l g n) 1).r.l.length : Int)), (17,vi ((nodesN (kOf (ep3 q l g n) 1).N).length : Int)), (139,.bool true), (143,vi (epL l))] ?_ 26 1
  refine Xs (Xn 3 [vi 0, vi 0, vi 0, vi (epL l)] (some 144) (fun b => .slice (some ⟨b, 0, none⟩) 4 4)) (fun b5 => ?_) 25
  refine Xs (Xa (some 145) (fun _ => .bool (decide ([0, 0, 0, epL l] = [0, 0, 0, epL l]))) (sameInts_walk _ ⟨r8.1, r8.2, [0, 0, 0, epL l]⟩ ⟨some ⟨b5, 0, none⟩, 4, [0, 0, 0, epL l]⟩ (rowKRat 1 rfl) (blkKR (T := 3) 0 rfl (by show 4 ≤ maxLen; decide)) (by show 4 < 1000000000; omega) (by show 4 < 1000000000; omega))) (fun _ => ?_) 24
  refine Xr [(20,vp b4), (7,.pointer (some ⟨p.1, 0, none⟩)), (16,vi ((sdAt (ep3 q l g n) 1).r.l.length : Int)), (17,vi ((nodesN (kOf (ep3 q l g n) 1).N).length : Int)), (147,.bool (decide ([0, 0, 0, epL l] = [0, 0, 0, epL l])))] ?_ 22 2
  refine (Xs0 18 4 [(7,.pointer (some ⟨p.1, 0, none⟩)), (16,vi ((sdAt (ep3 q l g n) 1).r.l.length : Int)), (17,vi ((nodesN (kOf (ep3 q l g n) 1).N).length : Int)), (151,.bool ((decide ([0, 0, 0, epL l] = [0, 0, 0, epL l])) && true))] ?_ ?_ : RT _ _ _ _ _ _ 22 _)
  ·cases hg32 : (decide ([0, 0, 0, epL l] = [0, 0, 0, epL l])) with
   | true =>
    refine Xl [(7,.pointer (some ⟨p.1, 0, none⟩)), (16,vi ((sdAt (ep3 q l g n) 1).r.l.length : Int)), (17,vi ((nodesN (kOf (ep3 q l g n) 1).N).length : Int)), (147,.bool true), (148,.agg #[vi 0, vi 0, vi 0]), (149,.agg #[vi 0, vi 0, vi 0])] [(⟨b4, 0, none⟩, vi 0), (⟨b4, 1, none⟩, vi 0), (⟨b4, 2, none⟩, vi 0)] (hasC (ba 2) (hasC (ba 2) (hasC (ba 2) has0))) ?_ 2 2
    refine Xs (yldS (eqY0 31 31 (.tmp 148) (.tmp 149) [.int .i64 0, .int .i64 0, .int .i64 0] [.int .i64 0, .int .i64 0, .int .i64 0] true 150)) (fun _ => ?_) 1
    refine Xe [(7,.pointer (some ⟨p.1, 0, none⟩)), (16,vi ((sdAt (ep3 q l g n) 1).r.l.length : Int)), (17,vi ((nodesN (kOf (ep3 q l g n) 1).N).length : Int)), (151,.bool true)] ?_ 1
    refine Xp [(7,.pointer (some ⟨p.1, 0, none⟩)), (16,vi ((sdAt (ep3 q l g n) 1).r.l.length : Int)), (17,vi ((nodesN (kOf (ep3 q l g n) 1).N).length : Int)), (151,.bool (true && true))] ?_
    exact midR () rfl rfl
   | false =>
    refine Xe [(7,.pointer (some ⟨p.1, 0, none⟩)), (16,vi ((sdAt (ep3 q l g n) 1).r.l.length : Int)), (17,vi ((nodesN (kOf (ep3 q l g n) 1).N).length : Int)), (151,.bool false)] ?_ 4
    refine Xp [(7,.pointer (some ⟨p.1, 0, none⟩)), (16,vi ((sdAt (ep3 q l g n) 1).r.l.length : Int)), (17,vi ((nodesN (kOf (ep3 q l g n) 1).N).length : Int)), (151,.bool (false && true))] ?_
    exact midR () rfl rfl
  refine Xr [(7,.pointer (some ⟨p.1, 0, none⟩)), (16,vi ((sdAt (ep3 q l g n) 1).r.l.length : Int)), (17,vi ((nodesN (kOf (ep3 q l g n) 1).N).length : Int)), (152,.bool ((decide ([0, 0, 0, epL l] = [0, 0, 0, epL l])) && true))] ?_ 17 1
  rw [show ((decide ([0, 0, 0, epL l] = [0, 0, 0, epL l])) && true) = true from by simp]
  refine Xr [(7,.pointer (some ⟨p.1, 0, none⟩)), (16,vi ((sdAt (ep3 q l g n) 1).r.l.length : Int)), (17,vi ((nodesN (kOf (ep3 q l g n) 1).N).length : Int)), (152,.bool true), (153,.pointer (some ⟨p.1, 0, none⟩))] ?_ 16 1
  refine Xs (Xa (some 154) (fun _ => .pointer (some ⟨p1.k, 0, none⟩)) (same_at 7 rfl (wKernel_c _ p.1 (bC q) p.2 (ep5 q l g n) 1 p1 hp1))) (fun _ => ?_) 15
  refine Xs (Xa (some 155) (fun (r9 : Option Addr × Nat) => .slice r9.1 (nodesN (kOf (ep3 q l g n) 1).N).length r9.2) ((by have h := new_at (H := (blk b5 3 [.int .i64 0, .int .i64 0, .int .i64 0, .int .i64 (epL l)] :: row (kE .i64) 3 (.slice r8.1 4 r8.2) [0, 0, 0, epL l] :: blk b4 31 [.int .i64 0, .int .i64 0, .int .i64 0] :: row nE 147 (.slice r7.1 (nodesN (kOf (ep3 q l g n) 1).N).length r7.2) (nodesN (kOf (ep3 q l g n) 1).N) :: row reE 48 (.slice r6.1 (sdAt (ep3 q l g n) 1).r.l.length r6.2) (sdAt (ep3 q l g n) 1).r.l :: blk b2 31 [.int .i64 (if g < 2 then (0 : Int) else 10), .int .i64 0, .int .i64 0] :: blk b1 31 [.int .i64 (if l < 3 then (0 : Int) else 10), .int .i64 0, .int .i64 0] :: wdS p.1 (bC q) p.2 (ep5 q l g n) :: bS q :: H)) 7 rfl (wkNodes _ p.1 (bC q) p.2 (ep5 q l g n) 1 p1 hp1 (by rw [ep5_len]; omega) (by have := hF.nx5; omega)); rw [show (nodesN (kOf (ep5 q l g n) 1).N).length = (nodesN (kOf (ep3 q l g n) 1).N).length by rw [nodesN_len, nodesN_len, hF.k]] at h; exact h))) (fun (r9 : Option Addr × Nat) => ?_) 14
  refine Xr [(7,.pointer (some ⟨p.1, 0, none⟩)), (16,vi ((sdAt (ep3 q l g n) 1).r.l.length : Int)), (160,.bool (((nodesN (kOf (ep3 q l g n) 1).N).length : Int) == ((nodesN (kOf (ep3 q l g n) 1).N).length : Int)))] ?_ 9 5
  rw [show (((nodesN (kOf (ep3 q l g n) 1).N).length : Int) == ((nodesN (kOf (ep3 q l g n) 1).N).length : Int)) = true from by simp]
  refine Xr [(16,vi ((sdAt (ep3 q l g n) 1).r.l.length : Int)), (160,.bool true), (161,.pointer (some ⟨p.1, 0, none⟩))] ?_ 8 1
  obtain ⟨c5, hc5⟩ : ∃ c, min 4 ((sdAt (ep3 q l g n) 1).r.l.length + 1) = c := ⟨_, rfl⟩
  refine Xs (Xa (some 162) (fun (r10 : Option Addr × Nat) => .slice r10.1 c5 r10.2) ((by have h := new_at (H := (row nE 147 (.slice r9.1 (nodesN (kOf (ep3 q l g n) 1).N).length r9.2) (nodesN (kOf (ep5 q l g n) 1).N) :: blk b5 3 [.int .i64 0, .int .i64 0, .int .i64 0, .int .i64 (epL l)] :: row (kE .i64) 3 (.slice r8.1 4 r8.2) [0, 0, 0, epL l] :: blk b4 31 [.int .i64 0, .int .i64 0, .int .i64 0] :: row nE 147 (.slice r7.1 (nodesN (kOf (ep3 q l g n) 1).N).length r7.2) (nodesN (kOf (ep3 q l g n) 1).N) :: row reE 48 (.slice r6.1 (sdAt (ep3 q l g n) 1).r.l.length r6.2) (sdAt (ep3 q l g n) 1).r.l :: blk b2 31 [.int .i64 (if g < 2 then (0 : Int) else 10), .int .i64 0, .int .i64 0] :: blk b1 31 [.int .i64 (if l < 3 then (0 : Int) else 10), .int .i64 0, .int .i64 0] :: wdS p.1 (bC q) p.2 (ep5 q l g n) :: bS q :: H)) 8 rfl (wRecords_c _ p.1 (bC q) p.2 (ep5 q l g n) 1 (by show 1 < 4; omega)); rw [hF.r, hc5] at h; exact h))) (fun (r10 : Option Addr × Nat) => ?_) 7
  refine Xe [(6,.bool ((c5 : Int) == (mnI 4 (IntKind.i64.wrap (((sdAt (ep3 q l g n) 1).r.l.length : Int) + 1)))))] ?_ 7
  refine Xv ?_
  have hr5 : ((c5 : Int) == mnI 4 (IntKind.i64.wrap (((sdAt (ep3 q l g n) 1).r.l.length : Int) + 1))) = true := by
   have := hF.rl
   rw [w64 (by omega) (by omega)]; unfold mnI; split <;> simp <;> omega
  refine Y0 (.bool ((c5 : Int) == (mnI 4 (IntKind.i64.wrap (((sdAt (ep3 q l g n) 1).r.l.length : Int) + 1))))) (fun w hs => ?_)
  exact ⟨(), by rw [hr5], Sat.right (R := [_, _, _, _, _, _, _, _, _, _, _]) hs⟩
theorem epochs_row (W : World) (hE : W.cell? ⟨0, 0, none⟩ = some errT) (a b c : Int) (ha : (Lit.int .u8 a).wf = true) (hb : (Lit.int .u8 b).wf = true) (hc : (Lit.int .u8 c).wf = true) : Calls Tryz.prog 8 #[.int .u8 a, .int .u8 b, .int .u8 c] W (LawPost W) :=
 lawPost (fun _ _ h => h) (epochs21 [old W] (EK.old 0 rfl hE) a b c (u8_wf ha) (u8_wf hb) (u8_wf hc) W (Sat.start W))
end Go.Proofs.YtfhkgohokbkgiaaGreatDoor
