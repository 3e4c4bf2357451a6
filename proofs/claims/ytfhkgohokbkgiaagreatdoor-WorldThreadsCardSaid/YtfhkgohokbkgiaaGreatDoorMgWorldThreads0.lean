/- Texts put together: A world's kernels: contracts. WorldThreads: its walk. Conditions: none. -/
import Derived.Test.YtfhkgohokbkgiaaGreatDoorMgWb6
set_option linter.unusedVariables false
set_option linter.unusedSimpArgs false
namespace Go.Proofs.YtfhkgohokbkgiaaGreatDoor
open Go.RowKit G
def kUp (z : WS) (d : Nat) (k : KS) : WS := wUp z d { sdAt z d with k := k }
def kOf (z : WS) (d : Nat) : KS := (sdAt z d).k
theorem sd_at {z : WS} {d : Nat} (h : d < z.s.length) : z.s[d]? = some (sdAt z d) := by
 rw [sdAt, List.getD_eq_getElem?_getD, List.getElem?_eq_getElem h]; rfl
theorem kUp_self {z : WS} {d : Nat} (h : d < z.s.length) : kUp z d (kOf z d) = z := wUp_self (x := sdAt z d) (sd_at h)
section
variable (H : List SP) (wb : Nat) (c : ConfV) (P : WP) (z : WS) (d : Nat) (p : SdP) (hp : P.s[d]? = some p) (hd : d < z.s.length)
include hp hd
theorem wkRunnable : ∀ v, Sat v (wdS wb c P z :: H) → Calls Tryz.prog 27 #[.pointer (some ⟨p.k, 0, none⟩)] v (Ret (ι := Unit) (fun _ => .bool (krunnable (kOf z d))) fun _ => wdS wb c P z :: H) := fun v hs => by
 have h := wdKer (wb := wb) (c := c) (X := fun _ : Unit => []) (k' := fun _ => kOf z d) hp (sd_at hd) (fun H => krRunnable H p.k (kOf z d)) H v hs
 rwa [show wUp z d { sdAt z d with k := kOf z d } = z from kUp_self hd] at h
theorem wkWake (t : Int) : ∀ v, Sat v (wdS wb c P z :: H) → Calls Tryz.prog 28 #[.pointer (some ⟨p.k, 0, none⟩), vi t] v (Ret (ι := Option Addr × Nat) (fun x => .slice x.1 (kwake (kOf z d) t).1.length x.2) fun x => row (kE .i64) 3 (.slice x.1 (kwake (kOf z d) t).1.length x.2) (kwake (kOf z d) t).1 :: wdS wb c P (kUp z d (kwake (kOf z d) t).2) :: H) :=
 wdKer (wb := wb) (c := c) (X := fun x : Option Addr × Nat => [row (kE .i64) 3 (.slice x.1 (kwake (kOf z d) t).1.length x.2) (kwake (kOf z d) t).1]) (k' := fun _ => (kwake (kOf z d) t).2) hp (sd_at hd) (fun H => krWake H p.k (kOf z d) t) H
theorem wkRun : ∀ v, Sat v (wdS wb c P z :: H) → Calls Tryz.prog 33 #[.pointer (some ⟨p.k, 0, none⟩)] v (Ret (ι := Unit) (fun _ => .tuple #[vi (krun (kOf z d)).1.1, .bool (krun (kOf z d)).1.2]) fun _ => wdS wb c P (kUp z d (krun (kOf z d)).2) :: H) :=
 wdKer (wb := wb) (c := c) (X := fun _ : Unit => []) (k' := fun _ => (krun (kOf z d)).2) hp (sd_at hd) (fun H => krRun H p.k (kOf z d)) H
theorem wkSignal (j : Int) : ∀ v, Sat v (wdS wb c P z :: H) → Calls Tryz.prog 133 #[.pointer (some ⟨p.k, 0, none⟩), vi j] v (Ret (ι := Unit) (fun _ => pqErr (ksignal (kOf z d) j).1) fun _ => wdS wb c P (kUp z d (ksignal (kOf z d) j).2) :: H) :=
 wdKer (wb := wb) (c := c) (X := fun _ : Unit => []) (k' := fun _ => (ksignal (kOf z d) j).2) hp (sd_at hd) (fun H => krSignal H p.k (kOf z d) j) H
theorem wkNodes (hid : (kOf z d).nx ≤ 1099511627776) : ∀ v, Sat v (wdS wb c P z :: H) → Calls Tryz.prog 26 #[.pointer (some ⟨p.k, 0, none⟩)] v (Ret (ι := Option Addr × Nat) (fun x => .slice x.1 (nodesN (kOf z d).N).length x.2) fun x => row nE 147 (.slice x.1 (nodesN (kOf z d).N).length x.2) (nodesN (kOf z d).N) :: wdS wb c P z :: H) := fun v hs => by
 have h := wdKer (wb := wb) (c := c) (X := fun x : Option Addr × Nat => [row nE 147 (.slice x.1 (nodesN (kOf z d).N).length x.2) (nodesN (kOf z d).N)]) (k' := fun _ => kOf z d) hp (sd_at hd) (fun H => krNodes H p.k (kOf z d) hid) H v hs
 rwa [show wUp z d { sdAt z d with k := kOf z d } = z from kUp_self hd] at h
end
end Go.Proofs.YtfhkgohokbkgiaaGreatDoor
set_option linter.unusedVariables false
set_option linter.unusedSimpArgs false
namespace Go.Proofs.YtfhkgohokbkgiaaGreatDoor
open Go.RowKit G
def thO (m : Int) : Int := if m = 0 then 3 else if m = 1 then 4 else if m = 4 then 4 else 5
def thA (m : Int) (n : Nat) : Int := if m = 0 then 0 else if m = 1 then n else if m = 2 then (n % 4 : Nat) else if m = 3 then (n % 4 : Nat) else if m = 4 then IntKind.i64.wrap (1001 + n) else IntKind.i64.wrap (4 + n)
def thW (m : Int) : Int × Int × Int := if m = 3 then (0, 1, 0) else if m = 4 then (12, 0, 0) else if m = 5 then (10, 0, 0) else (0, 0, 0)
def thR (m : Int) : Bool := if m = 3 then true else if m = 4 then true else if m = 5 then true else false
def thZ (q : BA) (m : Int) (n : Nat) : WS := if m = 3 then act q (wz q) 0 1 6 (n % 4 : Nat) 0 else wz q
def thE (q : BA) (m : Int) (n : Nat) : WS := act q (thZ q m n) 3 1 (thO m) (thA m n) 0
def thK (q : BA) (m : Int) (n : Nat) : KS := (sdAt (thE q m n) 1).k
def thChk (q : BA) : Bool := allN 6 fun m => allN 256 fun n => says q (thZ q m n) 3 1 (thO m) (thA m n) 0 (thW m) && (krunnable (thK q m n) == thR m) && (!(m == 1) || ((kwake (thK q m n) (IntKind.i64.wrap (3 + n))).1 == [] && Nat.beq (kwake (kwake (thK q m n) (IntKind.i64.wrap (3 + n))).2 (IntKind.i64.wrap (4 + n))).1.length 1))
theorem thChk_ok (q : BA) : thChk q = true := by kernel_rfl
theorem th_all (q : BA) {m n : Nat} (hm : m < 6) (hn : n < 256) : wAct (bC q) (thZ q m n) 3 1 1 (thO m) (thA m n) 0 = ((thW m, true), thE q m n) ∧ krunnable (thK q m n) = thR m ∧ (m = 1 → (kwake (thK q m n) (IntKind.i64.wrap (3 + n))).1 = [] ∧ (kwake (kwake (thK q m n) (IntKind.i64.wrap (3 + n))).2 (IntKind.i64.wrap (4 + n))).1.length = 1) := by
 have h := allN_at (allN_at (thChk_ok q) hm) hn
 simp only [Bool.and_eq_true] at h
 refine ⟨says_is h.1.1, eq_of_beq h.1.2, fun h1 => ?_⟩
 have h2 := h.2
 rw [h1] at h2 ⊢
 simp only [beq_self_eq_true, Bool.not_true, Bool.false_or, Bool.and_eq_true] at h2
 exact ⟨eq_of_beq h2.1, Nat.eq_of_beq_eq_true h2.2⟩
theorem thZ_B (q : BA) (m : Int) (n : Nat) : WdB (thZ q m n) 3 := by
 unfold thZ; split
 ·exact act_B (q := q) (wz_B q) (by omega) 0 1 6 (n % 4 : Nat) 0
 ·exact (wz_B q).mono (by omega)
theorem thE_B (q : BA) (m : Int) (n : Nat) : WdB (thE q m n) 4 := act_B (q := q) (thZ_B q m n) (by omega) 3 1 (thO m) (thA m n) 0
theorem thE_len (q : BA) (m : Int) (n : Nat) : (thE q m n).s.length = 4 := by
 unfold thE act thZ
 rw [wAct_len]
 split
 ·unfold act; rw [wAct_len]; rfl
 ·rfl
theorem sdAt_self {z : WS} {d : Nat} {x : SdS} (h : d < z.s.length) : sdAt (wUp z d x) d = x := by
 unfold sdAt wUp
 rw [List.getD_eq_getElem?_getD, List.getElem?_set_self h]; rfl
theorem six {m : Int} (h : 0 ≤ m ∧ m < 6) : m = 0 ∨ m = 1 ∨ m = 2 ∨ m = 3 ∨ m = 4 ∨ m = 5 := by omega
set_option maxHeartbeats 1000000 in
set_option maxRecDepth 100000 in
theorem threads21 (H : List SP) (hE : EK H) (wh n0 : Int) (hw : 0 ≤ wh ∧ wh < 256) (hn : 0 ≤ n0 ∧ n0 < 256) : ∀ w, Sat w H → Calls Tryz.prog 9 #[.int .u8 wh, .int .u8 n0] w (Ret (ι := Unit) (fun _ => .bool true) fun _ => H) := by
 have hw1 := tmod_range hw.1 (m := 6) (by omega)
 have hn1 := tmod_range hn.1 (m := 4) (by omega)
 obtain ⟨m, hm⟩ : ∃ m : Int, Int.tmod wh 6 = m := ⟨_, rfl⟩
 obtain ⟨n, rfl⟩ : ∃ n : Nat, n0 = (n : Int) := ⟨n0.toNat, by omega⟩
 have hn4 : Int.tmod (n : Int) 4 = ((n % 4 : Nat) : Int) := by rw [Int.tmod_eq_emod_of_nonneg (by omega)]; omega
 have hm6 : 0 ≤ m ∧ m < 6 := by omega
 rw [hm] at hw1
 refine enterG (fn := Tryz.f9) 98 [.int .u8 wh, .int .u8 (n : Int)] Tryz.func9 (by kernel_rfl) (by kernel_rfl) (by kernel_rfl) ?_
 refine Xq (Xg 1 (Xe [(0,.int .u8 wh), (1,.int .u8 (n : Int)), (4,.bool false)] ?_ 1))
 refine Xq (Xq (Xg 2 (Xs (Xa (some 11) (fun _ => .bool true) (known21 _ hE)) (fun _ => ?_) 1)))
 refine Xe [(0,.int .u8 wh), (1,.int .u8 (n : Int)), (4,.bool false), (12,.bool false)] ?_ 1
 refine Xc false (fun h => by cases h) (fun _ => ?_)
 refine Xk (Xq (Xg 3 (Xs (Xa (some 13) (fun (q : BA) => .agg #[vi 8, vi 2, .slice (some ⟨q.ps, 0, none⟩) 2 2, .slice (some ⟨q.ds, 0, none⟩) 4 4]) (base_walk _)) (fun (q : BA) => ?_) 2)))
 obtain ⟨hr1, hr2, hr3⟩ := th_all q (m := m.toNat) (n := n) (by omega) (by omega)
 rw [show ((m.toNat : Nat) : Int) = m by omega] at hr1 hr2 hr3
 replace hr3 : m = 1 → _ := fun h => hr3 (by omega)
 refine Xs (Xa (some 14) (fun (p : Nat × WP) => .pointer (some ⟨p.1, 0, none⟩)) (wnew_walk _ (bC q) (bKC q _) (by show 4 ≤ 6; omega))) (fun (p : Nat × WP) => ?_) 1
 refine PT.know (bGet (bS q :: H) p.1 q p.2 (wz q) 1 (by omega)) ?_
 rintro ⟨p1, x1, hp1, hx1⟩
 refine Xe [(0,.int .u8 wh), (1,.int .u8 (n : Int)), (4,.bool false), (5,.pointer (some ⟨p.1, 0, none⟩))] ?_ 1
 refine Xq (Xg 3 (Xr [(0,.int .u8 wh), (1,.int .u8 (n : Int)), (4,.bool false), (5,.pointer (some ⟨p.1, 0, none⟩)), (15,.agg #[vi 3, vi 0, vi 0])] ?_ 2 1))
 refine Xs (Xn 35 [vi 0, vi 0, vi 0] (some 6) (fun b => vp b)) (fun b1 => ?_) 1
 refine Xs (Xz [(0,vi 3), (1,vi 0), (2,vi 0)]) (fun _ => ?_) 0
 refine endR ?_
 refine Xq (Xg 3 (Xr [(6,vp b1), (0,.int .u8 wh), (1,.int .u8 (n : Int)), (4,.bool false), (5,.pointer (some ⟨p.1, 0, none⟩)), (16,.agg #[vi 0, vi 0, vi 0])] ?_ 2 1))
 refine Xs (Xn 31 [vi 0, vi 0, vi 0] (some 7) (fun b => vp b)) (fun b2 => ?_) 1
 refine Xs (Xz [(0,vi 0), (1,vi 0), (2,vi 0)]) (fun _ => ?_) 0
 refine endR ?_
 refine Xq (Xg 1 (Xe [(7,vp b2), (6,vp b1), (0,.int .u8 wh), (1,.int .u8 (n : Int)), (4,.bool false), (5,.pointer (some ⟨p.1, 0, none⟩)), (8,.bool false)] ?_ 1))
 refine Xq (Xq (Xg 2 (Xe [(7,vp b2), (6,vp b1), (0,.int .u8 wh), (1,.int .u8 (n : Int)), (4,.bool false), (5,.pointer (some ⟨p.1, 0, none⟩)), (8,.bool false), (18,.int .u8 (Int.tmod wh 6))] ?_ 2)))
 rw [show Int.tmod wh 6 = m by exact hm]
 refine joinR (fun (x : Unit) => [(0, .int .u8 wh), (1, .int .u8 (n : Int)), (4, .bool false), (5, .pointer (some ⟨p.1, 0, none⟩)), (6, vp b1), (7, vp b2), (8, .bool (thR m)), (18, .int .u8 m)]) (fun (_ : Unit) => (blk b2 31 [vi ((thW m).1), vi ((thW m).2.1), vi ((thW m).2.2)] :: blk b1 35 [vi (thO m), vi (thA m n), vi 0] :: wdS p.1 (bC q) p.2 (thZ q m n) :: bS q :: H)) ?_ (fun x => ?_)
 ·skip
  rcases six hm6 with rfl | rfl | rfl | rfl | rfl | rfl
  ·skip
   refine Xb 0 (Xq (Xg 2 (Xe [(7,vp b2), (6,vp b1), (0,.int .u8 wh), (1,.int .u8 (n : Int)), (4,.bool false), (5,.pointer (some ⟨p.1, 0, none⟩)), (8,.bool false), (18,.int .u8 0), (19,.bool false)] ?_ 2)))
   refine Xc false (fun h => by cases h) (fun _ => ?_)
   refine Xq (Xg 2 (Xe [(7,vp b2), (6,vp b1), (0,.int .u8 wh), (1,.int .u8 (n : Int)), (4,.bool false), (5,.pointer (some ⟨p.1, 0, none⟩)), (8,.bool false), (18,.int .u8 0), (24,.bool false)] ?_ 2))
   refine Xc false (fun h => by cases h) (fun _ => ?_)
   refine Xq (Xg 2 (Xe [(7,vp b2), (6,vp b1), (0,.int .u8 wh), (1,.int .u8 (n : Int)), (4,.bool false), (5,.pointer (some ⟨p.1, 0, none⟩)), (8,.bool false), (18,.int .u8 0), (30,.bool false)] ?_ 2))
   refine Xc false (fun h => by cases h) (fun _ => ?_)
   refine Xq (Xg 2 (Xe [(7,vp b2), (6,vp b1), (0,.int .u8 wh), (1,.int .u8 (n : Int)), (4,.bool false), (5,.pointer (some ⟨p.1, 0, none⟩)), (8,.bool false), (18,.int .u8 0), (43,.bool false)] ?_ 2))
   refine Xc false (fun h => by cases h) (fun _ => ?_)
   refine Xq (Xg 2 (Xe [(7,vp b2), (6,vp b1), (0,.int .u8 wh), (1,.int .u8 (n : Int)), (4,.bool false), (5,.pointer (some ⟨p.1, 0, none⟩)), (8,.bool false), (18,.int .u8 0), (50,.bool false)] ?_ 2))
   refine Xc false (fun h => by cases h) (fun _ => ?_)
   refine Xk (Xp [(0,.int .u8 wh), (1,.int .u8 (n : Int)), (4,.bool false), (5,.pointer (some ⟨p.1, 0, none⟩)), (6,vp b1), (7,vp b2), (8,.bool false), (18,.int .u8 0)] ?_)
   exact midR (()) rfl rfl
  ·skip
   refine Xb 0 (Xq (Xg 2 (Xe [(7,vp b2), (6,vp b1), (0,.int .u8 wh), (1,.int .u8 (n : Int)), (4,.bool false), (5,.pointer (some ⟨p.1, 0, none⟩)), (8,.bool false), (18,.int .u8 1), (19,.bool true)] ?_ 2)))
   refine Xc true (fun _ => ?_) (fun h => by cases h)
   refine Xg 4 (Xr [(7,vp b2), (6,vp b1), (0,.int .u8 wh), (1,.int .u8 (n : Int)), (4,.bool false), (5,.pointer (some ⟨p.1, 0, none⟩)), (8,.bool false), (18,.int .u8 1), (23,.agg #[vi 4, vi (IntKind.i64.wrap (n : Int)), vi 0])] ?_ 1 3)
   refine Xh0 ?_ 1 1
   refine Xs (Xz [(0,vi 4), (1,vi (IntKind.i64.wrap (n : Int))), (2,vi 0)]) (fun _ => ?_) 0
   refine endR ?_
   rw [show IntKind.i64.wrap (n : Int) = (n : Int) by rw [w64 (by omega) (by omega)]]
   refine PT.pick 0 rfl ?_
   refine PT.pick 1 rfl ?_
   refine Xp [(0,.int .u8 wh), (1,.int .u8 (n : Int)), (4,.bool false), (5,.pointer (some ⟨p.1, 0, none⟩)), (6,vp b1), (7,vp b2), (8,.bool false), (18,.int .u8 1)] ?_
   exact midR (()) rfl rfl
  ·skip
   refine Xb 0 (Xq (Xg 2 (Xe [(7,vp b2), (6,vp b1), (0,.int .u8 wh), (1,.int .u8 (n : Int)), (4,.bool false), (5,.pointer (some ⟨p.1, 0, none⟩)), (8,.bool false), (18,.int .u8 2), (19,.bool false)] ?_ 2)))
   refine Xc false (fun h => by cases h) (fun _ => ?_)
   refine Xq (Xg 2 (Xe [(7,vp b2), (6,vp b1), (0,.int .u8 wh), (1,.int .u8 (n : Int)), (4,.bool false), (5,.pointer (some ⟨p.1, 0, none⟩)), (8,.bool false), (18,.int .u8 2), (24,.bool true)] ?_ 2))
   refine Xc true (fun _ => ?_) (fun h => by cases h)
   refine Xg 5 (Xr [(7,vp b2), (6,vp b1), (0,.int .u8 wh), (1,.int .u8 (n : Int)), (4,.bool false), (5,.pointer (some ⟨p.1, 0, none⟩)), (8,.bool false), (18,.int .u8 2), (29,.agg #[vi 5, vi (IntKind.i64.wrap (Int.tmod (n : Int) 4)), vi 0])] ?_ 1 4)
   refine Xh0 ?_ 1 1
   refine Xs (Xz [(0,vi 5), (1,vi (IntKind.i64.wrap (Int.tmod (n : Int) 4))), (2,vi 0)]) (fun _ => ?_) 0
   refine endR ?_
   rw [show IntKind.i64.wrap (Int.tmod (n : Int) 4) = ((n % 4 : Nat) : Int) by rw [w64 (by omega) (by omega), hn4]]
   refine PT.pick 0 rfl ?_
   refine PT.pick 1 rfl ?_
   refine Xp [(0,.int .u8 wh), (1,.int .u8 (n : Int)), (4,.bool false), (5,.pointer (some ⟨p.1, 0, none⟩)), (6,vp b1), (7,vp b2), (8,.bool false), (18,.int .u8 2)] ?_
   exact midR (()) rfl rfl
  ·skip
   refine Xb 0 (Xq (Xg 2 (Xe [(7,vp b2), (6,vp b1), (0,.int .u8 wh), (1,.int .u8 (n : Int)), (4,.bool false), (5,.pointer (some ⟨p.1, 0, none⟩)), (8,.bool false), (18,.int .u8 3), (19,.bool false)] ?_ 2)))
   refine Xc false (fun h => by cases h) (fun _ => ?_)
   refine Xq (Xg 2 (Xe [(7,vp b2), (6,vp b1), (0,.int .u8 wh), (1,.int .u8 (n : Int)), (4,.bool false), (5,.pointer (some ⟨p.1, 0, none⟩)), (8,.bool false), (18,.int .u8 3), (24,.bool false)] ?_ 2))
   refine Xc false (fun h => by cases h) (fun _ => ?_)
   refine Xq (Xg 2 (Xe [(7,vp b2), (6,vp b1), (0,.int .u8 wh), (1,.int .u8 (n : Int)), (4,.bool false), (5,.pointer (some ⟨p.1, 0, none⟩)), (8,.bool false), (18,.int .u8 3), (30,.bool true)] ?_ 2))
   refine Xc true (fun _ => ?_) (fun h => by cases h)
   refine Xq (Xg 6 (Xr [(7,vp b2), (6,vp b1), (0,.int .u8 wh), (1,.int .u8 (n : Int)), (4,.bool false), (5,.pointer (some ⟨p.1, 0, none⟩)), (8,.bool false), (18,.int .u8 3), (32,.pointer (some ⟨p.1, 0, none⟩)), (36,.agg #[vi 6, vi (IntKind.i64.wrap (Int.tmod (n : Int) 4)), vi 0])] ?_ 1 5))
   rw [show IntKind.i64.wrap (Int.tmod (n : Int) 4) = ((n % 4 : Nat) : Int) by rw [w64 (by omega) (by omega), hn4]]
   refine Xs (Xa (some 37) (fun _ => ansV (wAct (bC q) (wz q) 0 1 1 6 ((n % 4 : Nat) : Int) 0).1) (chg_at 2 rfl (bDoes _ p.1 q p.2 (wz q) hE.up.up.up (bKC q H).up.up 2 (wz_B q) (by omega) 0 1 (by omega) 6 ((n % 4 : Nat) : Int) 0))) (fun _ => ?_) 0
   refine endR ?_
   refine Xg 8 (Xr [(7,vp b2), (6,vp b1), (0,.int .u8 wh), (1,.int .u8 (n : Int)), (4,.bool false), (5,.pointer (some ⟨p.1, 0, none⟩)), (8,.bool false), (18,.int .u8 3), (41,.agg #[vi 5, vi (IntKind.i64.wrap (Int.tmod (n : Int) 4)), vi 0]), (42,.agg #[vi 0, vi 1, vi 0])] ?_ 3 5)
   refine Xh0 ?_ 1 3
   refine Xs (Xz [(0,vi 5), (1,vi (IntKind.i64.wrap (Int.tmod (n : Int) 4))), (2,vi 0)]) (fun _ => ?_) 2
   refine Xh0 ?_ 1 2
   refine Xs (Xz [(0,vi 0), (1,vi 1), (2,vi 0)]) (fun _ => ?_) 1
   refine Xe [(7,vp b2), (6,vp b1), (0,.int .u8 wh), (1,.int .u8 (n : Int)), (4,.bool false), (5,.pointer (some ⟨p.1, 0, none⟩)), (8,.bool true), (18,.int .u8 3)] ?_ 1
   rw [show IntKind.i64.wrap (Int.tmod (n : Int) 4) = ((n % 4 : Nat) : Int) by rw [w64 (by omega) (by omega), hn4]]
   refine Xp [(0,.int .u8 wh), (1,.int .u8 (n : Int)), (4,.bool false), (5,.pointer (some ⟨p.1, 0, none⟩)), (6,vp b1), (7,vp b2), (8,.bool true), (18,.int .u8 3)] ?_
   exact midR (()) rfl rfl
  ·skip
   refine Xb 0 (Xq (Xg 2 (Xe [(7,vp b2), (6,vp b1), (0,.int .u8 wh), (1,.int .u8 (n : Int)), (4,.bool false), (5,.pointer (some ⟨p.1, 0, none⟩)), (8,.bool false), (18,.int .u8 4), (19,.bool false)] ?_ 2)))
   refine Xc false (fun h => by cases h) (fun _ => ?_)
   refine Xq (Xg 2 (Xe [(7,vp b2), (6,vp b1), (0,.int .u8 wh), (1,.int .u8 (n : Int)), (4,.bool false), (5,.pointer (some ⟨p.1, 0, none⟩)), (8,.bool false), (18,.int .u8 4), (24,.bool false)] ?_ 2))
   refine Xc false (fun h => by cases h) (fun _ => ?_)
   refine Xq (Xg 2 (Xe [(7,vp b2), (6,vp b1), (0,.int .u8 wh), (1,.int .u8 (n : Int)), (4,.bool false), (5,.pointer (some ⟨p.1, 0, none⟩)), (8,.bool false), (18,.int .u8 4), (30,.bool false)] ?_ 2))
   refine Xc false (fun h => by cases h) (fun _ => ?_)
   refine Xq (Xg 2 (Xe [(7,vp b2), (6,vp b1), (0,.int .u8 wh), (1,.int .u8 (n : Int)), (4,.bool false), (5,.pointer (some ⟨p.1, 0, none⟩)), (8,.bool false), (18,.int .u8 4), (43,.bool true)] ?_ 2))
   refine Xc true (fun _ => ?_) (fun h => by cases h)
   refine Xg 8 (Xr [(7,vp b2), (6,vp b1), (0,.int .u8 wh), (1,.int .u8 (n : Int)), (4,.bool false), (5,.pointer (some ⟨p.1, 0, none⟩)), (8,.bool false), (18,.int .u8 4), (48,.agg #[vi 4, vi (IntKind.i64.wrap (1001 + (IntKind.i64.wrap (n : Int)))), vi 0]), (49,.agg #[vi 12, vi 0, vi 0])] ?_ 3 5)
   refine Xh0 ?_ 1 3
   refine Xs (Xz [(0,vi 4), (1,vi (IntKind.i64.wrap (1001 + (IntKind.i64.wrap (n : Int))))), (2,vi 0)]) (fun _ => ?_) 2
   refine Xh0 ?_ 1 2
   refine Xs (Xz [(0,vi 12), (1,vi 0), (2,vi 0)]) (fun _ => ?_) 1
   refine Xe [(7,vp b2), (6,vp b1), (0,.int .u8 wh), (1,.int .u8 (n : Int)), (4,.bool false), (5,.pointer (some ⟨p.1, 0, none⟩)), (8,.bool true), (18,.int .u8 4)] ?_ 1
   rw [show IntKind.i64.wrap (n : Int) = (n : Int) by rw [w64 (by omega) (by omega)]]
   refine Xp [(0,.int .u8 wh), (1,.int .u8 (n : Int)), (4,.bool false), (5,.pointer (some ⟨p.1, 0, none⟩)), (6,vp b1), (7,vp b2), (8,.bool true), (18,.int .u8 4)] ?_
   exact midR (()) rfl rfl
  ·skip
   refine Xb 0 (Xq (Xg 2 (Xe [(7,vp b2), (6,vp b1), (0,.int .u8 wh), (1,.int .u8 (n : Int)), (4,.bool false), (5,.pointer (some ⟨p.1, 0, none⟩)), (8,.bool false), (18,.int .u8 5), (19,.bool false)] ?_ 2)))
   refine Xc false (fun h => by cases h) (fun _ => ?_)
   refine Xq (Xg 2 (Xe [(7,vp b2), (6,vp b1), (0,.int .u8 wh), (1,.int .u8 (n : Int)), (4,.bool false), (5,.pointer (some ⟨p.1, 0, none⟩)), (8,.bool false), (18,.int .u8 5), (24,.bool false)] ?_ 2))
   refine Xc false (fun h => by cases h) (fun _ => ?_)
   refine Xq (Xg 2 (Xe [(7,vp b2), (6,vp b1), (0,.int .u8 wh), (1,.int .u8 (n : Int)), (4,.bool false), (5,.pointer (some ⟨p.1, 0, none⟩)), (8,.bool false), (18,.int .u8 5), (30,.bool false)] ?_ 2))
   refine Xc false (fun h => by cases h) (fun _ => ?_)
   refine Xq (Xg 2 (Xe [(7,vp b2), (6,vp b1), (0,.int .u8 wh), (1,.int .u8 (n : Int)), (4,.bool false), (5,.pointer (some ⟨p.1, 0, none⟩)), (8,.bool false), (18,.int .u8 5), (43,.bool false)] ?_ 2))
   refine Xc false (fun h => by cases h) (fun _ => ?_)
   refine Xq (Xg 2 (Xe [(7,vp b2), (6,vp b1), (0,.int .u8 wh), (1,.int .u8 (n : Int)), (4,.bool false), (5,.pointer (some ⟨p.1, 0, none⟩)), (8,.bool false), (18,.int .u8 5), (50,.bool true)] ?_ 2))
   refine Xc true (fun _ => ?_) (fun h => by cases h)
   refine Xg 8 (Xr [(7,vp b2), (6,vp b1), (0,.int .u8 wh), (1,.int .u8 (n : Int)), (4,.bool false), (5,.pointer (some ⟨p.1, 0, none⟩)), (8,.bool false), (18,.int .u8 5), (55,.agg #[vi 5, vi (IntKind.i64.wrap (4 + (IntKind.i64.wrap (n : Int)))), vi 0]), (56,.agg #[vi 10, vi 0, vi 0])] ?_ 3 5)
   refine Xh0 ?_ 1 3
   refine Xs (Xz [(0,vi 5), (1,vi (IntKind.i64.wrap (4 + (IntKind.i64.wrap (n : Int))))), (2,vi 0)]) (fun _ => ?_) 2
   refine Xh0 ?_ 1 2
   refine Xs (Xz [(0,vi 10), (1,vi 0), (2,vi 0)]) (fun _ => ?_) 1
   refine Xe [(7,vp b2), (6,vp b1), (0,.int .u8 wh), (1,.int .u8 (n : Int)), (4,.bool false), (5,.pointer (some ⟨p.1, 0, none⟩)), (8,.bool true), (18,.int .u8 5)] ?_ 1
   rw [show IntKind.i64.wrap (n : Int) = (n : Int) by rw [w64 (by omega) (by omega)]]
   refine Xp [(0,.int .u8 wh), (1,.int .u8 (n : Int)), (4,.bool false), (5,.pointer (some ⟨p.1, 0, none⟩)), (6,vp b1), (7,vp b2), (8,.bool true), (18,.int .u8 5)] ?_
   exact midR (()) rfl rfl
 refine Xq (Xg 9 (Xl [(0,.int .u8 wh), (1,.int .u8 (n : Int)), (4,.bool false), (5,.pointer (some ⟨p.1, 0, none⟩)), (7,vp b2), (8,.bool (thR m)), (58,.pointer (some ⟨p.1, 0, none⟩)), (59,.agg #[vi (thO m), vi (thA m n), vi 0])] [(⟨b1, 0, none⟩, vi (thO m)), (⟨b1, 1, none⟩, vi (thA m n)), (⟨b1, 2, none⟩, vi 0)] (hasC (ba 1) (hasC (ba 1) (hasC (ba 1) has0))) ?_ 7 2))
 refine Xs (Xa (some 60) (fun _ => .tuple #[.agg #[vi (thW m).1, vi (thW m).2.1, vi (thW m).2.2], .bool true]) (chg_at 2 rfl (bAct _ p.1 q p.2 (thZ q m n) hE.up.up.up (bKC q H).up.up 3 (thZ_B q m n) (by omega) 3 1 (by omega) 1 (thO m) (thA m n) 0 hr1))) (fun _ => ?_) 6
 refine Xr [(0,.int .u8 wh), (1,.int .u8 (n : Int)), (4,.bool false), (5,.pointer (some ⟨p.1, 0, none⟩)), (7,vp b2), (8,.bool (thR m)), (61,.agg #[vi ((thW m).1), vi ((thW m).2.1), vi ((thW m).2.2)]), (62,.bool true)] ?_ 3 3
 refine Xs (Xn 31 [vi 0, vi 0, vi 0] (some 9) (fun b => vp b)) (fun b3 => ?_) 2
 refine Xs (Xz [(0,vi ((thW m).1)), (1,vi ((thW m).2.1)), (2,vi ((thW m).2.2))]) (fun _ => ?_) 1
 refine Xe [(9,vp b3), (0,.int .u8 wh), (1,.int .u8 (n : Int)), (4,.bool false), (5,.pointer (some ⟨p.1, 0, none⟩)), (7,vp b2), (8,.bool (thR m)), (10,.bool true)] ?_ 1
 refine Xq (Xq (Xg 14 (Xl [(0,.int .u8 wh), (1,.int .u8 (n : Int)), (4,.bool false), (5,.pointer (some ⟨p.1, 0, none⟩)), (8,.bool (thR m)), (65,.bool false), (66,.agg #[vi ((thW m).1), vi ((thW m).2.1), vi ((thW m).2.2)]), (67,.agg #[vi ((thW m).1), vi ((thW m).2.1), vi ((thW m).2.2)])] [(⟨b3, 0, none⟩, vi ((thW m).1)), (⟨b3, 1, none⟩, vi ((thW m).2.1)), (⟨b3, 2, none⟩, vi ((thW m).2.2)), (⟨b2, 0, none⟩, vi ((thW m).1)), (⟨b2, 1, none⟩, vi ((thW m).2.1)), (⟨b2, 2, none⟩, vi ((thW m).2.2))] (hasC (ba 0) (hasC (ba 0) (hasC (ba 0) (hasC (ba 1) (hasC (ba 1) (hasC (ba 1) has0)))))) ?_ 9 5)))
 refine Xs (yldS (eqY1 31 31 (.tmp 66) (.tmp 67) [.int .i64 ((thW m).1), .int .i64 ((thW m).2.1), .int .i64 ((thW m).2.2)] [.int .i64 ((thW m).1), .int .i64 ((thW m).2.1), .int .i64 ((thW m).2.2)] true 68 (hb := by simp [eqCs, eqC]))) (fun _ => ?_) 8
 refine Xr [(0,.int .u8 wh), (1,.int .u8 (n : Int)), (4,.bool false), (5,.pointer (some ⟨p.1, 0, none⟩)), (8,.bool (thR m)), (70,.bool false), (71,.pointer (some ⟨p.1, 0, none⟩))] ?_ 5 3
 refine Xs (Xa (some 72) (fun _ => .pointer (some ⟨p1.k, 0, none⟩)) (same_at 3 rfl (wKernel_c _ p.1 (bC q) p.2 (thE q m n) 1 p1 hp1))) (fun _ => ?_) 4
 refine Xs (Xa (some 73) (fun _ => .bool (thR m)) ((by have h := same_at (H := (blk b3 31 [.int .i64 ((thW m).1), .int .i64 ((thW m).2.1), .int .i64 ((thW m).2.2)] :: blk b2 31 [.int .i64 ((thW m).1), .int .i64 ((thW m).2.1), .int .i64 ((thW m).2.2)] :: blk b1 35 [.int .i64 (thO m), .int .i64 (thA m n), .int .i64 0] :: wdS p.1 (bC q) p.2 (thE q m n) :: bS q :: H)) 3 rfl (wkRunnable _ p.1 (bC q) p.2 (thE q m n) 1 p1 hp1 (by rw [thE_len]; omega)); rw [show krunnable (kOf (thE q m n) 1) = thR m from hr2] at h; exact h))) (fun _ => ?_) 3
 refine Xe [(0,.int .u8 wh), (1,.int .u8 (n : Int)), (4,.bool false), (5,.pointer (some ⟨p.1, 0, none⟩)), (76,.bool ((thR m) != (thR m)))] ?_ 3
 rw [show ((thR m) != (thR m)) = false from by simp]
 refine Xc false (fun h => by cases h) (fun _ => ?_)
 refine Xk (Xq (Xq (Xg 3 (Xe [(1,.int .u8 (n : Int)), (4,.bool false), (5,.pointer (some ⟨p.1, 0, none⟩)), (79,.bool ((Int.tmod wh 6) == 1))] ?_ 3))))
 rw [show Int.tmod wh 6 = m by exact hm]
 cases h1 : ((m) == 1) with
 | true =>
  obtain ⟨hk1, hk2⟩ := hr3 (eq_of_beq h1)
  refine Xc true (fun _ => ?_) (fun h => by cases h)
  refine Xq (Xg 19 (Xr [(1,.int .u8 (n : Int)), (4,.bool false), (5,.pointer (some ⟨p.1, 0, none⟩)), (80,.pointer (some ⟨p.1, 0, none⟩))] ?_ 18 1))
  refine Xs (Xa (some 81) (fun _ => .pointer (some ⟨p1.k, 0, none⟩)) (same_at 3 rfl (wKernel_c _ p.1 (bC q) p.2 (thE q m n) 1 p1 hp1))) (fun _ => ?_) 17
  refine Xr [(81,.pointer (some ⟨p1.k, 0, none⟩)), (1,.int .u8 (n : Int)), (4,.bool false), (5,.pointer (some ⟨p.1, 0, none⟩)), (84,vi (IntKind.i64.wrap (3 + (IntKind.i64.wrap (n : Int)))))] ?_ 14 3
  rw [show IntKind.i64.wrap (n : Int) = (n : Int) by rw [w64 (by omega) (by omega)]]
  refine Xh0 ?_ 3 14
  refine Xs (Xa (some 85) (fun (r : Option Addr × Nat) => .slice r.1 0 r.2) ((by have h := wkWake ((blk b3 31 [.int .i64 ((thW m).1), .int .i64 ((thW m).2.1), .int .i64 ((thW m).2.2)] :: blk b2 31 [.int .i64 ((thW m).1), .int .i64 ((thW m).2.1), .int .i64 ((thW m).2.2)] :: blk b1 35 [.int .i64 (thO m), .int .i64 (thA m n), .int .i64 0] :: bS q :: H)) p.1 (bC q) p.2 (thE q m n) 1 p1 hp1 (by rw [thE_len]; omega) (IntKind.i64.wrap (3 + (n : Int))); rw [show (kwake (kOf (thE q m n) 1) (IntKind.i64.wrap (3 + (n : Int)))).1 = [] from hk1] at h; exact h))) (fun (r : Option Addr × Nat) => ?_) 13
  obtain ⟨z2, hz2⟩ : ∃ z2, kUp (thE q m n) 1 (kwake (kOf (thE q m n) 1) (IntKind.i64.wrap (3 + (n : Int)))).2 = z2 := ⟨_, rfl⟩
  have hl2 : z2.s.length = 4 := by rw [← hz2, kUp, wUp_len, thE_len]
  have hk3 : kOf z2 1 = (kwake (thK q m n) (IntKind.i64.wrap (3 + (n : Int)))).2 := by rw [← hz2, kOf, kUp, sdAt_self (by rw [thE_len]; omega)]; rfl
  rw [hz2]
  refine Xr [(1,.int .u8 (n : Int)), (4,.bool false), (88,.bool true), (89,.pointer (some ⟨p.1, 0, none⟩))] ?_ 9 4
  refine Xs (Xa (some 90) (fun _ => .pointer (some ⟨p1.k, 0, none⟩)) (same_at 1 rfl (wKernel_c _ p.1 (bC q) p.2 z2 1 p1 hp1))) (fun _ => ?_) 8
  refine Xr [(90,.pointer (some ⟨p1.k, 0, none⟩)), (4,.bool false), (88,.bool true), (93,vi (IntKind.i64.wrap (4 + (IntKind.i64.wrap (n : Int)))))] ?_ 5 3
  rw [show IntKind.i64.wrap (n : Int) = (n : Int) by rw [w64 (by omega) (by omega)]]
  refine Xh0 ?_ 1 5
  refine Xs (Xa (some 94) (fun (r3 : Option Addr × Nat) => .slice r3.1 1 r3.2) ((by have h := wkWake ((row (kE .i64) 3 (.slice r.1 0 r.2) [] :: blk b3 31 [.int .i64 ((thW m).1), .int .i64 ((thW m).2.1), .int .i64 ((thW m).2.2)] :: blk b2 31 [.int .i64 ((thW m).1), .int .i64 ((thW m).2.1), .int .i64 ((thW m).2.2)] :: blk b1 35 [.int .i64 (thO m), .int .i64 (thA m n), .int .i64 0] :: bS q :: H)) p.1 (bC q) p.2 z2 1 p1 hp1 (by rw [hl2]; omega) (IntKind.i64.wrap (4 + (n : Int))); rw [show (kwake (kOf z2 1) (IntKind.i64.wrap (4 + (n : Int)))).1.length = 1 by rw [hk3]; exact hk2] at h; exact h))) (fun (r3 : Option Addr × Nat) => ?_) 4
  refine Xe [(4,.bool true)] ?_ 4
  refine Xv (thenV (Y0 (.bool true) (fun w hs => ?_)))
  exact ⟨(), rfl, Sat.right (R := [_, _, _, _, _, _, _]) hs⟩
 | false =>
  refine Xc false (fun h => by cases h) (fun _ => ?_)
  refine Xk (Xq (Xg 1 (Xe [(4,.bool true)] ?_ 1)))
  refine Xv (Y0 (.bool true) (fun w hs => ?_))
  exact ⟨(), rfl, Sat.right (R := [_, _, _, _, _]) hs⟩
theorem threads_row (W : World) (hE : W.cell? ⟨0, 0, none⟩ = some errT) (a b : Int) (ha : (Lit.int .u8 a).wf = true) (hb : (Lit.int .u8 b).wf = true) : Calls Tryz.prog 9 #[.int .u8 a, .int .u8 b] W (LawPost W) :=
 lawPost (fun _ _ h => h) (threads21 [old W] (EK.old 0 rfl hE) a b (u8_wf ha) (u8_wf hb) W (Sat.start W))
end Go.Proofs.YtfhkgohokbkgiaaGreatDoor
