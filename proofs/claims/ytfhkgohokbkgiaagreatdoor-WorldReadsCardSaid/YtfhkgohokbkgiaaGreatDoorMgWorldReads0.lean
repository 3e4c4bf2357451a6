/- Texts put together: tontineref15.SameRecords. WorldReads: its walk. Conditions: none. -/
import Derived.Test.YtfhkgohokbkgiaaGreatDoorMgWb6
set_option linter.unusedVariables false
set_option linter.unusedSimpArgs false
namespace Go.Proofs.YtfhkgohokbkgiaaGreatDoor
open Go.RowKit G
set_option maxRecDepth 100000 in
theorem sameRecs_walk (H : List SP) (s t : SV Rec) (hk : KR H reE s) (hk2 : KR H reE t) (hl : s.l.length < 1000000000) (hl2 : t.l.length < 1000000000) : ∀ w, Sat w H → Calls Tryz.prog 17 #[.slice s.a s.l.length s.c, .slice t.a t.l.length t.c] w (Ret (ι := Unit) (fun _ => .bool (decide (s.l = t.l))) fun _ => H) := by
 refine enterG (fn := Tryz.f17) 26 [.slice s.a s.l.length s.c, .slice t.a t.l.length t.c] Tryz.func17 (by kernel_rfl) (by kernel_rfl) (by kernel_rfl) ?_
 refine Xq (Xg 1 (Xe [(0,.slice s.a s.l.length s.c), (1,.slice t.a t.l.length t.c), (4,.bool false)] ?_ 1))
 refine Xq (Xq (Xg 5 (Xe [(0,.slice s.a s.l.length s.c), (1,.slice t.a t.l.length t.c), (4,.bool false), (10,.bool ((s.l.length : Int) != (t.l.length : Int)))] ?_ 5)))
 refine Xc ((s.l.length : Int) != (t.l.length : Int)) (fun hb => ?_) (fun hb => ?_)
 ·skip
  refine Xq (Xg 1 (Xe [(0,.slice s.a s.l.length s.c), (1,.slice t.a t.l.length t.c), (4,.bool false)] ?_ 1))
  refine Xv (thenV ?_)
  have hne : s.l ≠ t.l := by intro h0; rw [h0] at hb; simp at hb
  refine Y0 (.bool false) (fun w hs => ?_)
  exact ⟨(), by rw [decide_eq_false hne], hs⟩
 ·skip
  have hll : s.l.length = t.l.length := by simp at hb; omega
  refine Xk (Xq (Xq (Xg 1 (Xe [(0,.slice s.a s.l.length s.c), (1,.slice t.a t.l.length t.c), (4,.bool false), (5,vi 0)] ?_ 1))))
  refine Xb 0 (Xp [(0,.slice s.a s.l.length s.c), (1,.slice t.a t.l.length t.c), (5,vi 0)] (Xl0 (fun (u : Nat) => [(0,.slice s.a s.l.length s.c), (1,.slice t.a t.l.length t.c), (5,vi u)]) (fun k (u : Nat) => k + u = s.l.length ∧ s.l.take u = t.l.take u) s.l.length 0 (by kernel_rfl) ⟨by omega, rfl⟩ ?_))
  rintro k u ⟨hku, hsame⟩
  have hw : IntKind.i64.wrap ((u : Int) + 1) = ((u + 1 : Nat) : Int) := by rw [IntKind.wrap_i64]; omega
  refine Xq (Xq (Xg 4 (Xe [(0,.slice s.a s.l.length s.c), (1,.slice t.a t.l.length t.c), (5,vi u), (14,.bool (decide ((u : Int) < (s.l.length : Int))))] ?_ 4)))
  refine Xc (decide ((u : Int) < (s.l.length : Int))) (fun h => ?_) (fun h => ?_)
  ·skip
   have hu : u < s.l.length := by have := of_decide_eq_true h; omega
   have hu2 : u < t.l.length := by omega
   obtain ⟨y, hy⟩ : ∃ y, s.l[u]? = some y := ⟨_, by simp [hu]; rfl⟩
   obtain ⟨z, hz⟩ : ∃ z, t.l[u]? = some z := ⟨_, by simp [hu2]; rfl⟩
   have ht : s.l.take (u + 1) = s.l.take u ++ [y] := by rw [List.take_add_one, hy]; rfl
   have ht2 : t.l.take (u + 1) = t.l.take u ++ [z] := by rw [List.take_add_one, hz]; rfl
   refine PT.know ((hk).isSome (List.ne_nil_of_length_pos (by omega))) ?_
   rintro ⟨sb, so, hA⟩
   try rw [hA]
   refine PT.know ((hk2).isSome (List.ne_nil_of_length_pos (by omega))) ?_
   rintro ⟨tb, to_, hB⟩
   try rw [hB]
   refine Xk (Xq (Xb 1 (Xq (Xy0 0 [] 9 ?_))))
   refine Xt [0, 1, 4, 5] [(0,.slice (some ⟨sb, so, none⟩) s.l.length s.c), (1,.slice (some ⟨tb, to_, none⟩) t.l.length t.c), (5,vi u), (17,.slice (some ⟨sb, so, none⟩) s.l.length s.c), (18,vi u), (21,.slice (some ⟨tb, to_, none⟩) t.l.length t.c), (22,vi u)] [] has0 ?_
   refine Xu 2 (Xi 36 (.tmp 17) (.tmp 18) sb so s.l.length s.c u 4 48 (u : Int) 19 Tryz.underlying36) ?_
   refine Xt [3] [(0,.slice (some ⟨sb, so, none⟩) s.l.length s.c), (1,.slice (some ⟨tb, to_, none⟩) t.l.length t.c), (5,vi u), (21,.slice (some ⟨tb, to_, none⟩) t.l.length t.c), (22,vi u), (20,.agg #[vi y.1, vi y.2.1, vi y.2.2.1, vi y.2.2.2])] [(⟨sb, so + u * 4, none⟩, vi y.1), (⟨sb, so + u * 4 + 1, none⟩, vi y.2.1), (⟨sb, so + u * 4 + 2, none⟩, vi y.2.2.1), (⟨sb, so + u * 4 + 3, none⟩, vi y.2.2.2)] (hasC (hk.cell hA (i := u) (x := y) hy (j := 0) rfl) (hasC (hk.cell hA (i := u) (x := y) hy (j := 1) rfl) (hasC (hk.cell hA (i := u) (x := y) hy (j := 2) rfl) (hasC (hk.cell hA (i := u) (x := y) hy (j := 3) rfl) has0)))) ?_
   refine Xu 6 (Xi 36 (.tmp 21) (.tmp 22) tb to_ t.l.length t.c u 4 48 (u : Int) 23 Tryz.underlying36) ?_
   refine Xt [7] [(0,.slice (some ⟨sb, so, none⟩) s.l.length s.c), (1,.slice (some ⟨tb, to_, none⟩) t.l.length t.c), (5,vi u), (20,.agg #[vi y.1, vi y.2.1, vi y.2.2.1, vi y.2.2.2]), (24,.agg #[vi z.1, vi z.2.1, vi z.2.2.1, vi z.2.2.2])] [(⟨tb, to_ + u * 4, none⟩, vi z.1), (⟨tb, to_ + u * 4 + 1, none⟩, vi z.2.1), (⟨tb, to_ + u * 4 + 2, none⟩, vi z.2.2.1), (⟨tb, to_ + u * 4 + 3, none⟩, vi z.2.2.2)] (hasC (hk2.cell hB (i := u) (x := z) hz (j := 0) rfl) (hasC (hk2.cell hB (i := u) (x := z) hz (j := 1) rfl) (hasC (hk2.cell hB (i := u) (x := z) hz (j := 2) rfl) (hasC (hk2.cell hB (i := u) (x := z) hz (j := 3) rfl) has0)))) ?_
   refine Xu 8 (eqY1 48 48 (.tmp 20) (.tmp 24) [.int .i64 y.1, .int .i64 y.2.1, .int .i64 y.2.2.1, .int .i64 y.2.2.2] [.int .i64 z.1, .int .i64 z.2.1, .int .i64 z.2.2.1, .int .i64 z.2.2.2] ((y.1 == z.1) && ((y.2.1 == z.2.1) && ((y.2.2.1 == z.2.2.1) && (y.2.2.2 == z.2.2.2)))) 25) ?_
   refine Xd ?_
   try rw [← hB]
   try rw [← hA]
   refine Xc (!((y.1 == z.1) && ((y.2.1 == z.2.1) && ((y.2.2.1 == z.2.2.1) && (y.2.2.2 == z.2.2.2))))) (fun h2 => ?_) (fun h2 => ?_)
   ·skip
    refine Xq (Xg 1 (Xe [(0,.slice s.a s.l.length s.c), (1,.slice t.a t.l.length t.c), (5,vi u), (4,.bool false)] ?_ 1))
    refine Xv (blockV (thenV (thenV (blockV (thenV ?_)))))
    have hne : s.l ≠ t.l := by intro h0; rw [h0, hz] at hy; cases hy; simp at h2
    refine Y0 (.bool false) (fun w hs => ?_)
    exact ⟨(), by rw [decide_eq_false hne], hs⟩
   ·skip
    refine Xk (Xg 3 (Xe [(0,.slice s.a s.l.length s.c), (1,.slice t.a t.l.length t.c), (5,vi (IntKind.i64.wrap ((u : Int) + 1)))] ?_ 3))
    have hyz : y = z := by obtain ⟨y1, y2, y3, y4⟩ := y; obtain ⟨z1, z2, z3, z4⟩ := z; simpa using h2
    refine Xp [(0,.slice s.a s.l.length s.c), (1,.slice t.a t.l.length t.c), (5,vi (IntKind.i64.wrap ((u : Int) + 1)))] ?_
    exact againG (k - 1) (u + 1) (by rw [hw]) rfl (by omega) ⟨by omega, by rw [ht, ht2, hsame, hyz]⟩
  ·skip
   have hu : u = s.l.length := by have := of_decide_eq_false h; omega
   rw [hu, List.take_length, hll, List.take_length] at hsame
   refine Xx 0 (thenX (thenX (leaveR (Xq (Xg 1 (Xe [(4,.bool true)] ?_ 1))))))
   refine Xv (Y0 (.bool true) (fun w hs => ?_))
   exact ⟨(), by rw [decide_eq_true hsame], hs⟩
end Go.Proofs.YtfhkgohokbkgiaaGreatDoor
set_option linter.unusedVariables false
set_option linter.unusedSimpArgs false
namespace Go.Proofs.YtfhkgohokbkgiaaGreatDoor
open Go.RowKit G
def rdA (q : BA) (x : Nat) : Nat → WS
 | 0 => wz q
 | i + 1 => act q (rdA q x i) i x 7 1 (IntKind.i64.wrap (i + 1))
def rdB (q : BA) (x y k : Nat) : Nat → WS
 | 0 => rdA q x k
 | i + 1 => act q (rdB q x y k i) (IntKind.i64.wrap (10 + i)) y 10 x 0
def rdC (q : BA) (x y k : Nat) : WS := act q (rdB q x y k (k + 1)) 30 x 10 x 0
theorem rdA_B (q : BA) (x : Nat) : ∀ i : Nat, WdB (rdA q x i) (2 + i)
 | 0 => wz_B q
 | i + 1 => (act_B (q := q) (rdA_B q x i) (by omega) i x 7 1 (IntKind.i64.wrap (i + 1))).mono (by omega)
theorem rdB_B (q : BA) (x y k : Nat) : ∀ i : Nat, WdB (rdB q x y k i) (2 + k + i)
 | 0 => (rdA_B q x k).mono (by omega)
 | i + 1 => (act_B (q := q) (rdB_B q x y k i) (by omega) (IntKind.i64.wrap (10 + i)) y 10 x 0).mono (by omega)
/-- The records that are kept of x. -/
def rdR (q : BA) (x k : Nat) : List Rec := (sdAt (rdA q x k) x).r.l
def rdOf (q : BA) (x y k i : Nat) : Int × Int × Int := if labLeq (labOf (bC q) x) (labOf (bC q) y) = true then (if i = k then (13, 0, 0) else (0, IntKind.i64.wrap ((i : Int) + 1), 700)) else (15, 0, 0)
def rdT (x y k : Nat) : Int × Int × Int := if x ≠ y ∧ 0 < k then (0, 1, 700) else (13, 0, 0)
def rdChk (q : BA) : Bool := allN 4 fun x => allN 4 fun y => allN 4 fun k => (allN (k + 1) fun i => says q (rdB q x y k i) (IntKind.i64.wrap (10 + (i : Int))) y 10 x 0 (rdOf q x y k i)) && says q (rdB q x y k (k + 1)) 30 x 10 x 0 (rdT x y k) && (rdR q x k == (sdAt (rdB q x y k (k + 1)) x).r.l) && (rdR q x k == (sdAt (rdC q x y k) x).r.l) && Nat.beq (rdR q x k).length k
theorem rdChk_ok (q : BA) : rdChk q = true := by kernel_rfl
theorem rd_all (q : BA) {x y k : Nat} (hx : x < 4) (hy : y < 4) (hk : k < 4) : (∀ i, i < k + 1 → wAct (bC q) (rdB q x y k i) (IntKind.i64.wrap (10 + (i : Int))) y 1 10 x 0 = ((rdOf q x y k i, true), rdB q x y k (i + 1))) ∧ wAct (bC q) (rdB q x y k (k + 1)) 30 x 1 10 x 0 = ((rdT x y k, true), rdC q x y k) ∧ (sdAt (rdB q x y k (k + 1)) x).r.l = rdR q x k ∧ (sdAt (rdC q x y k) x).r.l = rdR q x k ∧ (rdR q x k).length = k := by
 have h := allN_at (allN_at (allN_at (rdChk_ok q) hx) hy) hk
 simp only [Bool.and_eq_true] at h
 obtain ⟨⟨⟨⟨h1, h2⟩, h3⟩, h4⟩, h5⟩ := h
 exact ⟨fun i hi => says_is (allN_at h1 hi), says_is h2, (eq_of_beq h3).symm, (eq_of_beq h4).symm, Nat.eq_of_beq_eq_true h5⟩
set_option maxHeartbeats 1000000 in
set_option maxRecDepth 100000 in
theorem reads21 (H : List SP) (hE : EK H) (o b n : Int) (tw : Bool) (ho : 0 ≤ o ∧ o < 256) (hb : 0 ≤ b ∧ b < 256) (hn : 0 ≤ n ∧ n < 256) : ∀ w, Sat w H → Calls Tryz.prog 3 #[.int .u8 o, .int .u8 b, .int .u8 n, .bool tw] w (Ret (ι := Unit) (fun _ => .bool true) fun _ => H) := by
 have ho1 := tmod_range ho.1 (m := 4) (by omega)
 have hb1 := tmod_range hb.1 (m := 4) (by omega)
 have hn1 := tmod_range hn.1 (m := 4) (by omega)
 obtain ⟨x, hx⟩ : ∃ x : Nat, Int.tmod o 4 = (x : Int) := ⟨(Int.tmod o 4).toNat, by omega⟩
 obtain ⟨y, hy⟩ : ∃ x : Nat, Int.tmod b 4 = (x : Int) := ⟨(Int.tmod b 4).toNat, by omega⟩
 obtain ⟨c, hc⟩ : ∃ x : Nat, Int.tmod n 4 = (x : Int) := ⟨(Int.tmod n 4).toNat, by omega⟩
 have hx4 : x < 4 := by omega
 have hy4 : y < 4 := by omega
 have hc4 : c < 4 := by omega
 refine enterG (fn := Tryz.f3) 132 [.int .u8 o, .int .u8 b, .int .u8 n, .bool tw] Tryz.func3 (by kernel_rfl) (by kernel_rfl) (by kernel_rfl) ?_
 refine Xq (Xg 1 (Xe [(0,.int .u8 o), (1,.int .u8 b), (2,.int .u8 n), (3,.bool tw), (8,.bool false)] ?_ 1))
 refine Xq (Xq (Xg 2 (Xs (Xa (some 22) (fun _ => .bool true) (known21 _ hE)) (fun _ => ?_) 1)))
 refine Xe [(0,.int .u8 o), (1,.int .u8 b), (2,.int .u8 n), (3,.bool tw), (8,.bool false), (23,.bool false)] ?_ 1
 refine Xc false (fun h => by cases h) (fun _ => ?_)
 refine Xk (Xq (Xg 3 (Xs (Xa (some 24) (fun (q : BA) => .agg #[vi 8, vi 2, .slice (some ⟨q.ps, 0, none⟩) 2 2, .slice (some ⟨q.ds, 0, none⟩) 4 4]) (base_walk _)) (fun (q : BA) => ?_) 2)))
 obtain ⟨hr1, hr2, hr3, hr4, hr5⟩ := rd_all q hx4 hy4 hc4
 obtain ⟨dx, hdx, hlx⟩ := lab4 q hx4
 obtain ⟨dy, hdy, hly⟩ := lab4 q hy4
 refine Xs (Xn 26 [vi 0, vi 0, .slice none 0 0, .slice none 0 0] (some 9) (fun b => vp b)) (fun b1 => ?_) 1
 refine Xs (Xz [(0,vi 8), (1,vi 2), (2,.slice (some ⟨q.ps, 0, none⟩) 2 2), (3,.slice (some ⟨q.ds, 0, none⟩) 4 4)]) (fun _ => ?_) 0
 refine endR ?_
 refine Xq (Xg 8 (Xe [(9,vp b1), (2,.int .u8 n), (3,.bool tw), (8,.bool false), (10,vi (IntKind.i64.wrap (Int.tmod o 4))), (11,vi (IntKind.i64.wrap (Int.tmod b 4)))] ?_ 8))
 refine Xq (Xg 3 (Xl [(9,vp b1), (2,.int .u8 n), (3,.bool tw), (8,.bool false), (10,vi (IntKind.i64.wrap (Int.tmod o 4))), (11,vi (IntKind.i64.wrap (Int.tmod b 4))), (31,.agg #[vi 8, vi 2, .slice (some ⟨q.ps, 0, none⟩) 2 2, .slice (some ⟨q.ds, 0, none⟩) 4 4])] [(⟨b1, 0, none⟩, vi 8), (⟨b1, 1, none⟩, vi 2), (⟨b1, 2, none⟩, .slice (some ⟨q.ps, 0, none⟩) 2 2), (⟨b1, 3, none⟩, .slice (some ⟨q.ds, 0, none⟩) 4 4)] (hasC (ba 0) (hasC (ba 0) (hasC (ba 0) (hasC (ba 0) has0)))) ?_ 2 1))
 rw [show IntKind.i64.wrap (Int.tmod o 4) = (x : Int) by rw [w64 (by omega) (by omega)]; exact hx]
 rw [show IntKind.i64.wrap (Int.tmod b 4) = (y : Int) by rw [w64 (by omega) (by omega)]; exact hy]
 refine Xs (Xa (some 32) (fun (p : Nat × WP) => .pointer (some ⟨p.1, 0, none⟩)) (wnew_walk _ (bC q) (bKC q _).up (by show 4 ≤ 6; omega))) (fun (p : Nat × WP) => ?_) 1
 refine Xe [(9,vp b1), (2,.int .u8 n), (3,.bool tw), (8,.bool false), (10,vi x), (11,vi y), (12,.pointer (some ⟨p.1, 0, none⟩))] ?_ 1
 refine Xq (Xg 4 (Xe [(9,vp b1), (3,.bool tw), (8,.bool false), (10,vi x), (11,vi y), (12,.pointer (some ⟨p.1, 0, none⟩)), (13,vi (IntKind.i64.wrap (Int.tmod n 4)))] ?_ 4))
 refine Xq (Xq (Xg 1 (Xe [(9,vp b1), (3,.bool tw), (8,.bool false), (10,vi x), (11,vi y), (12,.pointer (some ⟨p.1, 0, none⟩)), (13,vi (IntKind.i64.wrap (Int.tmod n 4))), (14,vi 0)] ?_ 1)))
 refine Xb 0 ?_
 rw [show IntKind.i64.wrap (Int.tmod n 4) = (c : Int) by rw [w64 (by omega) (by omega)]; exact hc]
 refine Xp [(3,.bool tw), (8,.bool false), (9,vp b1), (10,vi x), (11,vi y), (12,.pointer (some ⟨p.1, 0, none⟩)), (13,vi c), (14,vi 0)] ?_
 refine loopG (fun (i : Nat) => [(3, .bool tw), (8, .bool false), (9, vp b1), (10, vi x), (11, vi y), (12, .pointer (some ⟨p.1, 0, none⟩)), (13, vi c), (14, vi i)]) (fun (i : Nat) => (wdS p.1 (bC q) p.2 (rdA q x i) :: blk b1 26 [vi 8, vi 2, .slice (some ⟨q.ps, 0, none⟩) 2 2, .slice (some ⟨q.ds, 0, none⟩) 4 4] :: bS q :: H)) (fun k (i : Nat) => k + i = c) c 0 (by kernel_rfl) (by omega) ?_
 rintro k0 i hki
 refine Xq (Xq (Xg 3 (Xe [(3,.bool tw), (8,.bool false), (9,vp b1), (10,vi x), (11,vi y), (12,.pointer (some ⟨p.1, 0, none⟩)), (13,vi c), (14,vi i), (38,.bool (decide ((i : Int) < (c : Int))))] ?_ 3)))
 refine Xc (decide ((i : Int) < (c : Int))) (fun h1 => ?_) (fun h1 => ?_)
 ·skip
  have hi : i < c := by have := of_decide_eq_true h1; omega
  refine Xk (Xq (Xb 1 (Xg 7 (Xr [(3,.bool tw), (8,.bool false), (9,vp b1), (10,vi x), (11,vi y), (12,.pointer (some ⟨p.1, 0, none⟩)), (13,vi c), (14,vi i), (41,.pointer (some ⟨p.1, 0, none⟩)), (42,vi i), (43,vi x), (46,.agg #[vi 7, vi 1, vi (IntKind.i64.wrap ((i : Int) + 1))])] ?_ 1 6))))
  refine Xs (Xa1 (some 47) (fun _ => ansV (wAct (bC q) (rdA q x i) i x 1 7 1 (IntKind.i64.wrap ((i : Int) + 1))).1) (fun _ => (wdS p.1 (bC q) p.2 (rdA q x (i + 1)) :: blk b1 26 [vi 8, vi 2, .slice (some ⟨q.ps, 0, none⟩) 2 2, .slice (some ⟨q.ds, 0, none⟩) 4 4] :: bS q :: H)) ((fun w hs => (bDoes _ p.1 q p.2 (rdA q x i) hE.up.up (bKC q H).up (2 + i) (rdA_B q x i) (by omega) (i : Int) x (by omega) 7 1 (IntKind.i64.wrap ((i : Int) + 1)) w hs).mono fun _ _ h => h))) (fun _ => ?_) 0
  refine endR ?_
  refine Xg 3 (Xe [(3,.bool tw), (8,.bool false), (9,vp b1), (10,vi x), (11,vi y), (12,.pointer (some ⟨p.1, 0, none⟩)), (13,vi c), (14,vi (IntKind.i64.wrap ((i : Int) + 1)))] ?_ 3)
  rw [show IntKind.i64.wrap ((i : Int) + 1) = ((i : Int) + 1) by rw [w64 (by omega) (by omega)]]
  refine Xp [(3,.bool tw), (8,.bool false), (9,vp b1), (10,vi x), (11,vi y), (12,.pointer (some ⟨p.1, 0, none⟩)), (13,vi c), (14,vi ((i : Int) + 1))] ?_
  exact againG (k0 - 1) (i + 1) rfl rfl (by omega) (by omega)
 ·skip
  have hi : c = i := by have := of_decide_eq_false h1; omega
  subst hi
  refine Xx 0 (thenX (thenX (leaveR (Xq (Xg 4 (Xr [(3,.bool tw), (8,.bool false), (9,vp b1), (10,vi x), (11,vi y), (12,.pointer (some ⟨p.1, 0, none⟩)), (13,vi c), (48,.pointer (some ⟨p.1, 0, none⟩)), (49,vi x)] ?_ 2 2))))))
  refine Xs (Xa (some 50) (fun (r : Option Addr × Nat) => .slice r.1 (rdR q x c).length r.2) ((by have h := wRecords_c (blk b1 26 [.int .i64 8, .int .i64 2, .slice (some ⟨q.ps, 0, none⟩) 2 2, .slice (some ⟨q.ds, 0, none⟩) 4 4] :: bS q :: H) p.1 (bC q) p.2 (rdA q x c) x (by show x < 4; omega); rw [show (sdAt (rdA q x c) x).r.l = rdR q x c from rfl] at h; exact h))) (fun (r : Option Addr × Nat) => ?_) 1
  refine Xe [(3,.bool tw), (8,.bool false), (9,vp b1), (10,vi x), (11,vi y), (12,.pointer (some ⟨p.1, 0, none⟩)), (13,vi c), (15,.slice r.1 ((rdR q x c).length) r.2)] ?_ 1
  refine Xq (Xq (Xg 1 (Xe [(3,.bool tw), (8,.bool false), (9,vp b1), (10,vi x), (11,vi y), (12,.pointer (some ⟨p.1, 0, none⟩)), (13,vi c), (15,.slice r.1 ((rdR q x c).length) r.2), (16,vi 0)] ?_ 1)))
  refine Xb 2 (Xp [(3,.bool tw), (9,vp b1), (10,vi x), (11,vi y), (12,.pointer (some ⟨p.1, 0, none⟩)), (13,vi c), (15,.slice r.1 ((rdR q x c).length) r.2), (16,vi 0)] ?_)
  refine loopG (fun (i : Nat) => [(3, .bool tw), (9, vp b1), (10, vi x), (11, vi y), (12, .pointer (some ⟨p.1, 0, none⟩)), (13, vi c), (15, .slice r.1 ((rdR q x c).length) r.2), (16, vi i)]) (fun (i : Nat) => (row reE 48 (.slice r.1 (rdR q x c).length r.2) (rdR q x c) :: wdS p.1 (bC q) p.2 (rdB q x y c i) :: blk b1 26 [vi 8, vi 2, .slice (some ⟨q.ps, 0, none⟩) 2 2, .slice (some ⟨q.ds, 0, none⟩) 4 4] :: bS q :: H)) (fun k (i : Nat) => k + i = c + 1) (c + 1) 0 (by kernel_rfl) (by omega) ?_
  rintro k1 i hki1
  refine Xq (Xq (Xg 3 (Xe [(3,.bool tw), (9,vp b1), (10,vi x), (11,vi y), (12,.pointer (some ⟨p.1, 0, none⟩)), (13,vi c), (15,.slice r.1 ((rdR q x c).length) r.2), (16,vi i), (53,.bool (decide ((i : Int) ≤ (c : Int))))] ?_ 3)))
  refine Xc (decide ((i : Int) ≤ (c : Int))) (fun h2 => ?_) (fun h2 => ?_)
  ·skip
   have hi : i < c + 1 := by have := of_decide_eq_true h2; omega
   have hri := hr1 i hi
   rw [rdOf, hlx, hly] at hri
   refine Xk (Xq (Xb 3 (Xq (Xg 13 (Xr [(3,.bool tw), (9,vp b1), (10,vi x), (11,vi y), (12,.pointer (some ⟨p.1, 0, none⟩)), (13,vi c), (15,.slice r.1 ((rdR q x c).length) r.2), (16,vi i), (57,.pointer (some ⟨p.1, 0, none⟩)), (59,vi (IntKind.i64.wrap (10 + (i : Int)))), (60,vi y), (62,.agg #[vi 10, vi x, vi 0])] ?_ 7 6)))))
   rcases Bool.eq_false_or_eq_true (labLeq dx.lab dy.lab) with hll | hll
   ·skip
    rw [if_pos hll] at hri
    by_cases hic : c = i
    ·skip
     rw [if_pos hic.symm] at hri
     subst hic
     refine Xs (Xa (some 63) (fun _ => .tuple #[.agg #[vi 13, vi 0, vi 0], .bool true]) (chg_at 1 rfl (bAct _ p.1 q p.2 (rdB q x y c c) hE.up.up.up (bKC q H).up.up (2 + c + c) (rdB_B q x y c c) (by omega) (IntKind.i64.wrap (10 + (c : Int))) y (by omega) 1 10 x 0 hri))) (fun _ => ?_) 6
     refine Xr [(3,.bool tw), (9,vp b1), (10,vi x), (11,vi y), (12,.pointer (some ⟨p.1, 0, none⟩)), (13,vi c), (15,.slice r.1 ((rdR q x c).length) r.2), (16,vi c), (64,.agg #[vi 13, vi 0, vi 0]), (65,.bool true)] ?_ 3 3
     refine Xs (Xn 31 [vi 0, vi 0, vi 0] (some 17) (fun b => vp b)) (fun b2 => ?_) 2
     refine Xs (Xz [(0,vi 13), (1,vi 0), (2,vi 0)]) (fun _ => ?_) 1
     refine Xe [(17,vp b2), (3,.bool tw), (9,vp b1), (10,vi x), (11,vi y), (12,.pointer (some ⟨p.1, 0, none⟩)), (13,vi c), (15,.slice r.1 ((rdR q x c).length) r.2), (16,vi c), (18,.bool true)] ?_ 1
     refine Xb 4 (Xq (Xg 3 (Xe [(17,vp b2), (3,.bool tw), (9,vp b1), (10,vi x), (11,vi y), (12,.pointer (some ⟨p.1, 0, none⟩)), (13,vi c), (15,.slice r.1 ((rdR q x c).length) r.2), (16,vi c), (66,.bool false)] ?_ 3)))
     refine Xc false (fun h => by cases h) (fun _ => ?_)
     refine Xq (Xy0 0 [] 15 ?_)
     refine Xt [0, 1, 2, 6, 7, 8] [(17,vp b2), (3,.bool tw), (9,vp b1), (10,vi x), (11,vi y), (12,.pointer (some ⟨p.1, 0, none⟩)), (13,vi c), (15,.slice r.1 ((rdR q x c).length) r.2), (16,vi c), (71,.slice (some ⟨q.ds, 0, none⟩) 4 4), (72,vi x), (77,.slice (some ⟨q.ds, 0, none⟩) 4 4), (78,vi y)] [(⟨b1, 3, none⟩, .slice (some ⟨q.ds, 0, none⟩) 4 4), (⟨b1, 3, none⟩, .slice (some ⟨q.ds, 0, none⟩) 4 4)] (hasC (ba 3) (hasC (ba 3) has0)) ?_
     refine Xu 3 (Xi 24 (.tmp 71) (.tmp 72) q.ds 0 4 4 x 10 44 (x : Int) 73 Tryz.underlying24) ?_
     refine Xt [4, 5] [(17,vp b2), (3,.bool tw), (9,vp b1), (10,vi x), (11,vi y), (12,.pointer (some ⟨p.1, 0, none⟩)), (13,vi c), (15,.slice r.1 ((rdR q x c).length) r.2), (16,vi c), (77,.slice (some ⟨q.ds, 0, none⟩) 4 4), (78,vi y), (75,.agg #[vi dx.lab.level, .int .u64 dx.lab.cats])] [(⟨q.ds, 0 + x * 10, none⟩, vi dx.lab.level), (⟨q.ds, 0 + x * 10 + 1, none⟩, .int .u64 dx.lab.cats)] (hasC (up (((bKC q H).up.up.up).domains.cell rfl (i := x) (x := dx) hdx (j := 0) rfl)) (hasC (up (((bKC q H).up.up.up).domains.cell rfl (i := x) (x := dx) hdx (j := 1) rfl)) has0)) ?_
     refine Xu 9 (Xi 24 (.tmp 77) (.tmp 78) q.ds 0 4 4 y 10 44 (y : Int) 79 Tryz.underlying24) ?_
     refine Xt [10, 11] [(17,vp b2), (3,.bool tw), (9,vp b1), (10,vi x), (11,vi y), (12,.pointer (some ⟨p.1, 0, none⟩)), (13,vi c), (15,.slice r.1 ((rdR q x c).length) r.2), (16,vi c), (75,.agg #[vi dx.lab.level, .int .u64 dx.lab.cats]), (81,.agg #[vi dy.lab.level, .int .u64 dy.lab.cats])] [(⟨q.ds, 0 + y * 10, none⟩, vi dy.lab.level), (⟨q.ds, 0 + y * 10 + 1, none⟩, .int .u64 dy.lab.cats)] (hasC (up (((bKC q H).up.up.up).domains.cell rfl (i := y) (x := dy) hdy (j := 0) rfl)) (hasC (up (((bKC q H).up.up.up).domains.cell rfl (i := y) (x := dy) hdy (j := 1) rfl)) has0)) ?_
     refine Xo 12 (Xa (some 82) (fun _ => .bool (labLeq dx.lab dy.lab)) (rlabLeq_walk _ dx.lab dy.lab)) (fun _ => ?_)
     refine Xt [13, 14] [(17,vp b2), (3,.bool tw), (9,vp b1), (10,vi x), (11,vi y), (12,.pointer (some ⟨p.1, 0, none⟩)), (13,vi c), (15,.slice r.1 ((rdR q x c).length) r.2), (16,vi c), (69,.bool (!(labLeq dx.lab dy.lab)))] [] has0 ?_
     refine Xd ?_
     rw [show (labLeq dx.lab dy.lab) = true from hll]
     refine Xc false (fun h => by cases h) (fun _ => ?_)
     refine Xq (Xg 4 (Xe [(17,vp b2), (3,.bool tw), (9,vp b1), (10,vi x), (11,vi y), (12,.pointer (some ⟨p.1, 0, none⟩)), (13,vi c), (15,.slice r.1 ((rdR q x c).length) r.2), (16,vi c), (87,.bool ((c : Int) == (c : Int)))] ?_ 4))
     rw [show ((c : Int) == (c : Int)) = true from by simp]
     refine Xc true (fun _ => ?_) (fun h => by cases h)
     refine Xq (Xg 3 (Xl [(3,.bool tw), (9,vp b1), (10,vi x), (11,vi y), (12,.pointer (some ⟨p.1, 0, none⟩)), (13,vi c), (15,.slice r.1 ((rdR q x c).length) r.2), (16,vi c), (91,.agg #[vi 13, vi 0, vi 0]), (92,.agg #[vi 13, vi 0, vi 0])] [(⟨b2, 0, none⟩, vi 13), (⟨b2, 1, none⟩, vi 0), (⟨b2, 2, none⟩, vi 0)] (hasC (ba 0) (hasC (ba 0) (hasC (ba 0) has0))) ?_ 1 2))
     refine Xs (yldS (eqY1 31 31 (.tmp 91) (.tmp 92) [.int .i64 13, .int .i64 0, .int .i64 0] [.int .i64 13, .int .i64 0, .int .i64 0] true 93)) (fun _ => ?_) 0
     refine endR ?_
     refine Xc false (fun h => by cases h) (fun _ => ?_)
     refine Xk (Xg 3 (Xe [(3,.bool tw), (9,vp b1), (10,vi x), (11,vi y), (12,.pointer (some ⟨p.1, 0, none⟩)), (13,vi c), (15,.slice r.1 ((rdR q x c).length) r.2), (16,vi (IntKind.i64.wrap ((c : Int) + 1)))] ?_ 3))
     rw [show IntKind.i64.wrap ((c : Int) + 1) = ((c : Int) + 1) by rw [w64 (by omega) (by omega)]]
     refine PT.drop ?_
     refine Xp [(3,.bool tw), (9,vp b1), (10,vi x), (11,vi y), (12,.pointer (some ⟨p.1, 0, none⟩)), (13,vi c), (15,.slice r.1 ((rdR q x c).length) r.2), (16,vi ((c : Int) + 1))] ?_
     exact againG (k1 - 1) (c + 1) rfl rfl (by omega) (by omega)
    ·skip
     rw [if_neg (Ne.symm hic)] at hri
     refine Xs (Xa (some 63) (fun _ => .tuple #[.agg #[vi 0, vi (IntKind.i64.wrap ((i : Int) + 1)), vi 700], .bool true]) (chg_at 1 rfl (bAct _ p.1 q p.2 (rdB q x y c i) hE.up.up.up (bKC q H).up.up (2 + c + i) (rdB_B q x y c i) (by omega) (IntKind.i64.wrap (10 + (i : Int))) y (by omega) 1 10 x 0 hri))) (fun _ => ?_) 6
     refine Xr [(3,.bool tw), (9,vp b1), (10,vi x), (11,vi y), (12,.pointer (some ⟨p.1, 0, none⟩)), (13,vi c), (15,.slice r.1 ((rdR q x c).length) r.2), (16,vi i), (64,.agg #[vi 0, vi (IntKind.i64.wrap ((i : Int) + 1)), vi 700]), (65,.bool true)] ?_ 3 3
     refine Xs (Xn 31 [vi 0, vi 0, vi 0] (some 17) (fun b => vp b)) (fun b2 => ?_) 2
     refine Xs (Xz [(0,vi 0), (1,vi (IntKind.i64.wrap ((i : Int) + 1))), (2,vi 700)]) (fun _ => ?_) 1
     refine Xe [(17,vp b2), (3,.bool tw), (9,vp b1), (10,vi x), (11,vi y), (12,.pointer (some ⟨p.1, 0, none⟩)), (13,vi c), (15,.slice r.1 ((rdR q x c).length) r.2), (16,vi i), (18,.bool true)] ?_ 1
     refine Xb 4 (Xq (Xg 3 (Xe [(17,vp b2), (3,.bool tw), (9,vp b1), (10,vi x), (11,vi y), (12,.pointer (some ⟨p.1, 0, none⟩)), (13,vi c), (15,.slice r.1 ((rdR q x c).length) r.2), (16,vi i), (66,.bool false)] ?_ 3)))
     refine Xc false (fun h => by cases h) (fun _ => ?_)
     refine Xq (Xy0 0 [] 15 ?_)
     refine Xt [0, 1, 2, 6, 7, 8] [(17,vp b2), (3,.bool tw), (9,vp b1), (10,vi x), (11,vi y), (12,.pointer (some ⟨p.1, 0, none⟩)), (13,vi c), (15,.slice r.1 ((rdR q x c).length) r.2), (16,vi i), (71,.slice (some ⟨q.ds, 0, none⟩) 4 4), (72,vi x), (77,.slice (some ⟨q.ds, 0, none⟩) 4 4), (78,vi y)] [(⟨b1, 3, none⟩, .slice (some ⟨q.ds, 0, none⟩) 4 4), (⟨b1, 3, none⟩, .slice (some ⟨q.ds, 0, none⟩) 4 4)] (hasC (ba 3) (hasC (ba 3) has0)) ?_
     refine Xu 3 (Xi 24 (.tmp 71) (.tmp 72) q.ds 0 4 4 x 10 44 (x : Int) 73 Tryz.underlying24) ?_
     refine Xt [4, 5] [(17,vp b2), (3,.bool tw), (9,vp b1), (10,vi x), (11,vi y), (12,.pointer (some ⟨p.1, 0, none⟩)), (13,vi c), (15,.slice r.1 ((rdR q x c).length) r.2), (16,vi i), (77,.slice (some ⟨q.ds, 0, none⟩) 4 4), (78,vi y), (75,.agg #[vi dx.lab.level, .int .u64 dx.lab.cats])] [(⟨q.ds, 0 + x * 10, none⟩, vi dx.lab.level), (⟨q.ds, 0 + x * 10 + 1, none⟩, .int .u64 dx.lab.cats)] (hasC (up (((bKC q H).up.up.up).domains.cell rfl (i := x) (x := dx) hdx (j := 0) rfl)) (hasC (up (((bKC q H).up.up.up).domains.cell rfl (i := x) (x := dx) hdx (j := 1) rfl)) has0)) ?_
     refine Xu 9 (Xi 24 (.tmp 77) (.tmp 78) q.ds 0 4 4 y 10 44 (y : Int) 79 Tryz.underlying24) ?_
     refine Xt [10, 11] [(17,vp b2), (3,.bool tw), (9,vp b1), (10,vi x), (11,vi y), (12,.pointer (some ⟨p.1, 0, none⟩)), (13,vi c), (15,.slice r.1 ((rdR q x c).length) r.2), (16,vi i), (75,.agg #[vi dx.lab.level, .int .u64 dx.lab.cats]), (81,.agg #[vi dy.lab.level, .int .u64 dy.lab.cats])] [(⟨q.ds, 0 + y * 10, none⟩, vi dy.lab.level), (⟨q.ds, 0 + y * 10 + 1, none⟩, .int .u64 dy.lab.cats)] (hasC (up (((bKC q H).up.up.up).domains.cell rfl (i := y) (x := dy) hdy (j := 0) rfl)) (hasC (up (((bKC q H).up.up.up).domains.cell rfl (i := y) (x := dy) hdy (j := 1) rfl)) has0)) ?_
     refine Xo 12 (Xa (some 82) (fun _ => .bool (labLeq dx.lab dy.lab)) (rlabLeq_walk _ dx.lab dy.lab)) (fun _ => ?_)
     refine Xt [13, 14] [(17,vp b2), (3,.bool tw), (9,vp b1), (10,vi x), (11,vi y), (12,.pointer (some ⟨p.1, 0, none⟩)), (13,vi c), (15,.slice r.1 ((rdR q x c).length) r.2), (16,vi i), (69,.bool (!(labLeq dx.lab dy.lab)))] [] has0 ?_
     refine Xd ?_
     rw [show (labLeq dx.lab dy.lab) = true from hll]
     refine Xc false (fun h => by cases h) (fun _ => ?_)
     refine Xq (Xg 4 (Xe [(17,vp b2), (3,.bool tw), (9,vp b1), (10,vi x), (11,vi y), (12,.pointer (some ⟨p.1, 0, none⟩)), (13,vi c), (15,.slice r.1 ((rdR q x c).length) r.2), (16,vi i), (87,.bool ((i : Int) == (c : Int)))] ?_ 4))
     rw [show ((i : Int) == (c : Int)) = false from by simp; omega]
     refine Xc false (fun h => by cases h) (fun _ => ?_)
     refine Xq (Xg 6 (Xl [(3,.bool tw), (9,vp b1), (10,vi x), (11,vi y), (12,.pointer (some ⟨p.1, 0, none⟩)), (13,vi c), (15,.slice r.1 ((rdR q x c).length) r.2), (16,vi i), (95,.agg #[vi 0, vi (IntKind.i64.wrap ((i : Int) + 1)), vi 700]), (98,.agg #[vi 0, vi (IntKind.i64.wrap ((i : Int) + 1)), vi 700])] [(⟨b2, 0, none⟩, vi 0), (⟨b2, 1, none⟩, vi (IntKind.i64.wrap ((i : Int) + 1))), (⟨b2, 2, none⟩, vi 700)] (hasC (ba 0) (hasC (ba 0) (hasC (ba 0) has0))) ?_ 2 4))
     refine Xs (yldS (eqY1 31 31 (.tmp 95) (.tmp 98) [.int .i64 0, .int .i64 (IntKind.i64.wrap ((i : Int) + 1)), .int .i64 700] [.int .i64 0, .int .i64 (IntKind.i64.wrap ((i : Int) + 1)), .int .i64 700] true 99 (hb := by simp [eqCs, eqC]))) (fun _ => ?_) 1
     refine Xe [(3,.bool tw), (9,vp b1), (10,vi x), (11,vi y), (12,.pointer (some ⟨p.1, 0, none⟩)), (13,vi c), (15,.slice r.1 ((rdR q x c).length) r.2), (16,vi i), (94,.bool false)] ?_ 1
     refine Xc false (fun h => by cases h) (fun _ => ?_)
     refine Xk (Xg 3 (Xe [(3,.bool tw), (9,vp b1), (10,vi x), (11,vi y), (12,.pointer (some ⟨p.1, 0, none⟩)), (13,vi c), (15,.slice r.1 ((rdR q x c).length) r.2), (16,vi (IntKind.i64.wrap ((i : Int) + 1)))] ?_ 3))
     rw [show IntKind.i64.wrap ((i : Int) + 1) = ((i : Int) + 1) by rw [w64 (by omega) (by omega)]]
     refine PT.drop ?_
     refine Xp [(3,.bool tw), (9,vp b1), (10,vi x), (11,vi y), (12,.pointer (some ⟨p.1, 0, none⟩)), (13,vi c), (15,.slice r.1 ((rdR q x c).length) r.2), (16,vi ((i : Int) + 1))] ?_
     exact againG (k1 - 1) (i + 1) rfl rfl (by omega) (by omega)
   ·skip
    rw [if_neg (by rw [hll]; simp)] at hri
    refine Xs (Xa (some 63) (fun _ => .tuple #[.agg #[vi 15, vi 0, vi 0], .bool true]) (chg_at 1 rfl (bAct _ p.1 q p.2 (rdB q x y c i) hE.up.up.up (bKC q H).up.up (2 + c + i) (rdB_B q x y c i) (by omega) (IntKind.i64.wrap (10 + (i : Int))) y (by omega) 1 10 x 0 hri))) (fun _ => ?_) 6
    refine Xr [(3,.bool tw), (9,vp b1), (10,vi x), (11,vi y), (12,.pointer (some ⟨p.1, 0, none⟩)), (13,vi c), (15,.slice r.1 ((rdR q x c).length) r.2), (16,vi i), (64,.agg #[vi 15, vi 0, vi 0]), (65,.bool true)] ?_ 3 3
    refine Xs (Xn 31 [vi 0, vi 0, vi 0] (some 17) (fun b => vp b)) (fun b2 => ?_) 2
    refine Xs (Xz [(0,vi 15), (1,vi 0), (2,vi 0)]) (fun _ => ?_) 1
    refine Xe [(17,vp b2), (3,.bool tw), (9,vp b1), (10,vi x), (11,vi y), (12,.pointer (some ⟨p.1, 0, none⟩)), (13,vi c), (15,.slice r.1 ((rdR q x c).length) r.2), (16,vi i), (18,.bool true)] ?_ 1
    refine Xb 4 (Xq (Xg 3 (Xe [(17,vp b2), (3,.bool tw), (9,vp b1), (10,vi x), (11,vi y), (12,.pointer (some ⟨p.1, 0, none⟩)), (13,vi c), (15,.slice r.1 ((rdR q x c).length) r.2), (16,vi i), (66,.bool false)] ?_ 3)))
    refine Xc false (fun h => by cases h) (fun _ => ?_)
    refine Xq (Xy0 0 [] 15 ?_)
    refine Xt [0, 1, 2, 6, 7, 8] [(17,vp b2), (3,.bool tw), (9,vp b1), (10,vi x), (11,vi y), (12,.pointer (some ⟨p.1, 0, none⟩)), (13,vi c), (15,.slice r.1 ((rdR q x c).length) r.2), (16,vi i), (71,.slice (some ⟨q.ds, 0, none⟩) 4 4), (72,vi x), (77,.slice (some ⟨q.ds, 0, none⟩) 4 4), (78,vi y)] [(⟨b1, 3, none⟩, .slice (some ⟨q.ds, 0, none⟩) 4 4), (⟨b1, 3, none⟩, .slice (some ⟨q.ds, 0, none⟩) 4 4)] (hasC (ba 3) (hasC (ba 3) has0)) ?_
    refine Xu 3 (Xi 24 (.tmp 71) (.tmp 72) q.ds 0 4 4 x 10 44 (x : Int) 73 Tryz.underlying24) ?_
    refine Xt [4, 5] [(17,vp b2), (3,.bool tw), (9,vp b1), (10,vi x), (11,vi y), (12,.pointer (some ⟨p.1, 0, none⟩)), (13,vi c), (15,.slice r.1 ((rdR q x c).length) r.2), (16,vi i), (77,.slice (some ⟨q.ds, 0, none⟩) 4 4), (78,vi y), (75,.agg #[vi dx.lab.level, .int .u64 dx.lab.cats])] [(⟨q.ds, 0 + x * 10, none⟩, vi dx.lab.level), (⟨q.ds, 0 + x * 10 + 1, none⟩, .int .u64 dx.lab.cats)] (hasC (up (((bKC q H).up.up.up).domains.cell rfl (i := x) (x := dx) hdx (j := 0) rfl)) (hasC (up (((bKC q H).up.up.up).domains.cell rfl (i := x) (x := dx) hdx (j := 1) rfl)) has0)) ?_
    refine Xu 9 (Xi 24 (.tmp 77) (.tmp 78) q.ds 0 4 4 y 10 44 (y : Int) 79 Tryz.underlying24) ?_
    refine Xt [10, 11] [(17,vp b2), (3,.bool tw), (9,vp b1), (10,vi x), (11,vi y), (12,.pointer (some ⟨p.1, 0, none⟩)), (13,vi c), (15,.slice r.1 ((rdR q x c).length) r.2), (16,vi i), (75,.agg #[vi dx.lab.level, .int .u64 dx.lab.cats]), (81,.agg #[vi dy.lab.level, .int .u64 dy.lab.cats])] [(⟨q.ds, 0 + y * 10, none⟩, vi dy.lab.level), (⟨q.ds, 0 + y * 10 + 1, none⟩, .int .u64 dy.lab.cats)] (hasC (up (((bKC q H).up.up.up).domains.cell rfl (i := y) (x := dy) hdy (j := 0) rfl)) (hasC (up (((bKC q H).up.up.up).domains.cell rfl (i := y) (x := dy) hdy (j := 1) rfl)) has0)) ?_
    refine Xo 12 (Xa (some 82) (fun _ => .bool (labLeq dx.lab dy.lab)) (rlabLeq_walk _ dx.lab dy.lab)) (fun _ => ?_)
    refine Xt [13, 14] [(17,vp b2), (3,.bool tw), (9,vp b1), (10,vi x), (11,vi y), (12,.pointer (some ⟨p.1, 0, none⟩)), (13,vi c), (15,.slice r.1 ((rdR q x c).length) r.2), (16,vi i), (69,.bool (!(labLeq dx.lab dy.lab)))] [] has0 ?_
    refine Xd ?_
    rw [show (labLeq dx.lab dy.lab) = false from hll]
    refine Xc true (fun _ => ?_) (fun h => by cases h)
    refine Xq (Xg 3 (Xl [(3,.bool tw), (9,vp b1), (10,vi x), (11,vi y), (12,.pointer (some ⟨p.1, 0, none⟩)), (13,vi c), (15,.slice r.1 ((rdR q x c).length) r.2), (16,vi i), (84,.agg #[vi 15, vi 0, vi 0]), (85,.agg #[vi 15, vi 0, vi 0])] [(⟨b2, 0, none⟩, vi 15), (⟨b2, 1, none⟩, vi 0), (⟨b2, 2, none⟩, vi 0)] (hasC (ba 0) (hasC (ba 0) (hasC (ba 0) has0))) ?_ 1 2))
    refine Xs (yldS (eqY1 31 31 (.tmp 84) (.tmp 85) [.int .i64 15, .int .i64 0, .int .i64 0] [.int .i64 15, .int .i64 0, .int .i64 0] true 86)) (fun _ => ?_) 0
    refine endR ?_
    refine Xc false (fun h => by cases h) (fun _ => ?_)
    refine Xk (Xg 3 (Xe [(3,.bool tw), (9,vp b1), (10,vi x), (11,vi y), (12,.pointer (some ⟨p.1, 0, none⟩)), (13,vi c), (15,.slice r.1 ((rdR q x c).length) r.2), (16,vi (IntKind.i64.wrap ((i : Int) + 1)))] ?_ 3))
    rw [show IntKind.i64.wrap ((i : Int) + 1) = ((i : Int) + 1) by rw [w64 (by omega) (by omega)]]
    refine PT.drop ?_
    refine Xp [(3,.bool tw), (9,vp b1), (10,vi x), (11,vi y), (12,.pointer (some ⟨p.1, 0, none⟩)), (13,vi c), (15,.slice r.1 ((rdR q x c).length) r.2), (16,vi ((i : Int) + 1))] ?_
    exact againG (k1 - 1) (i + 1) rfl rfl (by omega) (by omega)
  ·skip
   have hi : c + 1 = i := by have := of_decide_eq_false h2; omega
   subst hi
   refine Xx 2 (thenX (thenX (leaveR (Xq (Xq (Xg 1 (Xe [(10,vi x), (11,vi y), (12,.pointer (some ⟨p.1, 0, none⟩)), (13,vi c), (15,.slice r.1 ((rdR q x c).length) r.2), (100,.bool tw)] ?_ 1)))))))
   cases htw : (tw) with
   | true =>
    refine Xc true (fun _ => ?_) (fun h => by cases h)
    refine Xq (Xg 11 (Xr [(10,vi x), (11,vi y), (12,.pointer (some ⟨p.1, 0, none⟩)), (13,vi c), (15,.slice r.1 ((rdR q x c).length) r.2), (102,.pointer (some ⟨p.1, 0, none⟩)), (103,vi x), (105,.agg #[vi 10, vi x, vi 0])] ?_ 7 4))
    by_cases hT : x ≠ y ∧ 0 < c
    ·skip
     rw [rdT, if_pos hT] at hr2
     refine Xs (Xa (some 106) (fun _ => .tuple #[.agg #[vi 0, vi 1, vi 700], .bool true]) (chg_at 1 rfl (bAct _ p.1 q p.2 (rdB q x y c (c + 1)) hE.up.up.up (bKC q H).up.up (2 + c + (c + 1 : Nat)) (rdB_B q x y c (c + 1)) (by omega) 30 x (by omega) 1 10 x 0 hr2))) (fun _ => ?_) 6
     refine Xr [(10,vi x), (11,vi y), (12,.pointer (some ⟨p.1, 0, none⟩)), (13,vi c), (15,.slice r.1 ((rdR q x c).length) r.2), (107,.agg #[vi 0, vi 1, vi 700]), (108,.bool true)] ?_ 3 3
     refine Xs (Xn 31 [vi 0, vi 0, vi 0] (some 19) (fun b => vp b)) (fun b2 => ?_) 2
     refine Xs (Xz [(0,vi 0), (1,vi 1), (2,vi 700)]) (fun _ => ?_) 1
     refine Xe [(19,vp b2), (10,vi x), (11,vi y), (12,.pointer (some ⟨p.1, 0, none⟩)), (13,vi c), (15,.slice r.1 ((rdR q x c).length) r.2)] ?_ 1
     refine Xq (Xg 3 (Xr [(19,vp b2), (10,vi x), (11,vi y), (12,.pointer (some ⟨p.1, 0, none⟩)), (13,vi c), (15,.slice r.1 ((rdR q x c).length) r.2), (109,.agg #[vi 13, vi 0, vi 0])] ?_ 2 1))
     refine Xs (Xn 31 [vi 0, vi 0, vi 0] (some 21) (fun b => vp b)) (fun b3 => ?_) 1
     refine Xs (Xz [(0,vi 13), (1,vi 0), (2,vi 0)]) (fun _ => ?_) 0
     refine endR ?_
     refine Xq (Xq (Xg 7 (Xr [(21,vp b3), (19,vp b2), (10,vi x), (12,.pointer (some ⟨p.1, 0, none⟩)), (13,vi c), (15,.slice r.1 ((rdR q x c).length) r.2), (113,.bool ((x : Int) != (y : Int)))] ?_ 3 4)))
     refine (Xs0 0 3 [(21,vp b3), (19,vp b2), (10,vi x), (12,.pointer (some ⟨p.1, 0, none⟩)), (13,vi c), (15,.slice r.1 ((rdR q x c).length) r.2), (116,.bool (((x : Int) != (y : Int)) && (decide ((c : Int) > 0))))] ?_ ?_ : RT _ _ _ _ _ _ 3 _)
     ·cases hg4 : ((x : Int) != (y : Int)) with
      | true =>
       refine Xe [(21,vp b3), (19,vp b2), (10,vi x), (12,.pointer (some ⟨p.1, 0, none⟩)), (13,vi c), (15,.slice r.1 ((rdR q x c).length) r.2), (116,.bool (decide ((c : Int) > 0)))] ?_ 3
       refine Xp [(21,vp b3), (19,vp b2), (10,vi x), (12,.pointer (some ⟨p.1, 0, none⟩)), (13,vi c), (15,.slice r.1 ((rdR q x c).length) r.2), (116,.bool (true && (decide ((c : Int) > 0))))] ?_
       exact midR () rfl rfl
      | false =>
       refine Xe [(21,vp b3), (19,vp b2), (10,vi x), (12,.pointer (some ⟨p.1, 0, none⟩)), (13,vi c), (15,.slice r.1 ((rdR q x c).length) r.2), (116,.bool false)] ?_ 3
       refine Xp [(21,vp b3), (19,vp b2), (10,vi x), (12,.pointer (some ⟨p.1, 0, none⟩)), (13,vi c), (15,.slice r.1 ((rdR q x c).length) r.2), (116,.bool (false && (decide ((c : Int) > 0))))] ?_
       exact midR () rfl rfl
     refine endR ?_
     rw [show (((x : Int) != (y : Int)) && (decide ((c : Int) > 0))) = true from by simp; omega]
     refine Xc true (fun _ => ?_) (fun h => by cases h)
     refine Xg 2 (Xr [(21,vp b3), (19,vp b2), (10,vi x), (12,.pointer (some ⟨p.1, 0, none⟩)), (13,vi c), (15,.slice r.1 ((rdR q x c).length) r.2), (117,.agg #[vi 0, vi 1, vi 700])] ?_ 1 1)
     refine Xs (Xz [(0,vi 0), (1,vi 1), (2,vi 700)]) (fun _ => ?_) 0
     refine endR ?_
     refine Xq (Xg 3 (Xl [(10,vi x), (12,.pointer (some ⟨p.1, 0, none⟩)), (13,vi c), (15,.slice r.1 ((rdR q x c).length) r.2), (118,.agg #[vi 0, vi 1, vi 700]), (119,.agg #[vi 0, vi 1, vi 700])] [(⟨b2, 0, none⟩, vi 0), (⟨b2, 1, none⟩, vi 1), (⟨b2, 2, none⟩, vi 700), (⟨b3, 0, none⟩, vi 0), (⟨b3, 1, none⟩, vi 1), (⟨b3, 2, none⟩, vi 700)] (hasC (ba 1) (hasC (ba 1) (hasC (ba 1) (hasC (ba 0) (hasC (ba 0) (hasC (ba 0) has0)))))) ?_ 1 2))
     refine Xs (yldS (eqY1 31 31 (.tmp 118) (.tmp 119) [.int .i64 0, .int .i64 1, .int .i64 700] [.int .i64 0, .int .i64 1, .int .i64 700] true 120)) (fun _ => ?_) 0
     refine endR ?_
     refine Xc false (fun h => by cases h) (fun _ => ?_)
     refine Xk (Xq (Xg 12 (Xr [(13,vi c), (15,.slice r.1 ((rdR q x c).length) r.2), (121,.slice r.1 ((rdR q x c).length) r.2), (122,.pointer (some ⟨p.1, 0, none⟩)), (123,vi x)] ?_ 9 3)))
     refine Xs (Xa (some 124) (fun (s : Option Addr × Nat) => .slice s.1 (rdR q x c).length s.2) ((by have h := new_at (H := (blk b3 31 [.int .i64 0, .int .i64 1, .int .i64 700] :: blk b2 31 [.int .i64 0, .int .i64 1, .int .i64 700] :: row reE 48 (.slice r.1 (rdR q x c).length r.2) (rdR q x c) :: wdS p.1 (bC q) p.2 (rdC q x y c) :: blk b1 26 [.int .i64 8, .int .i64 2, .slice (some ⟨q.ps, 0, none⟩) 2 2, .slice (some ⟨q.ds, 0, none⟩) 4 4] :: bS q :: H)) 3 rfl (wRecords_c _ p.1 (bC q) p.2 (rdC q x y c) x (by show x < 4; omega)); rw [hr4] at h; exact h))) (fun (s : Option Addr × Nat) => ?_) 8
     refine Xs (Xa (some 125) (fun _ => .bool (decide (rdR q x c = rdR q x c))) (sameRecs_walk _ ⟨r.1, r.2, rdR q x c⟩ ⟨s.1, s.2, rdR q x c⟩ (rowKRat 3 rfl) (rowKRat 0 rfl) (by show (rdR q x c).length < 1000000000; omega) (by show (rdR q x c).length < 1000000000; omega))) (fun _ => ?_) 7
     refine Xr [(13,vi c), (15,.slice r.1 ((rdR q x c).length) r.2), (126,.bool (decide (rdR q x c = rdR q x c)))] ?_ 6 1
     refine (Xs0 1 5 [(131,.bool ((decide (rdR q x c = rdR q x c)) && (((rdR q x c).length : Int) == (c : Int))))] ?_ ?_ : RT _ _ _ _ _ _ 6 _)
     ·cases hg6 : (decide (rdR q x c = rdR q x c)) with
      | true =>
       refine Xe [(131,.bool (((rdR q x c).length : Int) == (c : Int)))] ?_ 5
       refine Xp [(131,.bool (true && (((rdR q x c).length : Int) == (c : Int))))] ?_
       exact midR () rfl rfl
      | false =>
       refine Xe [(131,.bool false)] ?_ 5
       refine Xp [(131,.bool (false && (((rdR q x c).length : Int) == (c : Int))))] ?_
       exact midR () rfl rfl
     refine Xe [(8,.bool ((decide (rdR q x c = rdR q x c)) && (((rdR q x c).length : Int) == (c : Int))))] ?_ 1
     refine Xv (Y0 (.bool ((decide (rdR q x c = rdR q x c)) && (((rdR q x c).length : Int) == (c : Int)))) (fun w hs => ?_))
     exact ⟨(), by simp [hr5], Sat.right (R := [_, _, _, _, _, _, _]) hs⟩
    ·skip
     rw [rdT, if_neg hT] at hr2
     refine Xs (Xa (some 106) (fun _ => .tuple #[.agg #[vi 13, vi 0, vi 0], .bool true]) (chg_at 1 rfl (bAct _ p.1 q p.2 (rdB q x y c (c + 1)) hE.up.up.up (bKC q H).up.up (2 + c + (c + 1 : Nat)) (rdB_B q x y c (c + 1)) (by omega) 30 x (by omega) 1 10 x 0 hr2))) (fun _ => ?_) 6
     refine Xr [(10,vi x), (11,vi y), (12,.pointer (some ⟨p.1, 0, none⟩)), (13,vi c), (15,.slice r.1 ((rdR q x c).length) r.2), (107,.agg #[vi 13, vi 0, vi 0]), (108,.bool true)] ?_ 3 3
     refine Xs (Xn 31 [vi 0, vi 0, vi 0] (some 19) (fun b => vp b)) (fun b2 => ?_) 2
     refine Xs (Xz [(0,vi 13), (1,vi 0), (2,vi 0)]) (fun _ => ?_) 1
     refine Xe [(19,vp b2), (10,vi x), (11,vi y), (12,.pointer (some ⟨p.1, 0, none⟩)), (13,vi c), (15,.slice r.1 ((rdR q x c).length) r.2)] ?_ 1
     refine Xq (Xg 3 (Xr [(19,vp b2), (10,vi x), (11,vi y), (12,.pointer (some ⟨p.1, 0, none⟩)), (13,vi c), (15,.slice r.1 ((rdR q x c).length) r.2), (109,.agg #[vi 13, vi 0, vi 0])] ?_ 2 1))
     refine Xs (Xn 31 [vi 0, vi 0, vi 0] (some 21) (fun b => vp b)) (fun b3 => ?_) 1
     refine Xs (Xz [(0,vi 13), (1,vi 0), (2,vi 0)]) (fun _ => ?_) 0
     refine endR ?_
     refine Xq (Xq (Xg 7 (Xr [(21,vp b3), (19,vp b2), (10,vi x), (12,.pointer (some ⟨p.1, 0, none⟩)), (13,vi c), (15,.slice r.1 ((rdR q x c).length) r.2), (113,.bool ((x : Int) != (y : Int)))] ?_ 3 4)))
     refine (Xs0 0 3 [(21,vp b3), (19,vp b2), (10,vi x), (12,.pointer (some ⟨p.1, 0, none⟩)), (13,vi c), (15,.slice r.1 ((rdR q x c).length) r.2), (116,.bool (((x : Int) != (y : Int)) && (decide ((c : Int) > 0))))] ?_ ?_ : RT _ _ _ _ _ _ 3 _)
     ·cases hg4 : ((x : Int) != (y : Int)) with
      | true =>
       refine Xe [(21,vp b3), (19,vp b2), (10,vi x), (12,.pointer (some ⟨p.1, 0, none⟩)), (13,vi c), (15,.slice r.1 ((rdR q x c).length) r.2), (116,.bool (decide ((c : Int) > 0)))] ?_ 3
       refine Xp [(21,vp b3), (19,vp b2), (10,vi x), (12,.pointer (some ⟨p.1, 0, none⟩)), (13,vi c), (15,.slice r.1 ((rdR q x c).length) r.2), (116,.bool (true && (decide ((c : Int) > 0))))] ?_
       exact midR () rfl rfl
      | false =>
       refine Xe [(21,vp b3), (19,vp b2), (10,vi x), (12,.pointer (some ⟨p.1, 0, none⟩)), (13,vi c), (15,.slice r.1 ((rdR q x c).length) r.2), (116,.bool false)] ?_ 3
       refine Xp [(21,vp b3), (19,vp b2), (10,vi x), (12,.pointer (some ⟨p.1, 0, none⟩)), (13,vi c), (15,.slice r.1 ((rdR q x c).length) r.2), (116,.bool (false && (decide ((c : Int) > 0))))] ?_
       exact midR () rfl rfl
     refine endR ?_
     rw [show (((x : Int) != (y : Int)) && (decide ((c : Int) > 0))) = false from by simp; omega]
     refine Xc false (fun h => by cases h) (fun _ => ?_)
     refine Xk (Xq (Xg 3 (Xl [(10,vi x), (12,.pointer (some ⟨p.1, 0, none⟩)), (13,vi c), (15,.slice r.1 ((rdR q x c).length) r.2), (118,.agg #[vi 13, vi 0, vi 0]), (119,.agg #[vi 13, vi 0, vi 0])] [(⟨b2, 0, none⟩, vi 13), (⟨b2, 1, none⟩, vi 0), (⟨b2, 2, none⟩, vi 0), (⟨b3, 0, none⟩, vi 13), (⟨b3, 1, none⟩, vi 0), (⟨b3, 2, none⟩, vi 0)] (hasC (ba 1) (hasC (ba 1) (hasC (ba 1) (hasC (ba 0) (hasC (ba 0) (hasC (ba 0) has0)))))) ?_ 1 2)))
     refine Xs (yldS (eqY1 31 31 (.tmp 118) (.tmp 119) [.int .i64 13, .int .i64 0, .int .i64 0] [.int .i64 13, .int .i64 0, .int .i64 0] true 120)) (fun _ => ?_) 0
     refine endR ?_
     refine Xc false (fun h => by cases h) (fun _ => ?_)
     refine Xk (Xq (Xg 12 (Xr [(13,vi c), (15,.slice r.1 ((rdR q x c).length) r.2), (121,.slice r.1 ((rdR q x c).length) r.2), (122,.pointer (some ⟨p.1, 0, none⟩)), (123,vi x)] ?_ 9 3)))
     refine Xs (Xa (some 124) (fun (s : Option Addr × Nat) => .slice s.1 (rdR q x c).length s.2) ((by have h := new_at (H := (blk b3 31 [.int .i64 13, .int .i64 0, .int .i64 0] :: blk b2 31 [.int .i64 13, .int .i64 0, .int .i64 0] :: row reE 48 (.slice r.1 (rdR q x c).length r.2) (rdR q x c) :: wdS p.1 (bC q) p.2 (rdC q x y c) :: blk b1 26 [.int .i64 8, .int .i64 2, .slice (some ⟨q.ps, 0, none⟩) 2 2, .slice (some ⟨q.ds, 0, none⟩) 4 4] :: bS q :: H)) 3 rfl (wRecords_c _ p.1 (bC q) p.2 (rdC q x y c) x (by show x < 4; omega)); rw [hr4] at h; exact h))) (fun (s : Option Addr × Nat) => ?_) 8
     refine Xs (Xa (some 125) (fun _ => .bool (decide (rdR q x c = rdR q x c))) (sameRecs_walk _ ⟨r.1, r.2, rdR q x c⟩ ⟨s.1, s.2, rdR q x c⟩ (rowKRat 3 rfl) (rowKRat 0 rfl) (by show (rdR q x c).length < 1000000000; omega) (by show (rdR q x c).length < 1000000000; omega))) (fun _ => ?_) 7
     refine Xr [(13,vi c), (15,.slice r.1 ((rdR q x c).length) r.2), (126,.bool (decide (rdR q x c = rdR q x c)))] ?_ 6 1
     refine (Xs0 1 5 [(131,.bool ((decide (rdR q x c = rdR q x c)) && (((rdR q x c).length : Int) == (c : Int))))] ?_ ?_ : RT _ _ _ _ _ _ 6 _)
     ·cases hg6 : (decide (rdR q x c = rdR q x c)) with
      | true =>
       refine Xe [(131,.bool (((rdR q x c).length : Int) == (c : Int)))] ?_ 5
       refine Xp [(131,.bool (true && (((rdR q x c).length : Int) == (c : Int))))] ?_
       exact midR () rfl rfl
      | false =>
       refine Xe [(131,.bool false)] ?_ 5
       refine Xp [(131,.bool (false && (((rdR q x c).length : Int) == (c : Int))))] ?_
       exact midR () rfl rfl
     refine Xe [(8,.bool ((decide (rdR q x c = rdR q x c)) && (((rdR q x c).length : Int) == (c : Int))))] ?_ 1
     refine Xv (Y0 (.bool ((decide (rdR q x c = rdR q x c)) && (((rdR q x c).length : Int) == (c : Int)))) (fun w hs => ?_))
     exact ⟨(), by simp [hr5], Sat.right (R := [_, _, _, _, _, _, _]) hs⟩
   | false =>
    refine Xc false (fun h => by cases h) (fun _ => ?_)
    refine Xk (Xq (Xg 12 (Xr [(13,vi c), (15,.slice r.1 ((rdR q x c).length) r.2), (121,.slice r.1 ((rdR q x c).length) r.2), (122,.pointer (some ⟨p.1, 0, none⟩)), (123,vi x)] ?_ 9 3)))
    refine Xs (Xa (some 124) (fun (s : Option Addr × Nat) => .slice s.1 (rdR q x c).length s.2) ((by have h := new_at (H := (row reE 48 (.slice r.1 (rdR q x c).length r.2) (rdR q x c) :: wdS p.1 (bC q) p.2 (rdB q x y c (c + 1 : Nat)) :: blk b1 26 [.int .i64 8, .int .i64 2, .slice (some ⟨q.ps, 0, none⟩) 2 2, .slice (some ⟨q.ds, 0, none⟩) 4 4] :: bS q :: H)) 1 rfl (wRecords_c _ p.1 (bC q) p.2 (rdB q x y c (c + 1)) x (by show x < 4; omega)); rw [hr3] at h; exact h))) (fun (s : Option Addr × Nat) => ?_) 8
    refine Xs (Xa (some 125) (fun _ => .bool (decide (rdR q x c = rdR q x c))) (sameRecs_walk _ ⟨r.1, r.2, rdR q x c⟩ ⟨s.1, s.2, rdR q x c⟩ (rowKRat 1 rfl) (rowKRat 0 rfl) (by show (rdR q x c).length < 1000000000; omega) (by show (rdR q x c).length < 1000000000; omega))) (fun _ => ?_) 7
    refine Xr [(13,vi c), (15,.slice r.1 ((rdR q x c).length) r.2), (126,.bool (decide (rdR q x c = rdR q x c)))] ?_ 6 1
    refine (Xs0 1 5 [(131,.bool ((decide (rdR q x c = rdR q x c)) && (((rdR q x c).length : Int) == (c : Int))))] ?_ ?_ : RT _ _ _ _ _ _ 6 _)
    ·cases hg6 : (decide (rdR q x c = rdR q x c)) with
     | true =>
      refine Xe [(131,.bool (((rdR q x c).length : Int) == (c : Int)))] ?_ 5
      refine Xp [(131,.bool (true && (((rdR q x c).length : Int) == (c : Int))))] ?_
      exact midR () rfl rfl
     | false =>
      refine Xe [(131,.bool false)] ?_ 5
      refine Xp [(131,.bool (false && (((rdR q x c).length : Int) == (c : Int))))] ?_
      exact midR () rfl rfl
    refine Xe [(8,.bool ((decide (rdR q x c = rdR q x c)) && (((rdR q x c).length : Int) == (c : Int))))] ?_ 1
    refine Xv (Y0 (.bool ((decide (rdR q x c = rdR q x c)) && (((rdR q x c).length : Int) == (c : Int)))) (fun w hs => ?_))
    exact ⟨(), by simp [hr5], Sat.right (R := [_, _, _, _, _]) hs⟩
theorem reads_row (W : World) (hE : W.cell? ⟨0, 0, none⟩ = some errT) (a b c : Int) (d : Bool) (ha : (Lit.int .u8 a).wf = true) (hb : (Lit.int .u8 b).wf = true) (hc : (Lit.int .u8 c).wf = true) : Calls Tryz.prog 3 #[.int .u8 a, .int .u8 b, .int .u8 c, .bool d] W (LawPost W) :=
 lawPost (fun _ _ h => h) (reads21 [old W] (EK.old 0 rfl hE) a b c d (u8_wf ha) (u8_wf hb) (u8_wf hc) W (Sat.start W))
end Go.Proofs.YtfhkgohokbkgiaaGreatDoor
