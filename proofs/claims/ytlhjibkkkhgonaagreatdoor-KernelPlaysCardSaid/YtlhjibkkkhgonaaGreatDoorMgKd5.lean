/- Texts put together: The document's tree: its nodes as a row; At, some, Deep, Nodes. The document's tree: NewTree, Nodes, Ready. The document's tree: Scale, Weight, Add, Remove. The document's tree: Remove. The document's tree: Add. The document's tree: Run. The document's tree: Run, walked. Trees: the program's nodes and the document's are the same, in another order. The document's kernel: who is there, how many. The document's kernel as one part of memory: Spawn, Group, Exit, Sleep, Wait, Signal. Conditions: none. -/
import Derived.Test.YtlhjibkkkhgonaaGreatDoorMgKd4
set_option linter.unusedVariables false
set_option linter.unusedSimpArgs false
namespace Go.Proofs.YtlhjibkkkhgonaaGreatDoor
open Go.RowKit G
/-- A node of the document's tree. -/
def rnE : Enc Nr := ⟨7, by decide, fun x => [.int .i64 x.id, .int .i64 x.par, .int .i64 x.wt, .int .i64 x.pass, .bool x.thr, .bool x.rdy, .int .i64 x.now], fun _ => rfl, by intro a u hu; simp at hu; rcases hu with rfl | rfl | rfl | rfl | rfl | rfl | rfl <;> rfl⟩
theorem rnE_ety : Ety Tryz.prog rnE 97 (.agg #[.int .i64 0, .int .i64 0, .int .i64 0, .int .i64 0, .bool false, .bool false, .int .i64 0]) := by
 obtain ⟨i, hi, hz, hs, hb⟩ := info_parts (P := Tryz.prog) (e := 97) (z := .agg #[.int .i64 0, .int .i64 0, .int .i64 0, .int .i64 0, .bool false, .bool false, .int .i64 0]) (size := 7) (bytes := 48) (by kernel_rfl)
 exact ⟨⟨i, hi, hz, hs, by omega⟩, rfl⟩
/-- The document's tree at t. -/
def rtS (t : Nat) (L : List Nr) : SP := exS fun p : Nat × Nat × Nat => two (blk t 93 [.slice (some ⟨p.1, p.2.1, none⟩) L.length p.2.2]) (row rnE 97 (.slice (some ⟨p.1, p.2.1, none⟩) L.length p.2.2) L)
theorem Sat.openRt {t : Nat} {L : List Nr} {H : List SP} {w : World} (h : Sat w (rtS t L :: H)) : ∃ b o c, Sat w (blk t 93 [.slice (some ⟨b, o, none⟩) L.length c] :: row rnE 97 (.slice (some ⟨b, o, none⟩) L.length c) L :: H) := by
 obtain ⟨⟨b, o, c⟩, h⟩ := Sat.openEx h
 exact ⟨b, o, c, Sat.openTwo h⟩
theorem PT.openRt {n : Nat} {X : List (Nat × Value)} {t : Nat} {L : List Nr} {H : List SP} {Φ : Act → World → Prop} (h : ∀ b o c, PT n X (blk t 93 [.slice (some ⟨b, o, none⟩) L.length c] :: row rnE 97 (.slice (some ⟨b, o, none⟩) L.length c) L :: H) Φ) : PT n X (rtS t L :: H) Φ := fun rest w ho hs => by
 obtain ⟨b, o, c, hs⟩ := Sat.openRt hs
 exact h b o c rest w ho hs
theorem Sat.closeRt {t : Nat} {L : List Nr} {A : Option Addr} {c : Nat} {H : List SP} {w : World} (hn : L ≠ []) (h : Sat w (blk t 93 [.slice A L.length c] :: row rnE 97 (.slice A L.length c) L :: H)) : Sat w (rtS t L :: H) := by
 rcases rowA (A := A) (k := c) 1 rfl w h with ⟨_, h2, _⟩ | ⟨b, o, rfl⟩
 ·exact absurd h2 hn
 ·exact Sat.closeEx (b, o, c) (Sat.closeTwo h)
/-! ## places -/
def ixL (L : List Nr) (id : Int) : Int := match L.findIdx? (fun x => x.id == id) with | some i => (i : Int) | none => -1
theorem ixL_at {L : List Nr} {i : Nat} {x : Nr} (h : L[i]? = some x) (hno : ∀ (j : Nat) y, j < i → L[j]? = some y → y.id ≠ x.id) : ixL L x.id = i := by
 have : L.findIdx? (fun y => y.id == x.id) = some i := by
  have hi := (List.getElem?_eq_some_iff.1 h).1
  rw [List.findIdx?_eq_some_iff_getElem]
  refine ⟨hi, by rw [(List.getElem?_eq_some_iff.1 h).2]; simp, fun j hj => ?_⟩
  have := hno j (L[j]'(by omega)) hj (List.getElem?_eq_getElem (by omega))
  simpa using this
 rw [ixL, this]
theorem ixL_no {L : List Nr} {id : Int} (h : ∀ y ∈ L, y.id ≠ id) : ixL L id = -1 := by
 have : L.findIdx? (fun y => y.id == id) = none := List.findIdx?_eq_none_iff.2 fun y hy => by simpa using h y hy
 rw [ixL, this]
theorem nd_at {L : List Nr} (hn : (L.map (·.id)).Nodup) {i j : Nat} {x y : Nr} (hi : L[i]? = some x) (hj : L[j]? = some y) (e : x.id = y.id) : i = j := by
 have h1 : (L.map (·.id))[i]? = some x.id := by rw [List.getElem?_map, hi]; rfl
 have h2 : (L.map (·.id))[j]? = some x.id := by rw [List.getElem?_map, hj, e]; rfl
 exact (List.getElem?_inj (List.getElem?_eq_some_iff.1 h1).1 hn).1 (h1.trans h2.symm)
theorem ixL_nd {L : List Nr} (hn : (L.map (·.id)).Nodup) {i : Nat} {x : Nr} (h : L[i]? = some x) : ixL L x.id = i :=
 ixL_at h fun j y hj hy e => by have := nd_at hn hy h e; omega
theorem ixL_gt {L : List Nr} (hn : (L.map (·.id)).Nodup) {id : Int} {x : Nr} (h : gt L id = some x) : ∃ i : Nat, L[i]? = some x ∧ ixL L id = i := by
 obtain ⟨h1, rfl⟩ := gt_mem h
 obtain ⟨i, hi⟩ := List.mem_iff_getElem?.1 h1
 exact ⟨i, hi, ixL_nd hn hi⟩
theorem gt_at {L : List Nr} (hn : (L.map (·.id)).Nodup) {i : Nat} {x : Nr} (h : L[i]? = some x) : gt L x.id = some x := gt_of hn (List.mem_of_getElem? h)
set_option maxRecDepth 100000 in
theorem rat_walk (H : List SP) (t b o c : Nat) (L : List Nr) (id : Int) (hl : L.length ≤ 1000) : ∀ w, Sat w (blk t 93 [.slice (some ⟨b, o, none⟩) L.length c] :: row rnE 97 (.slice (some ⟨b, o, none⟩) L.length c) L :: H) → Calls Tryz.prog 64 #[vp t, vi id] w (Ret (ι := Unit) (fun _ => vi (ixL L id)) fun _ => blk t 93 [.slice (some ⟨b, o, none⟩) L.length c] :: row rnE 97 (.slice (some ⟨b, o, none⟩) L.length c) L :: H) := by
 refine enterG (fn := Tryz.f64) 27 [vp t, vi id] Tryz.func64 (by kernel_rfl) (by kernel_rfl) (by kernel_rfl) ?_
 refine Xq (Xg 1 (Xe [(0,vp t), (1,vi id), (4,vi 0)] ?_ 1))
 refine Xq (Xq (Xg 1 (Xe [(0,vp t), (1,vi id), (4,vi 0), (5,vi 0)] ?_ 1)))
 refine Xb 0 (Xp [(0,vp t), (1,vi id), (5,vi 0)] (Xl0 (fun (i : Nat) => [(0,vp t), (1,vi id), (5,vi i)]) (fun k (i : Nat) => k + i = L.length ∧ ∀ (j : Nat) y, j < i → L[j]? = some y → y.id ≠ id) L.length 0 (by kernel_rfl) ⟨by simp, fun j y hj => by omega⟩ ?_))
 rintro k i ⟨hki, hno⟩
 refine Xq (Xq (Xg 7 (Xm [(0,vp t), (1,vi id), (5,vi i), (12,.bool (decide ((i : Int) < (L.length : Int))))] [(⟨t, 0, none⟩, .slice (some ⟨b, o, none⟩) L.length c)] (hasC (ba 0) has0) ?_ 7)))
 refine Xc (decide ((i : Int) < (L.length : Int))) (fun h1 => ?_) (fun h1 => ?_)
 ·skip
  have hi : i < L.length := by have := of_decide_eq_true h1; omega
  obtain ⟨x, hx⟩ : ∃ x, L[i]? = some x := ⟨_, List.getElem?_eq_getElem hi⟩
  refine Xk (Xq (Xb 1 (Xq (Xg 11 (Xl [(0,vp t), (1,vi id), (5,vi i), (18,.slice (some ⟨b, o, none⟩) L.length c), (19,vi i)] [(⟨t, 0, none⟩, .slice (some ⟨b, o, none⟩) L.length c)] (hasC (ba 0) has0) ?_ 6 5)))))
  refine Xs (yldS (Xi 91 (.tmp 18) (.tmp 19) b o L.length c i 7 97 (i : Int) 20 Tryz.underlying91)) (fun _ => ?_) 5
  refine Xm [(0,vp t), (1,vi id), (5,vi i), (25,.bool (x.id == id))] [(⟨b, o + i * 7, none⟩, vi x.id)] (hasC (rowCell (E := rnE) (xs := L) 1 rfl (x := x) hx (j := 0) rfl) has0) ?_ 5
  refine Xc (x.id == id) (fun h2 => ?_) (fun h2 => ?_)
  ·skip
   have hid : x.id = id := by simpa using h2
   refine Xq (Xg 2 (Xe [(0,vp t), (1,vi id), (5,vi i), (4,vi i)] ?_ 2))
   refine Xv (blockV (thenV (thenV (blockV (thenV (Y0 (vi i) (fun w hs => ?_)))))))
   exact ⟨(), by rw [← hid, ixL_at hx (fun j y hj hy => by rw [hid]; exact hno j y hj hy)], hs⟩
  ·skip
   have hid : x.id ≠ id := by simpa using h2
   refine Xk (Xg 3 (Xe [(0,vp t), (1,vi id), (5,vi (IntKind.i64.wrap ((i : Int) + 1)))] ?_ 3))
   rw [show IntKind.i64.wrap ((i : Int) + 1) = ((i : Int) + 1) by rw [w64 (by omega) (by omega)]]
   refine Xp [(0,vp t), (1,vi id), (5,vi ((i : Int) + 1))] ?_
   exact againG (k - 1) (i + 1) rfl rfl (by omega) ⟨by omega, fun j y hj hy => by by_cases cj : j = i; (subst cj; rw [hx] at hy; cases hy; exact hid); exact hno j y (by omega) hy⟩
 ·skip
  have hi : i = L.length := by have := of_decide_eq_false h1; omega
  refine Xx 0 (thenX (thenX (leaveR (Xq (Xg 1 (Xe [(4,vi (-1))] ?_ 1))))))
  refine Xv (Y0 (vi (-1)) (fun w hs => ?_))
  exact ⟨(), by rw [ixL_no (fun y hy => by obtain ⟨j, hj⟩ := List.mem_iff_getElem?.1 hy; exact hno j y (by rw [hi]; exact (List.getElem?_eq_some_iff.1 hj).1) hj)], hs⟩
set_option maxRecDepth 100000 in
theorem rsome_walk (H : List SP) (t b o c : Nat) (L : List Nr) (id : Int) (hl : L.length ≤ 1000) : ∀ w, Sat w (blk t 93 [.slice (some ⟨b, o, none⟩) L.length c] :: row rnE 97 (.slice (some ⟨b, o, none⟩) L.length c) L :: H) → Calls Tryz.prog 69 #[vp t, vi id] w (Ret (ι := Unit) (fun _ => .bool (L.any fun x => x.par == id && x.rdy)) fun _ => blk t 93 [.slice (some ⟨b, o, none⟩) L.length c] :: row rnE 97 (.slice (some ⟨b, o, none⟩) L.length c) L :: H) := by
 refine enterG (fn := Tryz.f69) 37 [vp t, vi id] Tryz.func69 (by kernel_rfl) (by kernel_rfl) (by kernel_rfl) ?_
 refine Xq (Xg 1 (Xe [(0,vp t), (1,vi id), (4,.bool false)] ?_ 1))
 refine Xq (Xq (Xg 1 (Xe [(0,vp t), (1,vi id), (4,.bool false), (5,vi 0)] ?_ 1)))
 refine Xb 0 (Xp [(0,vp t), (1,vi id), (5,vi 0)] (Xl0 (fun (i : Nat) => [(0,vp t), (1,vi id), (5,vi i)]) (fun k (i : Nat) => k + i = L.length ∧ ∀ (j : Nat) y, j < i → L[j]? = some y → (y.par == id && y.rdy) = false) L.length 0 (by kernel_rfl) ⟨by simp, fun j y hj => by omega⟩ ?_))
 rintro k i ⟨hki, hno⟩
 refine Xq (Xq (Xg 7 (Xm [(0,vp t), (1,vi id), (5,vi i), (12,.bool (decide ((i : Int) < (L.length : Int))))] [(⟨t, 0, none⟩, .slice (some ⟨b, o, none⟩) L.length c)] (hasC (ba 0) has0) ?_ 7)))
 refine Xc (decide ((i : Int) < (L.length : Int))) (fun h1 => ?_) (fun h1 => ?_)
 ·skip
  have hi : i < L.length := by have := of_decide_eq_true h1; omega
  obtain ⟨x, hx⟩ : ∃ x, L[i]? = some x := ⟨_, List.getElem?_eq_getElem hi⟩
  refine Xk (Xq (Xb 1 (Xq (Xg 22 (Xl [(0,vp t), (1,vi id), (5,vi i), (18,.slice (some ⟨b, o, none⟩) L.length c), (19,vi i)] [(⟨t, 0, none⟩, .slice (some ⟨b, o, none⟩) L.length c)] (hasC (ba 0) has0) ?_ 17 5)))))
  refine Xs (yldS (Xi 91 (.tmp 18) (.tmp 19) b o L.length c i 7 97 (i : Int) 20 Tryz.underlying91)) (fun _ => ?_) 16
  refine Xl [(0,vp t), (1,vi id), (5,vi i), (26,.bool (x.par == id))] [(⟨b, o + i * 7 + 1, none⟩, vi x.par)] (hasC (rowCell (E := rnE) (xs := L) 1 rfl (x := x) hx (j := 1) rfl) has0) ?_ 10 6
  refine (Xs0 0 10 [(0,vp t), (1,vi id), (5,vi i), (36,.bool ((x.par == id) && x.rdy))] ?_ ?_ : RT _ _ _ _ _ _ 10 _)
  ·cases hg12 : (x.par == id) with
   | true =>
    refine Xl [(0,vp t), (1,vi id), (5,vi i), (26,.bool true), (30,.slice (some ⟨b, o, none⟩) L.length c), (31,vi i)] [(⟨t, 0, none⟩, .slice (some ⟨b, o, none⟩) L.length c)] (hasC (ba 0) has0) ?_ 5 5
    refine Xs (yldS (Xi 91 (.tmp 30) (.tmp 31) b o L.length c i 7 97 (i : Int) 32 Tryz.underlying91)) (fun _ => ?_) 4
    refine Xm [(0,vp t), (1,vi id), (5,vi i), (36,.bool x.rdy)] [(⟨b, o + i * 7 + 5, none⟩, .bool x.rdy)] (hasC (rowCell (E := rnE) (xs := L) 1 rfl (x := x) hx (j := 5) rfl) has0) ?_ 4
    refine Xp [(0,vp t), (1,vi id), (5,vi i), (36,.bool (true && x.rdy))] ?_
    exact midR () rfl rfl
   | false =>
    refine Xe [(0,vp t), (1,vi id), (5,vi i), (36,.bool false)] ?_ 10
    refine Xp [(0,vp t), (1,vi id), (5,vi i), (36,.bool (false && x.rdy))] ?_
    exact midR () rfl rfl
  refine endR ?_
  refine Xc ((x.par == id) && x.rdy) (fun h2 => ?_) (fun h2 => ?_)
  ·skip
   refine Xq (Xg 1 (Xe [(0,vp t), (1,vi id), (5,vi i), (4,.bool true)] ?_ 1))
   refine Xv (blockV (thenV (thenV (blockV (thenV (Y0 (.bool true) (fun w hs => ?_)))))))
   exact ⟨(), by rw [List.any_eq_true.2 ⟨x, List.mem_of_getElem? hx, h2⟩], hs⟩
  ·skip
   refine Xk (Xg 3 (Xe [(0,vp t), (1,vi id), (5,vi (IntKind.i64.wrap ((i : Int) + 1)))] ?_ 3))
   rw [show IntKind.i64.wrap ((i : Int) + 1) = ((i : Int) + 1) by rw [w64 (by omega) (by omega)]]
   refine Xp [(0,vp t), (1,vi id), (5,vi ((i : Int) + 1))] ?_
   exact againG (k - 1) (i + 1) rfl rfl (by omega) ⟨by omega, fun j y hj hy => by by_cases cj : j = i; (subst cj; rw [hx] at hy; cases hy; exact h2); exact hno j y (by omega) hy⟩
 ·skip
  have hi : i = L.length := by have := of_decide_eq_false h1; omega
  refine Xx 0 (thenX (thenX (leaveR (Xq (Xg 1 (Xe [(4,.bool false)] ?_ 1))))))
  refine Xv (Y0 (.bool false) (fun w hs => ?_))
  exact ⟨(), by rw [List.any_eq_false.2 (fun y hy => by obtain ⟨j, hj⟩ := List.mem_iff_getElem?.1 hy; rw [hno j y (by rw [hi]; exact (List.getElem?_eq_some_iff.1 hj).1) hj]; simp)], hs⟩
set_option maxRecDepth 100000 in
theorem rdeep_walk (H : List SP) (t b o c : Nat) (L : List Nr) (hsk : SK L) (k0 : Int) : ∀ w, Sat w (blk t 93 [.slice (some ⟨b, o, none⟩) L.length c] :: row rnE 97 (.slice (some ⟨b, o, none⟩) L.length c) L :: H) → Calls Tryz.prog 47 #[vp t, vi k0] w (Ret (ι := Unit) (fun _ => vi (deepN 6 L k0 : Int)) fun _ => blk t 93 [.slice (some ⟨b, o, none⟩) L.length c] :: row rnE 97 (.slice (some ⟨b, o, none⟩) L.length c) L :: H) := by
 obtain ⟨rk, hrk⟩ := hsk.rk
 have hnd := hsk.nd
 have hl := hsk.len
 refine enterG (fn := Tryz.f47) 26 [vp t, vi k0] Tryz.func47 (by kernel_rfl) (by kernel_rfl) (by kernel_rfl) ?_
 refine Xq (Xg 1 (Xe [(0,vp t), (1,vi k0), (4,vi 0)] ?_ 1))
 refine Xq (Xg 1 (Xe [(0,vp t), (1,vi k0), (4,vi 0), (5,vi 0)] ?_ 1))
 refine Xq (Xq (Xg 4 (Xr [(0,vp t), (4,vi 0), (5,vi 0), (7,vp t), (8,vi k0)] ?_ 2 2)))
 refine Xs (Xa (some 9) (fun _ => vi (ixL L k0)) (rat_walk H t b o c L k0 (by omega))) (fun _ => ?_) 1
 refine Xe [(0,vp t), (4,vi 0), (5,vi 0), (6,vi (ixL L k0))] ?_ 1
 refine Xb 0 (Xp [(0,vp t), (4,vi 0), (5,vi 0), (6,vi (ixL L k0))] (Xl0 (fun (x : Int × Nat) => [(0,vp t), (4,vi 0), (5,vi (x.2 : Int)), (6,vi (ixL L x.1))]) (fun k (x : Int × Nat) => k + x.2 = 6 ∧ deepN 6 L k0 = x.2 + deepN k L x.1 ∧ ∀ y ∈ L, y.id = x.1 → rk y.id + x.2 ≤ 5) 6 (k0, 0) (by kernel_rfl) ⟨rfl, by simp, fun y hy _ => by have := (hrk y hy).2.2.1; simpa using this⟩ ?_))
 rintro k ⟨id, n⟩ ⟨hkn, hd, hb⟩
 simp only at hkn hd hb
 cases hg : gt L id with
 | none =>
  have hix : ixL L id = -1 := ixL_no (gt_none.1 hg)
  rw [show ixL L id = -1 by exact hix]
  refine Xq (Xq (Xg 2 (Xe [(0,vp t), (4,vi 0), (5,vi n), (6,vi (-1)), (11,.bool false)] ?_ 2)))
  refine Xc false (fun h => by cases h) (fun _ => ?_)
  refine Xx 0 (thenX (thenX (leaveR (Xq (Xg 2 (Xe [(4,vi n)] ?_ 2))))))
  refine Xv ?_
  have hz : deepN k L id = 0 := by cases k <;> simp [deepN, hg]
  refine Y0 (vi n) (fun w hs => ?_)
  exact ⟨(), by rw [hd, hz]; rfl, hs⟩
 | some y =>
  obtain ⟨i, hi, hix⟩ := ixL_gt hnd hg
  have hil := (List.getElem?_eq_some_iff.1 hi).1
  have hy := gt_mem hg
  have hr1 := hrk y hy.1
  have hb1 := hb y hy.1 hy.2
  rw [show ixL L id = (i : Int) by exact hix]
  refine Xq (Xq (Xg 2 (Xe [(0,vp t), (4,vi 0), (5,vi n), (6,vi i), (11,.bool (decide ((i : Int) ≥ 0)))] ?_ 2)))
  refine Xc (decide ((i : Int) ≥ 0)) (fun h1 => ?_) (fun h1 => ?_)
  ·skip
   refine Xk (Xq (Xb 1 (Xg 3 (Xe [(0,vp t), (4,vi 0), (5,vi (IntKind.i64.wrap ((n : Int) + 1))), (6,vi i)] ?_ 3))))
   refine Xg 12 (Xl [(0,vp t), (4,vi 0), (5,vi (IntKind.i64.wrap ((n : Int) + 1))), (6,vi i), (12,vp t), (16,.slice (some ⟨b, o, none⟩) L.length c), (17,vi i)] [(⟨t, 0, none⟩, .slice (some ⟨b, o, none⟩) L.length c)] (hasC (ba 0) has0) ?_ 6 6)
   refine Xs (yldS (Xi 91 (.tmp 16) (.tmp 17) b o L.length c i 7 97 (i : Int) 18 Tryz.underlying91)) (fun _ => ?_) 5
   refine Xl [(0,vp t), (4,vi 0), (5,vi (IntKind.i64.wrap ((n : Int) + 1))), (6,vi i), (12,vp t), (21,vi y.par)] [(⟨b, o + i * 7 + 1, none⟩, vi y.par)] (hasC (rowCell (E := rnE) (xs := L) 1 rfl (x := y) hi (j := 1) rfl) has0) ?_ 2 3
   obtain ⟨k, rfl⟩ : ∃ k', k = k' + 1 := ⟨k - 1, by omega⟩
   have hd2 : deepN (k + 1) L id = deepN k L y.par + 1 := by rw [deepN, hg]
   rw [show IntKind.i64.wrap ((n : Int) + 1) = ((n : Int) + 1) by rw [w64 (by omega) (by omega)]]
   refine Xs (Xa (some 22) (fun _ => vi (ixL L y.par)) (rat_walk H t b o c L y.par (by omega))) (fun _ => ?_) 1
   refine Xe [(0,vp t), (4,vi 0), (5,vi ((n : Int) + 1)), (6,vi (ixL L y.par))] ?_ 1
   refine Xp [(0,vp t), (4,vi 0), (5,vi ((n : Int) + 1)), (6,vi (ixL L y.par))] ?_
   exact againG k (y.par, n + 1) rfl rfl (by omega) ⟨by simp only; omega, by simp only; rw [hd, hd2]; omega, fun p hp hpi => by simp only at hpi ⊢; by_cases c : y.id = 0; (have := (hsk.rt y hy.1 c).1; have h3 : gt L p.id = none := hsk.neg (by omega); rw [gt_of hnd hp] at h3; cases h3); (have := hr1.2.1 c; rw [hpi]; omega)⟩
  ·skip
   exact absurd h1 (by simp)
end Go.Proofs.YtlhjibkkkhgonaaGreatDoor
set_option linter.unusedVariables false
set_option linter.unusedSimpArgs false
namespace Go.Proofs.YtlhjibkkkhgonaaGreatDoor
open Go.RowKit G
theorem rnew_walk (H : List SP) : ∀ w, Sat w H → Calls Tryz.prog 38 #[] w (Ret (ι := Nat) (fun t => vp t) fun t => rtS t [rootN] :: H) := by
 refine enterG (fn := Tryz.f38) 6 [] Tryz.func38 (by kernel_rfl) (by kernel_rfl) (by kernel_rfl) ?_
 refine Xq (Xg 1 (Xe [(0,.pointer none)] ?_ 1))
 refine Xq (Xg 6 (Xr [(0,.pointer none), (2,.agg #[vi 0, vi (-1), vi 1, vi 0, .bool false, .bool false, vi 0])] ?_ 4 2))
 refine Xs (Xn 97 [vi 0, vi (-1), vi 1, vi 0, .bool false, .bool false, vi 0] (some 3) (fun b => .slice (some ⟨b, 0, none⟩) 1 1)) (fun b1 => ?_) 3
 refine Xr [(0,.pointer none), (4,.agg #[.slice (some ⟨b1, 0, none⟩) 1 1])] ?_ 2 1
 refine Xs (Xn 93 [.slice (some ⟨b1, 0, none⟩) 1 1] (some 5) (fun b => vp b)) (fun b2 => ?_) 1
 refine Xe [(0,vp b2)] ?_ 1
 refine Xv ?_
 refine PT.pick 1 rfl ?_
 refine PT.blkRow (E := rnE) (x := rootN) ?_
 refine PT.pick 0 rfl ?_
 refine PT.pick 1 rfl ?_
 refine Y0 (vp b2) (fun w hs => ?_)
 exact ⟨b2, rfl, Sat.closeRt (L := [rootN]) (by simp) hs⟩
set_option maxHeartbeats 1000000 in
set_option maxRecDepth 100000 in
theorem rnodes_walk (H : List SP) (t b o c : Nat) (L : List Nr) (hl : L.length ≤ 1000) : ∀ w, Sat w (blk t 93 [.slice (some ⟨b, o, none⟩) L.length c] :: row rnE 97 (.slice (some ⟨b, o, none⟩) L.length c) L :: H) → Calls Tryz.prog 33 #[vp t] w (Ret (ι := Option Addr × Nat) (fun x => .slice x.1 L.length x.2) fun x => row nE 95 (.slice x.1 L.length x.2) L :: blk t 93 [.slice (some ⟨b, o, none⟩) L.length c] :: row rnE 97 (.slice (some ⟨b, o, none⟩) L.length c) L :: H) := by
 refine enterG (fn := Tryz.f33) 26 [vp t] Tryz.func33 (by kernel_rfl) (by kernel_rfl) (by kernel_rfl) ?_
 refine Xq (Xg 1 (Xe [(0,vp t), (2,.slice none 0 0)] ?_ 1))
 refine Xq (Xg 1 (Xe [(0,vp t), (2,.slice none 0 0), (3,.slice none 0 0)] ?_ 1))
 refine Xq (Xq (Xg 1 (Xe [(0,vp t), (2,.slice none 0 0), (3,.slice none 0 0), (4,vi 0)] ?_ 1)))
 refine Xb 0 ?_
 refine PT.rowNil nE 95 ?_
 refine Xp [(0,vp t), (2,.slice none 0 0), (3,.slice none 0 0), (4,vi 0)] ?_
 refine loopG (fun (s : (Option Addr × Nat) × Nat) => [(0, vp t), (2, .slice none 0 0), (3, .slice s.1.1 ((L.take s.2).length) s.1.2), (4, vi (s.2 : Int))]) (fun (s : (Option Addr × Nat) × Nat) => (row nE 95 (.slice s.1.1 (L.take s.2).length s.1.2) (L.take s.2) :: blk t 93 [.slice (some ⟨b, o, none⟩) L.length c] :: row rnE 97 (.slice (some ⟨b, o, none⟩) L.length c) L :: H)) (fun k (s : (Option Addr × Nat) × Nat) => k + s.2 = L.length) L.length ((none, 0), 0) (by kernel_rfl) rfl ?_
 rintro k ⟨⟨qa, qc⟩, u⟩ hku
 simp only at hku
 refine Xq (Xq (Xg 7 (Xm [(0,vp t), (2,.slice none 0 0), (3,.slice qa ((L.take u).length) qc), (4,vi u), (11,.bool (decide ((u : Int) < (L.length : Int))))] [(⟨t, 0, none⟩, .slice (some ⟨b, o, none⟩) L.length c)] (hasC (ba 1) has0) ?_ 7)))
 refine Xc (decide ((u : Int) < (L.length : Int))) (fun h1 => ?_) (fun h1 => ?_)
 ·skip
  have hu : u < L.length := by have := of_decide_eq_true h1; omega
  obtain ⟨x, hx⟩ : ∃ x, L[u]? = some x := ⟨_, List.getElem?_eq_getElem hu⟩
  have hsn : L.take u ++ [x] = L.take (u + 1) := by rw [List.take_add_one, hx]; rfl
  refine Xk (Xq (Xb 1 (Xg 12 (Xl [(0,vp t), (2,.slice none 0 0), (3,.slice qa ((L.take u).length) qc), (4,vi u), (14,.slice qa ((L.take u).length) qc), (18,.slice (some ⟨b, o, none⟩) L.length c), (19,vi u)] [(⟨t, 0, none⟩, .slice (some ⟨b, o, none⟩) L.length c)] (hasC (ba 1) has0) ?_ 6 6))))
  refine Xs (yldS (Xi 91 (.tmp 18) (.tmp 19) b o L.length c u 7 97 (u : Int) 20 Tryz.underlying91)) (fun _ => ?_) 5
  refine Xl [(0,vp t), (2,.slice none 0 0), (3,.slice qa ((L.take u).length) qc), (4,vi u), (14,.slice qa ((L.take u).length) qc), (22,.agg #[vi x.id, vi x.par, vi x.wt, vi x.pass, .bool x.thr, .bool x.rdy])] [(⟨b, o + u * 7, none⟩, vi x.id), (⟨b, o + u * 7 + 1, none⟩, vi x.par), (⟨b, o + u * 7 + 2, none⟩, vi x.wt), (⟨b, o + u * 7 + 3, none⟩, vi x.pass), (⟨b, o + u * 7 + 4, none⟩, .bool x.thr), (⟨b, o + u * 7 + 5, none⟩, .bool x.rdy)] (hasC (rowCell (E := rnE) (xs := L) 2 rfl (x := x) hx (j := 0) rfl) (hasC (rowCell (E := rnE) (xs := L) 2 rfl (x := x) hx (j := 1) rfl) (hasC (rowCell (E := rnE) (xs := L) 2 rfl (x := x) hx (j := 2) rfl) (hasC (rowCell (E := rnE) (xs := L) 2 rfl (x := x) hx (j := 3) rfl) (hasC (rowCell (E := rnE) (xs := L) 2 rfl (x := x) hx (j := 4) rfl) (hasC (rowCell (E := rnE) (xs := L) 2 rfl (x := x) hx (j := 5) rfl) has0)))))) ?_ 3 2
  refine Xs (Xn 95 [vi x.id, vi x.par, vi x.wt, vi x.pass, .bool x.thr, .bool x.rdy] (some 23) (fun b => .slice (some ⟨b, 0, none⟩) 1 1)) (fun b1 => ?_) 2
  refine Xh0 ?_ 1 2
  refine Xs (Xf (E := nE) 62 (.tmp 14) (.tmp 23) qa qc (L.take u) [x] (.slice (some ⟨b1, 0, none⟩) 1 1) 24 Tryz.underlying62 (nE_ety) (blkRd 1 rfl) (by simp only [List.length_take, List.length_cons, List.length_nil]; omega)) (fun r2 => ?_) 1
  refine Xe [(0,vp t), (2,.slice none 0 0), (3,.slice r2.1 (((L.take u) ++ [x]).length) r2.2), (4,vi u)] ?_ 1
  refine Xg 3 (Xe [(0,vp t), (2,.slice none 0 0), (3,.slice r2.1 (((L.take u) ++ [x]).length) r2.2), (4,vi (IntKind.i64.wrap ((u : Int) + 1)))] ?_ 3)
  rw [show IntKind.i64.wrap ((u : Int) + 1) = ((u : Int) + 1) by rw [w64 (by omega) (by omega)]]
  rw [hsn]
  refine PT.pick 1 rfl ?_
  refine PT.drop ?_
  refine Xp [(0,vp t), (2,.slice none 0 0), (3,.slice r2.1 ((L.take (u + 1)).length) r2.2), (4,vi ((u : Int) + 1))] ?_
  exact againG (k - 1) (r2, u + 1) rfl rfl (by omega) (by simp only; omega)
 ·skip
  have hu : u = L.length := by have := of_decide_eq_false h1; omega
  have htk : L.take u = L := List.take_of_length_le (by omega)
  refine Xx 0 (thenX (thenX (leaveR (Xq (Xg 2 (Xe [(2,.slice qa ((L.take u).length) qc)] ?_ 2))))))
  refine Xv ?_
  rw [htk]
  refine Y0 (.slice qa ((L).length) qc) (fun w hs => ?_)
  exact ⟨(qa, qc), rfl, hs⟩
/-! ## a node is changed where it stands -/
theorem set_at {L : List Nr} (hn : (L.map (·.id)).Nodup) {i : Nat} {x : Nr} (hx : L[i]? = some x) (f : Nr → Nr) : L.set i (f x) = upN L x.id f := by
 apply List.ext_getElem?
 intro j
 rw [List.getElem?_set, upN, List.getElem?_map]
 by_cases c : i = j
 ·subst c
  rw [if_pos rfl, if_pos (List.getElem?_eq_some_iff.1 hx).1, hx]; simp
 ·rw [if_neg c]
  cases hj : L[j]? with
  | none => rfl
  | some y =>
   have : y.id ≠ x.id := fun e => c (nd_at hn hx hj e.symm)
   simp [this]
theorem up_at {L : List Nr} (hn : (L.map (·.id)).Nodup) {i j : Nat} {x y : Nr} (hx : L[i]? = some x) (hj : L[j]? = some y) (hne : y.id ≠ x.id) (f : Nr → Nr) : (upN L x.id f)[j]? = some y := by
 rw [upN, List.getElem?_map, hj]; simp [hne]
def rdT (x : Nr) : Nr := { x with rdy := true }
theorem any_kid {L : List Nr} {g : Int} : (L.any fun x => x.par == g && x.rdy) = true ↔ kidR L g ≠ [] := by
 rw [List.any_eq_true]
 constructor
 ·rintro ⟨y, hy, h⟩
  exact List.ne_nil_of_mem (a := y) (List.mem_filter.2 ⟨hy, h⟩)
 ·intro h
  obtain ⟨y, hy⟩ := List.exists_mem_of_ne_nil _ h
  exact ⟨y, (List.mem_filter.1 hy).1, (List.mem_filter.1 hy).2⟩
set_option maxHeartbeats 1000000 in
set_option maxRecDepth 100000 in
theorem rready_walk (H : List SP) (t : Nat) (L : List Nr) (hw : WFN L) (id : Int) (r : Bool) : ∀ w, Sat w (rtS t L :: H) → Calls Tryz.prog 40 #[vp t, vi id, .bool r] w (Ret (ι := Unit) (fun _ => vi (readyN L id r).1) fun _ => rtS t (readyN L id r).2 :: H) := by
 have hsk := hw.sk
 have hnd := hsk.nd
 have hl := hsk.len
 obtain ⟨rk, hrk⟩ := hsk.rk
 have hne : L ≠ [] := by obtain ⟨r, hr, _⟩ := hsk.root; exact List.ne_nil_of_mem hr
 refine enterG (fn := Tryz.f40) 120 [vp t, vi id, .bool r] Tryz.func40 (by kernel_rfl) (by kernel_rfl) (by kernel_rfl) ?_
 refine PT.openRt fun b o c => ?_
 refine Xq (Xg 1 (Xe [(0,vp t), (1,vi id), (2,.bool r), (6,vi 0)] ?_ 1))
 refine Xq (Xg 4 (Xr [(0,vp t), (2,.bool r), (6,vi 0), (9,vp t), (10,vi id)] ?_ 2 2))
 cases hg : gt L id with
 | none =>
  have hix : ixL L id = -1 := ixL_no (gt_none.1 hg)
  refine Xs (Xa (some 11) (fun _ => vi (ixL L id)) (rat_walk H t b o c L id (by omega))) (fun _ => ?_) 1
  rw [show ixL L id = (-1) by exact hix]
  refine Xe [(0,vp t), (2,.bool r), (6,vi 0), (7,vi (-1))] ?_ 1
  refine Xq (Xq (Xg 14 (Xe [(0,vp t), (2,.bool r), (6,vi 0), (7,vi (-1)), (25,.bool true)] ?_ 14)))
  refine Xc true (fun _ => ?_) (fun h => by cases h)
  refine Xq (Xg 1 (Xe [(0,vp t), (2,.bool r), (6,vi 13), (7,vi (-1))] ?_ 1))
  refine Xv (thenV (Y1 (vi 13) (fun w hs => ?_)))
  exact ⟨(), by rw [readyN, hg], by rw [readyN, hg]; exact Sat.closeRt hne hs⟩
 | some x0 =>
  obtain ⟨i0, hi0, hix⟩ := ixL_gt hnd hg
  have hil := (List.getElem?_eq_some_iff.1 hi0).1
  refine Xs (Xa (some 11) (fun _ => vi (ixL L id)) (rat_walk H t b o c L id (by omega))) (fun _ => ?_) 1
  rw [show ixL L id = (i0 : Int) by exact hix]
  refine Xe [(0,vp t), (2,.bool r), (6,vi 0), (7,vi i0)] ?_ 1
  refine Xq (Xq (Xg 14 (Xr [(0,vp t), (2,.bool r), (6,vi 0), (7,vi i0), (14,.bool (decide ((i0 : Int) < 0)))] ?_ 11 3)))
  refine (Xs0 0 11 [(0,vp t), (2,.bool r), (6,vi 0), (7,vi i0), (25,.bool ((decide ((i0 : Int) < 0)) || (!x0.thr)))] ?_ ?_ : RT _ _ _ _ _ _ 11 _)
  ·cases hg3 : (decide ((i0 : Int) < 0)) with
   | true =>
    refine Xe [(0,vp t), (2,.bool r), (6,vi 0), (7,vi i0), (25,.bool true)] ?_ 11
    refine Xp [(0,vp t), (2,.bool r), (6,vi 0), (7,vi i0), (25,.bool (true || (!x0.thr)))] ?_
    exact midR () rfl rfl
   | false =>
    refine Xl [(0,vp t), (2,.bool r), (6,vi 0), (7,vi i0), (14,.bool false), (18,.slice (some ⟨b, o, none⟩) L.length c), (19,vi i0)] [(⟨t, 0, none⟩, .slice (some ⟨b, o, none⟩) L.length c)] (hasC (ba 0) has0) ?_ 6 5
    refine Xs (yldS (Xi 91 (.tmp 18) (.tmp 19) b o L.length c i0 7 97 (i0 : Int) 20 Tryz.underlying91)) (fun _ => ?_) 5
    refine Xm [(0,vp t), (2,.bool r), (6,vi 0), (7,vi i0), (25,.bool (!x0.thr))] [(⟨b, o + i0 * 7 + 4, none⟩, .bool x0.thr)] (hasC (rowCell (E := rnE) (xs := L) 1 rfl (x := x0) hi0 (j := 4) rfl) has0) ?_ 5
    refine Xp [(0,vp t), (2,.bool r), (6,vi 0), (7,vi i0), (25,.bool (false || (!x0.thr)))] ?_
    exact midR () rfl rfl
  refine endR ?_
  cases hthr : x0.thr with
  | false =>
   rw [show ((decide ((i0 : Int) < 0)) || (!false)) = true from by simp]
   refine Xc true (fun _ => ?_) (fun h => by cases h)
   refine Xq (Xg 1 (Xe [(0,vp t), (2,.bool r), (6,vi 13), (7,vi i0)] ?_ 1))
   refine Xv (thenV (Y0 (vi 13) (fun w hs => ?_)))
   exact ⟨(), by rw [readyN, hg]; simp [hthr], by rw [readyN, hg]; simp only [hthr]; exact Sat.closeRt hne hs⟩
  | true =>
   rw [show ((decide ((i0 : Int) < 0)) || (!true)) = false from by simp]
   refine PT.rowNil rnE 97 ?_
   refine Xc false (fun h => by cases h) (fun _ => ?_)
   refine Xk (Xq (Xg 9 (Xl [(0,vp t), (2,.bool r), (6,vi 0), (7,vi i0), (26,vp t), (30,.slice (some ⟨b, o, none⟩) L.length c)] [(⟨t, 0, none⟩, .slice (some ⟨b, o, none⟩) L.length c)] (hasC (ba 1) has0) ?_ 4 5)))
   refine Xs (Xf (E := rnE) 91 (.const (.slice none 0 0)) (.tmp 30) none 0 [] L (.slice (some ⟨b, o, none⟩) L.length c) 31 Tryz.underlying91 (rnE_ety) (rowKRat 2 rfl) (by simp; omega)) (fun r1 => ?_) 3
   rw [show ([] ++ L) = L by rfl]
   refine Xr [(31,.slice r1.1 L.length r1.2), (0,vp t), (2,.bool r), (6,vi 0), (7,vi i0), (33,vp t)] ?_ 1 2
   refine Xh0 ?_ 1 1
   refine Xs (Xz [(0,.slice r1.1 L.length r1.2)]) (fun _ => ?_) 0
   refine endR ?_
   refine Xq (Xb 0 ?_)
   refine PT.pick 2 rfl ?_
   refine PT.drop ?_
   refine PT.know (KR.isSome (s := ⟨r1.1, r1.2, L⟩) (rowKRat 1 rfl) hne) ?_
   rintro ⟨b2, o2, hA2⟩
   dsimp only at hA2
   rw [hA2]
   cases r with
   | true =>
    refine Xp [(0,vp t), (2,.bool true), (6,vi 0), (7,vi i0)] ?_
    refine loopG (fun (q : List Nr × Nat) => [(0, vp t), (2, .bool true), (6, vi 0), (7, vi (q.2 : Int))]) (fun (q : List Nr × Nat) => (blk t 93 [.slice (some ⟨b2, o2, none⟩) q.1.length r1.2] :: row rnE 97 (.slice (some ⟨b2, o2, none⟩) q.1.length r1.2) q.1 :: H)) (fun k (q : List Nr × Nat) => ∃ x, q.1[q.2]? = some x ∧ SK q.1 ∧ RK q.1 rk ∧ rk x.id ≤ k ∧ wakeN k q.1 x.id = wakeN 6 L id) 6 (L, i0) (by kernel_rfl) ⟨x0, hi0, hsk, hrk, Nat.le_trans (hrk x0 (List.mem_of_getElem? hi0)).2.2.1 (by omega), by rw [(gt_mem hg).2]⟩ ?_
    rintro k ⟨M, i⟩ ⟨x, hx, hsM, hrM, hk, hwk⟩
    simp only at hx hsM hrM hwk
    have hxM := List.mem_of_getElem? hx
    have hpos := hrM.pos hxM
    have hlM := hsM.len
    have hil := (List.getElem?_eq_some_iff.1 hx).1
    have hneM : M ≠ [] := List.ne_nil_of_mem hxM
    refine Xq (Xq (Xg 15 (Xr [(0,vp t), (2,.bool true), (6,vi 0), (7,vi i), (36,.bool (decide ((i : Int) ≥ 0)))] ?_ 12 3)))
    refine (Xs0 0 12 [(0,vp t), (2,.bool true), (6,vi 0), (7,vi i), (48,.bool ((decide ((i : Int) ≥ 0)) && (x.rdy != true)))] ?_ ?_ : RT _ _ _ _ _ _ 12 _)
    ·cases hg3 : (decide ((i : Int) ≥ 0)) with
     | true =>
      refine Xl [(0,vp t), (2,.bool true), (6,vi 0), (7,vi i), (36,.bool true), (40,.slice (some ⟨b2, o2, none⟩) M.length r1.2), (41,vi i)] [(⟨t, 0, none⟩, .slice (some ⟨b2, o2, none⟩) M.length r1.2)] (hasC (ba 0) has0) ?_ 7 5
      refine Xs (yldS (Xi 91 (.tmp 40) (.tmp 41) b2 o2 M.length r1.2 i 7 97 (i : Int) 42 Tryz.underlying91)) (fun _ => ?_) 6
      refine Xm [(0,vp t), (2,.bool true), (6,vi 0), (7,vi i), (48,.bool (x.rdy != true))] [(⟨b2, o2 + i * 7 + 5, none⟩, .bool x.rdy)] (hasC (rowCell (E := rnE) (xs := M) 1 rfl (x := x) hx (j := 5) rfl) has0) ?_ 6
      refine Xp [(0,vp t), (2,.bool true), (6,vi 0), (7,vi i), (48,.bool (true && (x.rdy != true)))] ?_
      exact midR () rfl rfl
     | false =>
      refine Xe [(0,vp t), (2,.bool true), (6,vi 0), (7,vi i), (48,.bool false)] ?_ 12
      refine Xp [(0,vp t), (2,.bool true), (6,vi 0), (7,vi i), (48,.bool (false && (x.rdy != true)))] ?_
      exact midR () rfl rfl
    refine endR ?_
    cases hxr : x.rdy with
    | true =>
     rw [show ((decide ((i : Int) ≥ 0)) && (true != true)) = false from by simp]
     refine Xc false (fun h => by cases h) (fun _ => ?_)
     refine Xx 0 (thenX (thenX (leaveR (Xq (Xg 1 (Xe [(6,vi 0)] ?_ 1))))))
     refine Xv ?_
     have hz : wakeN k M x.id = M := by cases k with | zero => rfl | succ k => rw [wakeN, gt_at hsM.nd hx]; simp [hxr]
     refine Y0 (vi 0) (fun w hs => ?_)
     exact ⟨(), by rw [readyN, hg]; simp [hthr], by rw [readyN, hg]; simp only [hthr, if_true]; rw [← hwk, hz]; exact Sat.closeRt hneM hs⟩
    | false =>
     rw [show ((decide ((i : Int) ≥ 0)) && (false != true)) = true from by simp]
     obtain ⟨k, rfl⟩ : ∃ k', k = k' + 1 := ⟨k - 1, by omega⟩
     cases hp : gt M x.par with
     | none =>
      have hixp : ixL M x.par = -1 := ixL_no (gt_none.1 hp)
      refine Xc true (fun _ => ?_) (fun h => by cases h)
      refine Xk (Xb 1 (Xq (Xg 12 (Xl [(0,vp t), (2,.bool true), (6,vi 0), (7,vi i), (49,vp t), (53,.slice (some ⟨b2, o2, none⟩) M.length r1.2), (54,vi i)] [(⟨t, 0, none⟩, .slice (some ⟨b2, o2, none⟩) M.length r1.2)] (hasC (ba 0) has0) ?_ 6 6))))
      refine Xs (yldS (Xi 91 (.tmp 53) (.tmp 54) b2 o2 M.length r1.2 i 7 97 (i : Int) 55 Tryz.underlying91)) (fun _ => ?_) 5
      refine Xl [(0,vp t), (2,.bool true), (6,vi 0), (7,vi i), (49,vp t), (58,vi x.par)] [(⟨b2, o2 + i * 7 + 1, none⟩, vi x.par)] (hasC (rowCell (E := rnE) (xs := M) 1 rfl (x := x) hx (j := 1) rfl) has0) ?_ 2 3
      refine Xs (Xa (some 59) (fun _ => vi (ixL M x.par)) (rat_walk H t b2 o2 r1.2 M x.par (by omega))) (fun _ => ?_) 1
      rw [show ixL M x.par = (-1) by exact hixp]
      refine Xe [(0,vp t), (2,.bool true), (6,vi 0), (7,vi i), (8,vi (-1))] ?_ 1
      refine Xq (Xq (Xg 5 (Xe [(0,vp t), (2,.bool true), (6,vi 0), (7,vi i), (8,vi (-1)), (64,.bool false)] ?_ 5)))
      refine Xc false (fun h => by cases h) (fun _ => ?_)
      refine Xk (Xq (Xg 10 (Xl [(0,vp t), (2,.bool true), (6,vi 0), (7,vi i), (8,vi (-1)), (94,.slice (some ⟨b2, o2, none⟩) M.length r1.2), (95,vi i), (96,.bool true)] [(⟨t, 0, none⟩, .slice (some ⟨b2, o2, none⟩) M.length r1.2)] (hasC (ba 0) has0) ?_ 4 6)))
      refine Xs (yldS (Xi 91 (.tmp 94) (.tmp 95) b2 o2 M.length r1.2 i 7 97 (i : Int) 97 Tryz.underlying91)) (fun _ => ?_) 3
      refine Xr [(0,vp t), (2,.bool true), (6,vi 0), (7,vi i), (8,vi (-1)), (96,.bool true), (99,.pointer (some ⟨b2, o2 + i * 7 + 5, none⟩))] ?_ 1 2
      refine Xh0 ?_ 1 1
      refine Xs (setS (E := rnE) (J := i) (j := 5) x (rdT x) (.bool true) ⟨b2, o2 + i * 7 + 5, none⟩ (fun _ => by kernel_rfl) (by first | rfl | simp) (hx) (rfl) (by decide)) (fun _ => ?_) 0
      refine endR ?_
      refine Xq (Xq (Xg 19 (Xe [(0,vp t), (2,.bool true), (6,vi 0), (7,vi i), (8,vi (-1)), (118,.bool true)] ?_ 19)))
      refine Xc true (fun _ => ?_) (fun h => by cases h)
      refine Xx 0 (thenX ?_)
      refine passR (by decide) ?_
      refine thenX (leaveR (Xq (Xg 1 (Xe [(6, vi 0)] ?_ 1))))
      refine Xv ?_
      rw [show M.length = (upN M x.id rdT).length by simp [upN]]
      rw [show (M.set i (rdT x)) = (upN M x.id rdT) by exact set_at hsM.nd hx rdT]
      have hz : wakeN (k + 1) M x.id = upN M x.id rdT := by rw [wakeN, gt_at hsM.nd hx]; simp [hxr, hp]; rfl
      refine PT.pick 0 rfl ?_
      refine PT.pick 1 rfl ?_
      refine Y0 (vi 0) (fun w hs => ?_)
      exact ⟨(), by rw [readyN, hg]; simp [hthr], by rw [readyN, hg]; simp only [hthr, if_true]; rw [← hwk, hz]; exact Sat.closeRt (by simp [upN]; exact hneM) hs⟩
     | some p =>
      obtain ⟨j, hj, hixp⟩ := ixL_gt hsM.nd hp
      have hjl := (List.getElem?_eq_some_iff.1 hj).1
      have hpi := (gt_mem hp).2
      have hxp := hsM.ne_par hxM
      refine Xc true (fun _ => ?_) (fun h => by cases h)
      refine Xk (Xb 1 (Xq (Xg 12 (Xl [(0,vp t), (2,.bool true), (6,vi 0), (7,vi i), (49,vp t), (53,.slice (some ⟨b2, o2, none⟩) M.length r1.2), (54,vi i)] [(⟨t, 0, none⟩, .slice (some ⟨b2, o2, none⟩) M.length r1.2)] (hasC (ba 0) has0) ?_ 6 6))))
      refine Xs (yldS (Xi 91 (.tmp 53) (.tmp 54) b2 o2 M.length r1.2 i 7 97 (i : Int) 55 Tryz.underlying91)) (fun _ => ?_) 5
      refine Xl [(0,vp t), (2,.bool true), (6,vi 0), (7,vi i), (49,vp t), (58,vi x.par)] [(⟨b2, o2 + i * 7 + 1, none⟩, vi x.par)] (hasC (rowCell (E := rnE) (xs := M) 1 rfl (x := x) hx (j := 1) rfl) has0) ?_ 2 3
      refine Xs (Xa (some 59) (fun _ => vi (ixL M x.par)) (rat_walk H t b2 o2 r1.2 M x.par (by omega))) (fun _ => ?_) 1
      rw [show ixL M x.par = (j : Int) by exact hixp]
      refine Xe [(0,vp t), (2,.bool true), (6,vi 0), (7,vi i), (8,vi j)] ?_ 1
      refine Xq (Xq (Xg 5 (Xe [(0,vp t), (2,.bool true), (6,vi 0), (7,vi i), (8,vi j), (64,.bool (decide ((j : Int) ≥ 0)))] ?_ 5)))
      rw [show (decide ((j : Int) ≥ 0)) = true from by first | exact decide_eq_true (by omega) | (simp; done) | (simp; omega)]
      refine Xc true (fun _ => ?_) (fun h => by cases h)
      refine Xy0 0 [26] 27 ?_
      refine Xt [0, 1, 2, 3, 4, 5, 6, 7, 8, 9, 14, 15, 16, 17, 18] [(0,vp t), (2,.bool true), (6,vi 0), (7,vi i), (8,vi j), (68,.slice (some ⟨b2, o2, none⟩) M.length r1.2), (69,vi i), (73,.slice (some ⟨b2, o2, none⟩) M.length r1.2), (74,vi i), (82,.slice (some ⟨b2, o2, none⟩) M.length r1.2), (83,vi j)] [(⟨t, 0, none⟩, .slice (some ⟨b2, o2, none⟩) M.length r1.2), (⟨t, 0, none⟩, .slice (some ⟨b2, o2, none⟩) M.length r1.2), (⟨t, 0, none⟩, .slice (some ⟨b2, o2, none⟩) M.length r1.2)] (hasC (ba 0) (hasC (ba 0) (hasC (ba 0) has0))) ?_
      refine Xu 10 (Xi 91 (.tmp 73) (.tmp 74) b2 o2 M.length r1.2 i 7 97 (i : Int) 75 Tryz.underlying91) ?_
      refine Xt [11, 12, 13] [(0,vp t), (2,.bool true), (6,vi 0), (7,vi i), (8,vi j), (68,.slice (some ⟨b2, o2, none⟩) M.length r1.2), (69,vi i), (82,.slice (some ⟨b2, o2, none⟩) M.length r1.2), (83,vi j), (78,vi x.pass)] [(⟨b2, o2 + i * 7 + 3, none⟩, vi x.pass)] (hasC (rowCell (E := rnE) (xs := M) 1 rfl (x := x) hx (j := 3) rfl) has0) ?_
      refine Xu 19 (Xi 91 (.tmp 82) (.tmp 83) b2 o2 M.length r1.2 j 7 97 (j : Int) 84 Tryz.underlying91) ?_
      refine Xt [20, 21, 22] [(0,vp t), (2,.bool true), (6,vi 0), (7,vi i), (8,vi j), (68,.slice (some ⟨b2, o2, none⟩) M.length r1.2), (69,vi i), (87,vi (mxI x.pass p.now))] [(⟨b2, o2 + j * 7 + 6, none⟩, vi p.now)] (hasC (rowCell (E := rnE) (xs := M) 1 rfl (x := p) hj (j := 6) rfl) has0) ?_
      refine Xu 23 (Xi 91 (.tmp 68) (.tmp 69) b2 o2 M.length r1.2 i 7 97 (i : Int) 88 Tryz.underlying91) ?_
      refine Xt [24, 25] [(0,vp t), (2,.bool true), (6,vi 0), (7,vi i), (8,vi j), (87,vi (mxI x.pass p.now)), (90,.pointer (some ⟨b2, o2 + i * 7 + 3, none⟩))] [] has0 ?_
      refine DT.pick 1 rfl ?_
      refine Xo 26 (setS (E := rnE) (J := i) (j := 3) x (psF (mxI x.pass p.now) x) (.int .i64 (mxI x.pass p.now)) ⟨b2, o2 + i * 7 + 3, none⟩ (fun _ => by kernel_rfl) (by first | rfl | simp) (hx) (rfl) (by decide)) (fun _ => ?_)
      refine Xd (Xq (Xg 10 (Xl [(0,vp t), (2,.bool true), (6,vi 0), (7,vi i), (8,vi j), (94,.slice (some ⟨b2, o2, none⟩) M.length r1.2), (95,vi i), (96,.bool true)] [(⟨t, 0, none⟩, .slice (some ⟨b2, o2, none⟩) M.length r1.2)] (hasC (ba 1) has0) ?_ 4 6)))
      refine Xs (yldS (Xi 91 (.tmp 94) (.tmp 95) b2 o2 M.length r1.2 i 7 97 (i : Int) 97 Tryz.underlying91)) (fun _ => ?_) 3
      refine Xr [(0,vp t), (2,.bool true), (6,vi 0), (7,vi i), (8,vi j), (96,.bool true), (99,.pointer (some ⟨b2, o2 + i * 7 + 5, none⟩))] ?_ 1 2
      refine Xs (setS (E := rnE) (J := i) (j := 5) (psF (mxI x.pass p.now) x) (wkF p.now x) (.bool true) ⟨b2, o2 + i * 7 + 5, none⟩ (fun _ => by kernel_rfl) (by first | rfl | simp) (List.getElem?_set_self hil) (rfl) (by decide)) (fun _ => ?_) 0
      refine endR ?_
      refine Xq (Xq (Xg 19 (Xr [(0,vp t), (2,.bool true), (6,vi 0), (7,vi i), (8,vi j), (102,.bool (decide ((j : Int) < 0)))] ?_ 16 3)))
      refine (Xs0 0 16 [(0,vp t), (2,.bool true), (6,vi 0), (7,vi i), (8,vi j), (118,.bool ((decide ((j : Int) < 0)) || false))] ?_ ?_ : RT _ _ _ _ _ _ 16 _)
      ·cases hg3 : (decide ((j : Int) < 0)) with
       | true =>
        refine Xe [(0,vp t), (2,.bool true), (6,vi 0), (7,vi i), (8,vi j), (118,.bool true)] ?_ 16
        refine Xp [(0,vp t), (2,.bool true), (6,vi 0), (7,vi i), (8,vi j), (118,.bool (true || false))] ?_
        exact midR () rfl rfl
       | false =>
        refine Xe [(0,vp t), (2,.bool true), (6,vi 0), (7,vi i), (8,vi j), (118,.bool false)] ?_ 16
        refine Xp [(0,vp t), (2,.bool true), (6,vi 0), (7,vi i), (8,vi j), (118,.bool (false || false))] ?_
        exact midR () rfl rfl
      refine endR ?_
      rw [show ((decide ((j : Int) < 0)) || false) = false from by simp]
      refine Xc false (fun h => by cases h) (fun _ => ?_)
      refine Xk (Xg 2 (Xe [(0,vp t), (2,.bool true), (6,vi 0), (7,vi j)] ?_ 2))
      rw [show M.length = (upN M x.id (wkF p.now)).length by simp [upN]]
      rw [show ((M.set i (psF (mxI x.pass p.now) x)).set i (wkF p.now x)) = (upN M x.id (wkF p.now)) by rw [List.set_set]; exact set_at hsM.nd hx (wkF p.now)]
      have hwk2 : wakeN (k + 1) M x.id = wakeN k (upN M x.id (wkF p.now)) p.id := by rw [wakeN, gt_at hsM.nd hx]; simp only [hxr, hp, Bool.false_eq_true, if_false]; rw [hpi]; rfl
      refine PT.pick 0 rfl ?_
      refine PT.pick 1 rfl ?_
      refine Xp [(0,vp t), (2,.bool true), (6,vi 0), (7,vi j)] ?_
      exact againG k (upN M x.id (wkF p.now), j) rfl rfl (by omega) ⟨p, up_at hsM.nd hx hj (by rw [hpi]; exact fun e => hxp e.symm) _, hsM.upN (wkF_skel _), hrM.ups (wkF_skel _), by have := RK.up hsM hrM hxM (gt_mem hp).1 hpi; omega, by rw [← hwk2, hwk]⟩
   | false =>
    have hk0 : kidR L x0.id = [] := by
     cases hkk : kidR L x0.id with
     | nil => rfl
     | cons y ys =>
      have hy : y ∈ kidR L x0.id := by rw [hkk]; simp
      obtain ⟨h1, h2, _⟩ := mem_kidR.1 hy
      exact absurd h2 (thr_leaf hsk (List.mem_of_getElem? hi0) hthr y h1)
    refine Xp [(0,vp t), (2,.bool false), (6,vi 0), (7,vi i0)] ?_
    refine loopG (fun (q : List Nr × Nat) => [(0, vp t), (2, .bool false), (6, vi 0), (7, vi (q.2 : Int))]) (fun (q : List Nr × Nat) => (blk t 93 [.slice (some ⟨b2, o2, none⟩) q.1.length r1.2] :: row rnE 97 (.slice (some ⟨b2, o2, none⟩) q.1.length r1.2) q.1 :: H)) (fun k (q : List Nr × Nat) => ∃ x, q.1[q.2]? = some x ∧ SK q.1 ∧ RK q.1 rk ∧ rk x.id ≤ k ∧ kidR q.1 x.id = [] ∧ restN k q.1 x.id = restN 6 L id) 6 (L, i0) (by kernel_rfl) ⟨x0, hi0, hsk, hrk, Nat.le_trans (hrk x0 (List.mem_of_getElem? hi0)).2.2.1 (by omega), hk0, by rw [(gt_mem hg).2]⟩ ?_
    rintro k ⟨M, i⟩ ⟨x, hx, hsM, hrM, hk, hkM, hwk⟩
    simp only at hx hsM hrM hkM hwk
    have hxM := List.mem_of_getElem? hx
    have hpos := hrM.pos hxM
    have hlM := hsM.len
    have hil := (List.getElem?_eq_some_iff.1 hx).1
    have hneM : M ≠ [] := List.ne_nil_of_mem hxM
    refine Xq (Xq (Xg 15 (Xr [(0,vp t), (2,.bool false), (6,vi 0), (7,vi i), (36,.bool (decide ((i : Int) ≥ 0)))] ?_ 12 3)))
    refine (Xs0 0 12 [(0,vp t), (2,.bool false), (6,vi 0), (7,vi i), (48,.bool ((decide ((i : Int) ≥ 0)) && (x.rdy != false)))] ?_ ?_ : RT _ _ _ _ _ _ 12 _)
    ·cases hg3 : (decide ((i : Int) ≥ 0)) with
     | true =>
      refine Xl [(0,vp t), (2,.bool false), (6,vi 0), (7,vi i), (36,.bool true), (40,.slice (some ⟨b2, o2, none⟩) M.length r1.2), (41,vi i)] [(⟨t, 0, none⟩, .slice (some ⟨b2, o2, none⟩) M.length r1.2)] (hasC (ba 0) has0) ?_ 7 5
      refine Xs (yldS (Xi 91 (.tmp 40) (.tmp 41) b2 o2 M.length r1.2 i 7 97 (i : Int) 42 Tryz.underlying91)) (fun _ => ?_) 6
      refine Xm [(0,vp t), (2,.bool false), (6,vi 0), (7,vi i), (48,.bool (x.rdy != false))] [(⟨b2, o2 + i * 7 + 5, none⟩, .bool x.rdy)] (hasC (rowCell (E := rnE) (xs := M) 1 rfl (x := x) hx (j := 5) rfl) has0) ?_ 6
      refine Xp [(0,vp t), (2,.bool false), (6,vi 0), (7,vi i), (48,.bool (true && (x.rdy != false)))] ?_
      exact midR () rfl rfl
     | false =>
      refine Xe [(0,vp t), (2,.bool false), (6,vi 0), (7,vi i), (48,.bool false)] ?_ 12
      refine Xp [(0,vp t), (2,.bool false), (6,vi 0), (7,vi i), (48,.bool (false && (x.rdy != false)))] ?_
      exact midR () rfl rfl
    refine endR ?_
    cases hxr : x.rdy with
    | false =>
     rw [show ((decide ((i : Int) ≥ 0)) && (false != false)) = false from by simp]
     refine Xc false (fun h => by cases h) (fun _ => ?_)
     refine Xx 0 (thenX (thenX (leaveR (Xq (Xg 1 (Xe [(6,vi 0)] ?_ 1))))))
     refine Xv ?_
     have hz : restN k M x.id = M := by cases k with | zero => rfl | succ k => rw [restN, gt_at hsM.nd hx]; simp [hxr]
     refine Y0 (vi 0) (fun w hs => ?_)
     exact ⟨(), by rw [readyN, hg]; simp [hthr], by rw [readyN, hg]; simp only [hthr, if_true, Bool.false_eq_true, if_false]; rw [← hwk, hz]; exact Sat.closeRt hneM hs⟩
    | true =>
     rw [show ((decide ((i : Int) ≥ 0)) && (true != false)) = true from by simp]
     obtain ⟨k, rfl⟩ : ∃ k', k = k' + 1 := ⟨k - 1, by omega⟩
     cases hp : gt M x.par with
     | none =>
      have hixp : ixL M x.par = -1 := ixL_no (gt_none.1 hp)
      refine Xc true (fun _ => ?_) (fun h => by cases h)
      refine Xk (Xb 1 (Xq (Xg 12 (Xl [(0,vp t), (2,.bool false), (6,vi 0), (7,vi i), (49,vp t), (53,.slice (some ⟨b2, o2, none⟩) M.length r1.2), (54,vi i)] [(⟨t, 0, none⟩, .slice (some ⟨b2, o2, none⟩) M.length r1.2)] (hasC (ba 0) has0) ?_ 6 6))))
      refine Xs (yldS (Xi 91 (.tmp 53) (.tmp 54) b2 o2 M.length r1.2 i 7 97 (i : Int) 55 Tryz.underlying91)) (fun _ => ?_) 5
      refine Xl [(0,vp t), (2,.bool false), (6,vi 0), (7,vi i), (49,vp t), (58,vi x.par)] [(⟨b2, o2 + i * 7 + 1, none⟩, vi x.par)] (hasC (rowCell (E := rnE) (xs := M) 1 rfl (x := x) hx (j := 1) rfl) has0) ?_ 2 3
      refine Xs (Xa (some 59) (fun _ => vi (ixL M x.par)) (rat_walk H t b2 o2 r1.2 M x.par (by omega))) (fun _ => ?_) 1
      rw [show ixL M x.par = (-1) by exact hixp]
      refine Xe [(0,vp t), (2,.bool false), (6,vi 0), (7,vi i), (8,vi (-1))] ?_ 1
      refine Xq (Xq (Xg 5 (Xe [(0,vp t), (2,.bool false), (6,vi 0), (7,vi i), (8,vi (-1)), (64,.bool false)] ?_ 5)))
      refine Xc false (fun h => by cases h) (fun _ => ?_)
      refine Xk (Xq (Xg 10 (Xl [(0,vp t), (2,.bool false), (6,vi 0), (7,vi i), (8,vi (-1)), (94,.slice (some ⟨b2, o2, none⟩) M.length r1.2), (95,vi i), (96,.bool false)] [(⟨t, 0, none⟩, .slice (some ⟨b2, o2, none⟩) M.length r1.2)] (hasC (ba 0) has0) ?_ 4 6)))
      refine Xs (yldS (Xi 91 (.tmp 94) (.tmp 95) b2 o2 M.length r1.2 i 7 97 (i : Int) 97 Tryz.underlying91)) (fun _ => ?_) 3
      refine Xr [(0,vp t), (2,.bool false), (6,vi 0), (7,vi i), (8,vi (-1)), (96,.bool false), (99,.pointer (some ⟨b2, o2 + i * 7 + 5, none⟩))] ?_ 1 2
      refine Xh0 ?_ 1 1
      refine Xs (setS (E := rnE) (J := i) (j := 5) x (rsF x) (.bool false) ⟨b2, o2 + i * 7 + 5, none⟩ (fun _ => by kernel_rfl) (by first | rfl | simp) (hx) (rfl) (by decide)) (fun _ => ?_) 0
      refine endR ?_
      refine Xq (Xq (Xg 19 (Xe [(0,vp t), (2,.bool false), (6,vi 0), (7,vi i), (8,vi (-1)), (118,.bool true)] ?_ 19)))
      refine Xc true (fun _ => ?_) (fun h => by cases h)
      refine Xx 0 (thenX ?_)
      refine passR (by decide) ?_
      refine thenX (leaveR (Xq (Xg 1 (Xe [(6, vi 0)] ?_ 1))))
      refine Xv ?_
      rw [show M.length = (upN M x.id rsF).length by simp [upN]]
      rw [show (M.set i (rsF x)) = (upN M x.id rsF) by exact set_at hsM.nd hx rsF]
      have hz : restN (k + 1) M x.id = upN M x.id rsF := by rw [restN, gt_at hsM.nd hx]; simp only [hxr, hkM, hp]; simp; rfl
      refine PT.pick 0 rfl ?_
      refine PT.pick 1 rfl ?_
      refine Y0 (vi 0) (fun w hs => ?_)
      exact ⟨(), by rw [readyN, hg]; simp [hthr], by rw [readyN, hg]; simp only [hthr, if_true, Bool.false_eq_true, if_false]; rw [← hwk, hz]; exact Sat.closeRt (by simp [upN]; exact hneM) hs⟩
     | some p =>
      obtain ⟨j, hj, hixp⟩ := ixL_gt hsM.nd hp
      have hjl := (List.getElem?_eq_some_iff.1 hj).1
      have hpi := (gt_mem hp).2
      have hxp := hsM.ne_par hxM
      have hj2 : (upN M x.id rsF)[j]? = some p := up_at hsM.nd hx hj (by rw [hpi]; exact fun e => hxp e.symm) _
      have hlu : (upN M x.id rsF).length = M.length := by simp [upN]
      have hwk2 : restN (k + 1) M x.id = restN k (upN M x.id rsF) p.id := by rw [restN, gt_at hsM.nd hx]; simp only [hxr, hkM, hp]; simp only [reduceCtorEq, ne_eq, not_true_eq_false, or_self, if_false]; rw [hpi]; rfl
      refine Xc true (fun _ => ?_) (fun h => by cases h)
      refine Xk (Xb 1 (Xq (Xg 12 (Xl [(0,vp t), (2,.bool false), (6,vi 0), (7,vi i), (49,vp t), (53,.slice (some ⟨b2, o2, none⟩) M.length r1.2), (54,vi i)] [(⟨t, 0, none⟩, .slice (some ⟨b2, o2, none⟩) M.length r1.2)] (hasC (ba 0) has0) ?_ 6 6))))
      refine Xs (yldS (Xi 91 (.tmp 53) (.tmp 54) b2 o2 M.length r1.2 i 7 97 (i : Int) 55 Tryz.underlying91)) (fun _ => ?_) 5
      refine Xl [(0,vp t), (2,.bool false), (6,vi 0), (7,vi i), (49,vp t), (58,vi x.par)] [(⟨b2, o2 + i * 7 + 1, none⟩, vi x.par)] (hasC (rowCell (E := rnE) (xs := M) 1 rfl (x := x) hx (j := 1) rfl) has0) ?_ 2 3
      refine Xs (Xa (some 59) (fun _ => vi (ixL M x.par)) (rat_walk H t b2 o2 r1.2 M x.par (by omega))) (fun _ => ?_) 1
      rw [show ixL M x.par = (j : Int) by exact hixp]
      refine Xe [(0,vp t), (2,.bool false), (6,vi 0), (7,vi i), (8,vi j)] ?_ 1
      refine Xq (Xq (Xg 5 (Xe [(0,vp t), (2,.bool false), (6,vi 0), (7,vi i), (8,vi j), (64,.bool false)] ?_ 5)))
      refine Xc false (fun h => by cases h) (fun _ => ?_)
      refine Xk (Xq (Xg 10 (Xl [(0,vp t), (2,.bool false), (6,vi 0), (7,vi i), (8,vi j), (94,.slice (some ⟨b2, o2, none⟩) M.length r1.2), (95,vi i), (96,.bool false)] [(⟨t, 0, none⟩, .slice (some ⟨b2, o2, none⟩) M.length r1.2)] (hasC (ba 0) has0) ?_ 4 6)))
      refine Xs (yldS (Xi 91 (.tmp 94) (.tmp 95) b2 o2 M.length r1.2 i 7 97 (i : Int) 97 Tryz.underlying91)) (fun _ => ?_) 3
      refine Xr [(0,vp t), (2,.bool false), (6,vi 0), (7,vi i), (8,vi j), (96,.bool false), (99,.pointer (some ⟨b2, o2 + i * 7 + 5, none⟩))] ?_ 1 2
      refine Xh0 ?_ 1 1
      refine Xs (setS (E := rnE) (J := i) (j := 5) x (rsF x) (.bool false) ⟨b2, o2 + i * 7 + 5, none⟩ (fun _ => by kernel_rfl) (by first | rfl | simp) (hx) (rfl) (by decide)) (fun _ => ?_) 0
      rw [show M.length = (upN M x.id rsF).length by simp [upN]]
      rw [show (M.set i (rsF x)) = (upN M x.id rsF) by exact set_at hsM.nd hx rsF]
      refine endR ?_
      refine PT.pick 0 rfl ?_
      refine PT.pick 1 rfl ?_
      refine Xq (Xq (Xg 19 (Xr [(0,vp t), (2,.bool false), (6,vi 0), (7,vi i), (8,vi j), (102,.bool (decide ((j : Int) < 0)))] ?_ 16 3)))
      rw [show (decide ((j : Int) < 0)) = false from by first | exact decide_eq_false (by omega) | (simp; done) | (simp; omega)]
      refine Xl [(0,vp t), (2,.bool false), (6,vi 0), (7,vi i), (8,vi j), (102,.bool false), (105,.bool true), (106,vp t), (110,.slice (some ⟨b2, o2, none⟩) ((upN M x.id rsF).length) r1.2), (111,vi j)] [(⟨t, 0, none⟩, .slice (some ⟨b2, o2, none⟩) ((upN M x.id rsF).length) r1.2)] (hasC (ba 0) has0) ?_ 7 9
      refine Xs (yldS (Xi 91 (.tmp 110) (.tmp 111) b2 o2 ((upN M x.id rsF).length) r1.2 j 7 97 (j : Int) 112 Tryz.underlying91)) (fun _ => ?_) 6
      refine Xl [(0,vp t), (2,.bool false), (6,vi 0), (7,vi i), (8,vi j), (102,.bool false), (105,.bool true), (106,vp t), (115,vi p.id)] [(⟨b2, o2 + j * 7, none⟩, vi p.id)] (hasC (rowCell (E := rnE) (xs := upN M x.id rsF) 1 rfl (x := p) hj2 (j := 0) rfl) has0) ?_ 3 3
      refine Xs (Xa (some 116) (fun _ => .bool ((upN M x.id rsF).any fun x => x.par == p.id && x.rdy)) (rsome_walk H t b2 o2 r1.2 (upN M x.id rsF) p.id (by simp [upN]; omega))) (fun _ => ?_) 2
      refine Xe [(0,vp t), (2,.bool false), (6,vi 0), (7,vi i), (8,vi j), (118,.bool ((upN M x.id rsF).any fun x => x.par == p.id && x.rdy))] ?_ 2
      refine Xc ((upN M x.id rsF).any fun x => x.par == p.id && x.rdy) (fun h9 => ?_) (fun h9 => ?_)
      ·skip
       have h9 := any_kid.1 h9
       have hz : restN k (upN M x.id rsF) p.id = upN M x.id rsF := by cases k with | zero => rfl | succ k => rw [restN, gt_at (hsM.upN rsF_skel).nd hj2]; simp [h9]
       refine Xx 0 (thenX ?_)
       refine passR (by decide) ?_
       refine thenX (leaveR (Xq (Xg 1 (Xe [(6, vi 0)] ?_ 1))))
       refine Xv (Y0 (vi 0) (fun w hs => ?_))
       exact ⟨(), by rw [readyN, hg]; simp [hthr], by rw [readyN, hg]; simp only [hthr, if_true, Bool.false_eq_true, if_false]; rw [← hwk, hwk2, hz]; exact Sat.closeRt (by simp [upN]; exact hneM) hs⟩
      ·skip
       have h9 : kidR (upN M x.id rsF) p.id = [] := Classical.byContradiction fun c => by rw [any_kid.2 c] at h9; cases h9
       refine Xk (Xg 2 (Xe [(0,vp t), (2,.bool false), (6,vi 0), (7,vi j)] ?_ 2))
       refine Xp [(0,vp t), (2,.bool false), (6,vi 0), (7,vi j)] ?_
       exact againG k (upN M x.id rsF, j) rfl rfl (by omega) ⟨p, hj2, hsM.upN rsF_skel, hrM.ups rsF_skel, by have := RK.up hsM hrM hxM (gt_mem hp).1 hpi; omega, h9, by rw [← hwk2, hwk]⟩
end Go.Proofs.YtlhjibkkkhgonaaGreatDoor
set_option linter.unusedVariables false
set_option linter.unusedSimpArgs false
namespace Go.Proofs.YtlhjibkkkhgonaaGreatDoor
open Go.RowKit G
theorem PT.closeRt {n : Nat} {X : List (Nat × Value)} {t : Nat} {L : List Nr} {A : Option Addr} {c : Nat} {H : List SP} {Φ : Act → World → Prop} (hn : L ≠ []) (h : PT n X (rtS t L :: H) Φ) : PT n X (blk t 93 [.slice A L.length c] :: row rnE 97 (.slice A L.length c) L :: H) Φ := PT.sat (fun _ hs => Sat.closeRt hn hs) h
theorem scale_mid {p n f t : Int} (hf : isW f = true) (ht : isW t = true) (h0 : n < p) (hpn : p ≤ n + strd f) : 0 ≤ (p - n) * strd t ∧ (p - n) * strd t ≤ 519437318400 := by
 have h1 := strd_pos hf
 have h2 := strd_pos ht
 refine ⟨Int.mul_nonneg (by omega) (by omega), ?_⟩
 have := Int.mul_le_mul (a := p - n) (b := strd t) (c := 720720) (d := 720720) (by omega) (by omega) (by omega) (by omega)
 omega
theorem rscale_walk (H : List SP) {p n f t : Int} (hp : 0 ≤ p) (hn : 0 ≤ n ∧ n ≤ 16777216) (hf : isW f = true) (ht : isW t = true) (hpn : p ≤ n + strd f) : ∀ w, Sat w H → Calls Tryz.prog 65 #[vi p, vi n, vi f, vi t] w (Ret (ι := Unit) (fun _ => vi (scaleN p n f t)) fun _ => H) := by
 have hsf := strd_pos hf
 have hst := strd_pos ht
 refine enterG (fn := Tryz.f65) 24 [vi p, vi n, vi f, vi t] Tryz.func65 (by kernel_rfl) (by kernel_rfl) (by kernel_rfl) ?_
 refine Xq (Xg 1 (Xe [(0,vi p), (1,vi n), (2,vi f), (3,vi t), (8,vi 0)] ?_ 1))
 refine Xq (Xq (Xg 3 (Xe [(0,vi p), (1,vi n), (2,vi f), (3,vi t), (8,vi 0), (11,.bool (decide (p ≤ n)))] ?_ 3)))
 refine Xc (decide (p ≤ n)) (fun h1 => ?_) (fun h1 => ?_)
 ·skip
  have h1 := of_decide_eq_true h1
  refine Xq (Xg 2 (Xe [(0,vi p), (1,vi n), (2,vi f), (3,vi t), (8,vi p)] ?_ 2))
  refine Xv (thenV (Y0 (vi p) (fun w hs => ?_)))
  exact ⟨(), by rw [scaleN, if_pos (.inl h1)], hs⟩
 ·skip
  have h1 := of_decide_eq_false h1
  have hm := scale_mid hf ht (by omega) hpn
  obtain ⟨D, hD⟩ : ∃ D, (p - n) * strd t = D := ⟨_, rfl⟩
  rw [hD] at hm
  have hq := tdiv_le hm.1 hsf.1
  refine Xk (Xq (Xg 12 (Xr [(2,vi f), (8,vi 0), (13,vi n), (16,vi (IntKind.i64.wrap (p - n))), (17,vi t)] ?_ 7 5)))
  refine Xs (Xa (some 18) (fun _ => vi (strd t)) (rOf_walk _ t)) (fun _ => ?_) 6
  refine Xr [(8,vi 0), (13,vi n), (19,vi (IntKind.i64.wrap ((IntKind.i64.wrap (p - n)) * (strd t)))), (20,vi f)] ?_ 4 2
  refine Xs (Xa (some 21) (fun _ => vi (strd f)) (rOf_walk _ f)) (fun _ => ?_) 3
  rw [show IntKind.i64.wrap (p - n) = (p - n) by rw [w64 (by omega) (by omega)]]
  rw [show ((p - n) * (strd t)) = D by exact hD]
  rw [show IntKind.i64.wrap D = D by rw [w64 (by omega) (by omega)]]
  refine Xs (yldS (binY .quo 3 3 (.tmp 19) (.tmp 21) (.int .i64 D) (.int .i64 (strd f)) (.int .i64 (IntKind.i64.wrap ((D : Int).tdiv (strd f)))) (some 22) (fun _ => by kernel_rfl) (by kernel_rfl) (by kernel_rfl) (fun _ => by kernel_rfl) (fun _ => by kernel_rfl) (quoR (t' := 0) (by omega)))) (fun _ => ?_) 2
  rw [show IntKind.i64.wrap ((D : Int).tdiv (strd f)) = ((D : Int).tdiv (strd f)) by rw [w64 (by omega) (by omega)]]
  refine Xe [(8,vi (IntKind.i64.wrap (n + ((D : Int).tdiv (strd f)))))] ?_ 2
  refine Xv ?_
  rw [show IntKind.i64.wrap (n + ((D : Int).tdiv (strd f))) = (n + ((D : Int).tdiv (strd f))) by rw [w64 (by omega) (by omega)]]
  refine Y0 (vi (n + ((D : Int).tdiv (strd f)))) (fun w hs => ?_)
  exact ⟨(), by rw [scaleN, if_neg (by omega), hD], hs⟩
def wsF (q W : Int) (x : Nr) : Nr := { x with pass := scaleN x.pass q x.wt W, wt := W }
set_option maxHeartbeats 1000000 in
set_option maxRecDepth 100000 in
theorem rweight_walk (H : List SP) (t : Nat) (L : List Nr) (hw : WFN L) (id W : Int) : ∀ w, Sat w (rtS t L :: H) → Calls Tryz.prog 21 #[vp t, vi id, vi W] w (Ret (ι := Unit) (fun _ => vi (weightN L id W).1) fun _ => rtS t (weightN L id W).2 :: H) := by
 have hsk := hw.sk
 have hnd := hsk.nd
 have hl := hsk.len
 have hne : L ≠ [] := by obtain ⟨r, hr, _⟩ := hsk.root; exact List.ne_nil_of_mem hr
 refine enterG (fn := Tryz.f21) 65 [vp t, vi id, vi W] Tryz.func21 (by kernel_rfl) (by kernel_rfl) (by kernel_rfl) ?_
 refine PT.openRt fun b o c => ?_
 refine Xq (Xg 1 (Xe [(0,vp t), (1,vi id), (2,vi W), (6,vi 0)] ?_ 1))
 refine Xq (Xq (Xg 3 (Xr [(0,vp t), (1,vi id), (2,vi W), (6,vi 0), (9,vi W)] ?_ 2 1)))
 refine Xs (Xa (some 10) (fun _ => .bool (isW W)) (rIsW_walk _ W)) (fun _ => ?_) 1
 refine Xe [(0,vp t), (1,vi id), (2,vi W), (6,vi 0), (11,.bool (!(isW W)))] ?_ 1
 cases hW : isW W with
 | false =>
  refine Xc true (fun _ => ?_) (fun h => by cases h)
  refine Xq (Xg 1 (Xe [(0,vp t), (1,vi id), (2,vi W), (6,vi 10)] ?_ 1))
  refine Xv (thenV (Y0 (vi 10) (fun w hs => ?_)))
  exact ⟨(), by rw [weightN, if_pos hW], by rw [weightN, if_pos hW]; exact Sat.closeRt hne hs⟩
 | true =>
  have hW' : ¬ isW W = false := by simp [hW]
  refine Xc false (fun h => by cases h) (fun _ => ?_)
  refine Xk (Xq (Xg 4 (Xr [(0,vp t), (1,vi id), (2,vi W), (6,vi 0), (12,vp t), (13,vi id)] ?_ 2 2)))
  cases hg : gt L id with
  | none =>
   have hix : ixL L id = -1 := ixL_no (gt_none.1 hg)
   refine Xs (Xa (some 14) (fun _ => vi (ixL L id)) (rat_walk H t b o c L id (by omega))) (fun _ => ?_) 1
   rw [show ixL L id = (-1) by exact hix]
   refine Xe [(0,vp t), (1,vi id), (2,vi W), (6,vi 0), (7,vi (-1))] ?_ 1
   refine Xq (Xq (Xg 6 (Xe [(0,vp t), (2,vi W), (6,vi 0), (7,vi (-1)), (20,.bool true)] ?_ 6)))
   refine Xc true (fun _ => ?_) (fun h => by cases h)
   refine Xq (Xg 1 (Xe [(0,vp t), (2,vi W), (6,vi 13), (7,vi (-1))] ?_ 1))
   refine Xv (thenV (Y0 (vi 13) (fun w hs => ?_)))
   exact ⟨(), by rw [weightN, if_neg hW', hg], by rw [weightN, if_neg hW', hg]; exact Sat.closeRt hne hs⟩
  | some x =>
   obtain ⟨i, hi, hix⟩ := ixL_gt hnd hg
   have hil := (List.getElem?_eq_some_iff.1 hi).1
   obtain ⟨hxL, hxi⟩ := gt_mem hg
   refine Xs (Xa (some 14) (fun _ => vi (ixL L id)) (rat_walk H t b o c L id (by omega))) (fun _ => ?_) 1
   rw [show ixL L id = (i : Int) by exact hix]
   refine Xe [(0,vp t), (1,vi id), (2,vi W), (6,vi 0), (7,vi i)] ?_ 1
   refine Xq (Xq (Xg 6 (Xr [(0,vp t), (1,vi id), (2,vi W), (6,vi 0), (7,vi i), (17,.bool (decide ((i : Int) < 0)))] ?_ 3 3)))
   refine (Xs0 0 3 [(0,vp t), (2,vi W), (6,vi 0), (7,vi i), (20,.bool ((decide ((i : Int) < 0)) || (id == 0)))] ?_ ?_ : RT _ _ _ _ _ _ 3 _)
   ·cases hg3 : (decide ((i : Int) < 0)) with
    | true =>
     refine Xe [(0,vp t), (2,vi W), (6,vi 0), (7,vi i), (20,.bool true)] ?_ 3
     refine Xp [(0,vp t), (2,vi W), (6,vi 0), (7,vi i), (20,.bool (true || (id == 0)))] ?_
     exact midR () rfl rfl
    | false =>
     refine Xe [(0,vp t), (2,vi W), (6,vi 0), (7,vi i), (20,.bool (id == 0))] ?_ 3
     refine Xp [(0,vp t), (2,vi W), (6,vi 0), (7,vi i), (20,.bool (false || (id == 0)))] ?_
     exact midR () rfl rfl
   refine endR ?_
   by_cases h0 : id = 0
   ·skip
    rw [show ((decide ((i : Int) < 0)) || (id == 0)) = true from by simp [h0]]
    refine Xc true (fun _ => ?_) (fun h => by cases h)
    refine Xq (Xg 1 (Xe [(0,vp t), (2,vi W), (6,vi 13), (7,vi i)] ?_ 1))
    refine Xv (thenV ?_)
    have hz : weightN L id W = (13, L) := by rw [weightN, if_neg hW', hg]; simp only; rw [if_pos h0]
    refine Y0 (vi 13) (fun w hs => ?_)
    exact ⟨(), by rw [hz], by rw [hz]; exact Sat.closeRt hne hs⟩
   ·skip
    rw [show ((decide ((i : Int) < 0)) || (id == 0)) = false from by simp; omega]
    obtain ⟨_, p, hpL, hpi, _⟩ := hsk.pa x hxL (by rw [hxi]; exact h0)
    have hgp : gt L x.par = some p := hpi ▸ gt_of hnd hpL
    obtain ⟨j, hj, hjx⟩ := ixL_gt hnd hgp
    have hjl := (List.getElem?_eq_some_iff.1 hj).1
    have hpn := (hw.pn x hxL p hpL hpi).1
    have hpx := hw.pass x hxL
    have hnp := hw.now p hpL
    have hz : weightN L id W = (0, upN L x.id (wsF p.now W)) := by rw [weightN, if_neg hW', hg]; simp only; rw [if_neg h0, hgp, hxi]; rfl
    refine PT.rowNil rnE 97 ?_
    refine Xc false (fun h => by cases h) (fun _ => ?_)
    refine Xk (Xq (Xg 9 (Xl [(0,vp t), (2,vi W), (6,vi 0), (7,vi i), (21,vp t), (25,.slice (some ⟨b, o, none⟩) L.length c)] [(⟨t, 0, none⟩, .slice (some ⟨b, o, none⟩) L.length c)] (hasC (ba 1) has0) ?_ 4 5)))
    refine Xs (Xf (E := rnE) 91 (.const (.slice none 0 0)) (.tmp 25) none 0 [] L (.slice (some ⟨b, o, none⟩) L.length c) 26 Tryz.underlying91 (rnE_ety) (rowKRat 2 rfl) (by simp; omega)) (fun r1 => ?_) 3
    rw [show ([] ++ L) = L by rfl]
    refine Xr [(26,.slice r1.1 L.length r1.2), (0,vp t), (2,vi W), (6,vi 0), (7,vi i), (28,vp t)] ?_ 1 2
    refine Xh0 ?_ 1 1
    refine Xs (Xz [(0,.slice r1.1 L.length r1.2)]) (fun _ => ?_) 0
    refine endR ?_
    refine Xq (Xg 10 (Xl [(0,vp t), (2,vi W), (6,vi 0), (7,vi i), (32,.slice r1.1 L.length r1.2), (33,vi i)] [(⟨t, 0, none⟩, .slice r1.1 L.length r1.2)] (hasC (ba 0) has0) ?_ 5 5))
    refine Xh0 ?_ 2 5
    refine PT.drop ?_
    refine PT.know (KR.isSome (s := ⟨r1.1, r1.2, L⟩) (rowKRat 1 rfl) hne) ?_
    rintro ⟨wb, wo, hA2⟩
    dsimp only at hA2
    rw [hA2]
    refine Xs (yldS (Xi 91 (.tmp 32) (.tmp 33) wb wo L.length r1.2 i 7 97 (i : Int) 34 Tryz.underlying91)) (fun _ => ?_) 4
    refine Xl [(0,vp t), (2,vi W), (6,vi 0), (7,vi i), (36,.agg #[vi x.id, vi x.par, vi x.wt, vi x.pass, .bool x.thr, .bool x.rdy])] [(⟨wb, wo + i * 7, none⟩, vi x.id), (⟨wb, wo + i * 7 + 1, none⟩, vi x.par), (⟨wb, wo + i * 7 + 2, none⟩, vi x.wt), (⟨wb, wo + i * 7 + 3, none⟩, vi x.pass), (⟨wb, wo + i * 7 + 4, none⟩, .bool x.thr), (⟨wb, wo + i * 7 + 5, none⟩, .bool x.rdy)] (hasC (rowCell (E := rnE) (xs := L) 1 rfl (x := x) hi (j := 0) rfl) (hasC (rowCell (E := rnE) (xs := L) 1 rfl (x := x) hi (j := 1) rfl) (hasC (rowCell (E := rnE) (xs := L) 1 rfl (x := x) hi (j := 2) rfl) (hasC (rowCell (E := rnE) (xs := L) 1 rfl (x := x) hi (j := 3) rfl) (hasC (rowCell (E := rnE) (xs := L) 1 rfl (x := x) hi (j := 4) rfl) (hasC (rowCell (E := rnE) (xs := L) 1 rfl (x := x) hi (j := 5) rfl) has0)))))) ?_ 2 2
    refine Xs (Xn 95 [vi 0, vi 0, vi 0, vi 0, .bool false, .bool false] (some 8) (fun b => vp b)) (fun b2 => ?_) 1
    refine Xs (Xz [(0,vi x.id), (1,vi x.par), (2,vi x.wt), (3,vi x.pass), (4,.bool x.thr), (5,.bool x.rdy)]) (fun _ => ?_) 0
    refine endR ?_
    refine PT.pick 0 rfl ?_
    refine PT.pick 2 rfl ?_
    refine PT.pick 2 rfl ?_
    refine Xq (Xy0 0 [18] 19 ?_)
    refine Xt [0, 1, 2, 3, 4, 5, 6, 7, 8, 13, 14, 15] [(8,vp b2), (0,vp t), (2,vi W), (6,vi 0), (7,vi i), (38,vi x.pass), (42,.slice (some ⟨wb, wo, none⟩) L.length r1.2), (43,vp t), (45,vi x.par), (51,vi x.wt), (52,vi W)] [(⟨b2, 3, none⟩, vi x.pass), (⟨t, 0, none⟩, .slice (some ⟨wb, wo, none⟩) L.length r1.2), (⟨b2, 1, none⟩, vi x.par), (⟨b2, 2, none⟩, vi x.wt)] (hasC (ba 2) (hasC (ba 0) (hasC (ba 2) (hasC (ba 2) has0)))) ?_
    refine Xo 9 (Xa (some 46) (fun _ => vi (ixL L x.par)) (rat_walk _ t wb wo r1.2 L x.par (by omega))) (fun _ => ?_)
    rw [show ixL L x.par = (j : Int) by exact hjx]
    refine Xu 10 (Xi 91 (.tmp 42) (.tmp 46) wb wo L.length r1.2 j 7 97 (j : Int) 47 Tryz.underlying91) ?_
    refine Xt [11, 12] [(8,vp b2), (0,vp t), (2,vi W), (6,vi 0), (7,vi i), (38,vi x.pass), (51,vi x.wt), (52,vi W), (49,vi p.now)] [(⟨wb, wo + j * 7 + 6, none⟩, vi p.now)] (hasC (rowCell (E := rnE) (xs := L) 1 rfl (x := p) hj (j := 6) rfl) has0) ?_
    refine Xo 16 (Xa (some 53) (fun _ => vi (scaleN x.pass p.now x.wt W)) (rscale_walk _ hpx.1 hnp (hw.wt x hxL) hW hpn)) (fun _ => ?_)
    refine Xt [17] [(53,vi (scaleN x.pass p.now x.wt W)), (8,vp b2), (0,vp t), (2,vi W), (6,vi 0), (7,vi i), (54,vq b2 3)] [] has0 ?_
    refine DT.pick 2 rfl ?_
    refine Xo 18 (Xz [(3,vi (scaleN x.pass p.now x.wt W))]) (fun _ => ?_)
    refine Xd (Xq (Xg 3 (Xr [(8,vp b2), (0,vp t), (6,vi 0), (7,vi i), (55,vi W), (56,vq b2 2)] ?_ 1 2)))
    refine Xs (Xz [(2,vi W)]) (fun _ => ?_) 0
    refine endR ?_
    refine Xq (Xy0 0 [8] 9 ?_)
    refine Xt [0, 1, 2, 3, 4, 5] [(6,vi 0), (60,.slice (some ⟨wb, wo, none⟩) L.length r1.2), (61,vi i), (62,.agg #[vi x.id, vi x.par, vi W, vi (scaleN x.pass p.now x.wt W), .bool x.thr, .bool x.rdy])] [(⟨t, 0, none⟩, .slice (some ⟨wb, wo, none⟩) L.length r1.2), (⟨b2, 0, none⟩, vi x.id), (⟨b2, 1, none⟩, vi x.par), (⟨b2, 2, none⟩, vi W), (⟨b2, 3, none⟩, vi (scaleN x.pass p.now x.wt W)), (⟨b2, 4, none⟩, .bool x.thr), (⟨b2, 5, none⟩, .bool x.rdy)] (hasC (ba 1) (hasC (ba 0) (hasC (ba 0) (hasC (ba 0) (hasC (ba 0) (hasC (ba 0) (hasC (ba 0) has0))))))) ?_
    refine Xu 6 (Xi 91 (.tmp 60) (.tmp 61) wb wo L.length r1.2 i 7 97 (i : Int) 63 Tryz.underlying91) ?_
    refine Xt [7] [(6,vi 0), (62,.agg #[vi x.id, vi x.par, vi W, vi (scaleN x.pass p.now x.wt W), .bool x.thr, .bool x.rdy]), (64,.pointer (some ⟨wb, wo + i * 7, none⟩))] [] has0 ?_
    refine DT.pick 2 rfl ?_
    refine Xo 8 (setsS (E := rnE) (J := i) x (wsF p.now W x) [(0,.int .i64 x.id), (1,.int .i64 x.par), (2,.int .i64 W), (3,.int .i64 (scaleN x.pass p.now x.wt W)), (4,.bool x.thr), (5,.bool x.rdy)] (fun _ => by kernel_rfl) (hi) (⟨x, ⟨rfl, rfl⟩, x, ⟨rfl, rfl⟩, { x with wt := W }, ⟨rfl, rfl⟩, wsF p.now W x, ⟨rfl, rfl⟩, wsF p.now W x, ⟨rfl, rfl⟩, wsF p.now W x, ⟨rfl, rfl⟩, rfl⟩)) (fun _ => ?_)
    refine Xd (Xq (Xg 1 (Xe [(6,vi 0)] ?_ 1)))
    refine Xv ?_
    rw [show L.length = (upN L x.id (wsF p.now W)).length by simp [upN]]
    rw [show (L.set i (wsF p.now W x)) = (upN L x.id (wsF p.now W)) by exact set_at hnd hi (wsF p.now W)]
    refine PT.pick 1 rfl ?_
    refine PT.drop ?_
    refine PT.pick 0 rfl ?_
    refine PT.pick 1 rfl ?_
    refine Y0 (vi 0) (fun w hs => ?_)
    exact ⟨(), by rw [hz], by rw [hz]; exact Sat.closeRt (by simp [upN]; exact hne) hs⟩
end Go.Proofs.YtlhjibkkkhgonaaGreatDoor
set_option linter.unusedVariables false
set_option linter.unusedSimpArgs false
namespace Go.Proofs.YtlhjibkkkhgonaaGreatDoor
open Go.RowKit G
theorem filter_at {L : List Nr} (hn : (L.map (·.id)).Nodup) {i : Nat} {x : Nr} (hx : L[i]? = some x) : L.filter (fun y => !(y.id == x.id)) = L.eraseIdx i := by
 induction L generalizing i with
 | nil => simp at hx
 | cons a L ih =>
  simp only [List.map_cons, List.nodup_cons, List.mem_map, not_exists, not_and] at hn
  cases i with
  | zero =>
   simp at hx; subst hx
   rw [List.eraseIdx_cons_zero, List.filter_cons_of_neg (by simp)]
   exact List.filter_eq_self.2 fun y hy => by have := hn.1 y hy; simpa using this
  | succ i =>
   have hx' : L[i]? = some x := by simpa using hx
   have : a.id ≠ x.id := fun e => hn.1 x (List.mem_of_getElem? hx') e.symm
   rw [List.eraseIdx_cons_succ, List.filter_cons_of_pos (by simp [this]), ih hn.2 hx']
theorem rest_grp {L : List Nr} (hw : WFN L) {x : Nr} (hx : x ∈ L) (ht : x.thr = false) (hno : ∀ y ∈ L, y.par ≠ x.id) : restN 6 L x.id = L := by
 have hr : x.rdy = false := by
  cases h : x.rdy with
  | false => rfl
  | true => obtain ⟨y, hy, h1, _⟩ := (hw.rd x hx ht).1 h; exact absurd h1 (hno y hy)
 rw [restN, gt_of hw.sk.nd hx]; simp [hr]
set_option maxHeartbeats 1000000 in
set_option maxRecDepth 100000 in
theorem rremove_walk (H : List SP) (t : Nat) (L : List Nr) (hw : WFN L) (id : Int) : ∀ w, Sat w (rtS t L :: H) → Calls Tryz.prog 55 #[vp t, vi id] w (Ret (ι := Unit) (fun _ => vi (removeN L id).1) fun _ => rtS t (removeN L id).2 :: H) := by
 have hsk := hw.sk
 have hnd := hsk.nd
 have hl := hsk.len
 have hne : L ≠ [] := by obtain ⟨r, hr, _⟩ := hsk.root; exact List.ne_nil_of_mem hr
 refine enterG (fn := Tryz.f55) 66 [vp t, vi id] Tryz.func55 (by kernel_rfl) (by kernel_rfl) (by kernel_rfl) ?_
 refine PT.openRt fun b o c => ?_
 refine Xq (Xg 1 (Xe [(0,vp t), (1,vi id), (4,vi 0)] ?_ 1))
 refine Xq (Xg 4 (Xr [(0,vp t), (1,vi id), (4,vi 0), (7,vp t), (8,vi id)] ?_ 2 2))
 cases hg : gt L id with
 | none =>
  have hix : ixL L id = -1 := ixL_no (gt_none.1 hg)
  refine Xs (Xa (some 9) (fun _ => vi (ixL L id)) (rat_walk H t b o c L id (by omega))) (fun _ => ?_) 1
  rw [show ixL L id = (-1) by exact hix]
  refine Xe [(0,vp t), (1,vi id), (4,vi 0), (5,vi (-1))] ?_ 1
  refine Xq (Xq (Xg 6 (Xe [(0,vp t), (1,vi id), (4,vi 0), (5,vi (-1)), (15,.bool true)] ?_ 6)))
  refine Xc true (fun _ => ?_) (fun h => by cases h)
  refine Xq (Xg 1 (Xe [(0,vp t), (1,vi id), (4,vi 13), (5,vi (-1))] ?_ 1))
  refine Xv (thenV ?_)
  have hz : removeN L id = (13, L) := by rw [removeN, if_pos (.inl (by rw [hg]; rfl))]
  refine Y0 (vi 13) (fun w hs => ?_)
  exact ⟨(), by rw [hz], by rw [hz]; exact Sat.closeRt hne hs⟩
 | some x =>
  obtain ⟨i, hi, hix⟩ := ixL_gt hnd hg
  have hil := (List.getElem?_eq_some_iff.1 hi).1
  obtain ⟨hxL, hxi⟩ := gt_mem hg
  refine Xs (Xa (some 9) (fun _ => vi (ixL L id)) (rat_walk H t b o c L id (by omega))) (fun _ => ?_) 1
  rw [show ixL L id = (i : Int) by exact hix]
  refine Xe [(0,vp t), (1,vi id), (4,vi 0), (5,vi i)] ?_ 1
  refine Xq (Xq (Xg 6 (Xr [(0,vp t), (1,vi id), (4,vi 0), (5,vi i), (12,.bool (decide ((i : Int) < 0)))] ?_ 3 3)))
  refine (Xs0 0 3 [(0,vp t), (1,vi id), (4,vi 0), (5,vi i), (15,.bool ((decide ((i : Int) < 0)) || (id == 0)))] ?_ ?_ : RT _ _ _ _ _ _ 3 _)
  ·cases hg3 : (decide ((i : Int) < 0)) with
   | true =>
    refine Xe [(0,vp t), (1,vi id), (4,vi 0), (5,vi i), (15,.bool true)] ?_ 3
    refine Xp [(0,vp t), (1,vi id), (4,vi 0), (5,vi i), (15,.bool (true || (id == 0)))] ?_
    exact midR () rfl rfl
   | false =>
    refine Xe [(0,vp t), (1,vi id), (4,vi 0), (5,vi i), (15,.bool (id == 0))] ?_ 3
    refine Xp [(0,vp t), (1,vi id), (4,vi 0), (5,vi i), (15,.bool (false || (id == 0)))] ?_
    exact midR () rfl rfl
  refine endR ?_
  by_cases h0 : id = 0
  ·skip
   rw [show ((decide ((i : Int) < 0)) || (id == 0)) = true from by simp [h0]]
   refine Xc true (fun _ => ?_) (fun h => by cases h)
   refine Xq (Xg 1 (Xe [(0,vp t), (1,vi id), (4,vi 13), (5,vi i)] ?_ 1))
   refine Xv (thenV ?_)
   have hz : removeN L id = (13, L) := by rw [removeN, if_pos (.inr h0)]
   refine Y0 (vi 13) (fun w hs => ?_)
   exact ⟨(), by rw [hz], by rw [hz]; exact Sat.closeRt hne hs⟩
  ·skip
   rw [show ((decide ((i : Int) < 0)) || (id == 0)) = false from by simp; omega]
   refine Xc false (fun h => by cases h) (fun _ => ?_)
   refine Xk (Xq (Xq (Xg 1 (Xe [(0,vp t), (1,vi id), (4,vi 0), (5,vi i), (6,vi 0)] ?_ 1))))
   refine Xb 0 (Xp [(0,vp t), (1,vi id), (5,vi i), (6,vi 0)] (Xl0 (fun (j : Nat) => [(0,vp t), (1,vi id), (5,vi i), (6,vi j)]) (fun k (j : Nat) => k + j = L.length ∧ ∀ (m : Nat) y, m < j → L[m]? = some y → y.par ≠ id) L.length 0 (by kernel_rfl) ⟨by simp, fun m y hm => by omega⟩ ?_))
   rintro k j ⟨hkj, hno⟩
   refine Xq (Xq (Xg 7 (Xm [(0,vp t), (1,vi id), (5,vi i), (6,vi j), (22,.bool (decide ((j : Int) < (L.length : Int))))] [(⟨t, 0, none⟩, .slice (some ⟨b, o, none⟩) L.length c)] (hasC (ba 0) has0) ?_ 7)))
   refine Xc (decide ((j : Int) < (L.length : Int))) (fun h1 => ?_) (fun h1 => ?_)
   ·skip
    have hj : j < L.length := by have := of_decide_eq_true h1; omega
    obtain ⟨y, hy⟩ : ∃ y, L[j]? = some y := ⟨_, List.getElem?_eq_getElem hj⟩
    refine Xk (Xq (Xb 1 (Xq (Xg 11 (Xl [(0,vp t), (1,vi id), (5,vi i), (6,vi j), (28,.slice (some ⟨b, o, none⟩) L.length c), (29,vi j)] [(⟨t, 0, none⟩, .slice (some ⟨b, o, none⟩) L.length c)] (hasC (ba 0) has0) ?_ 6 5)))))
    refine Xs (yldS (Xi 91 (.tmp 28) (.tmp 29) b o L.length c j 7 97 (j : Int) 30 Tryz.underlying91)) (fun _ => ?_) 5
    refine Xm [(0,vp t), (1,vi id), (5,vi i), (6,vi j), (35,.bool (y.par == id))] [(⟨b, o + j * 7 + 1, none⟩, vi y.par)] (hasC (rowCell (E := rnE) (xs := L) 1 rfl (x := y) hy (j := 1) rfl) has0) ?_ 5
    refine Xc (y.par == id) (fun h2 => ?_) (fun h2 => ?_)
    ·skip
     have hz : removeN L id = (10, L) := by rw [removeN, if_neg (by rw [hg]; simp; exact h0), if_pos (List.any_eq_true.2 ⟨y, List.mem_of_getElem? hy, h2⟩)]
     refine Xq (Xg 1 (Xe [(0,vp t), (1,vi id), (5,vi i), (6,vi j), (4,vi 10)] ?_ 1))
     refine Xv (blockV (thenV (thenV (blockV (thenV (Y0 (vi 10) (fun w hs => ?_)))))))
     exact ⟨(), by rw [hz], by rw [hz]; exact Sat.closeRt hne hs⟩
    ·skip
     have h2 : y.par ≠ id := by simpa using h2
     refine Xk (Xg 3 (Xe [(0,vp t), (1,vi id), (5,vi i), (6,vi (IntKind.i64.wrap ((j : Int) + 1)))] ?_ 3))
     rw [show IntKind.i64.wrap ((j : Int) + 1) = ((j : Int) + 1) by rw [w64 (by omega) (by omega)]]
     refine Xp [(0,vp t), (1,vi id), (5,vi i), (6,vi ((j : Int) + 1))] ?_
     exact againG (k - 1) (j + 1) rfl rfl (by omega) ⟨by omega, fun m z hm hz => by by_cases cj : m = j; (subst cj; rw [hy] at hz; cases hz; exact h2); exact hno m z (by omega) hz⟩
   ·skip
    have hj : j = L.length := by have := of_decide_eq_false h1; omega
    have hno2 : ∀ y ∈ L, y.par ≠ id := fun y hy => by obtain ⟨m, hm⟩ := List.mem_iff_getElem?.1 hy; exact hno m y (by rw [hj]; exact (List.getElem?_eq_some_iff.1 hm).1) hm
    obtain ⟨M, hM⟩ : ∃ M, M = restN 6 L id := ⟨_, rfl⟩
    obtain ⟨g, hg1, _, hg3⟩ := restN_map 6 L id
    have hMl : M.length = L.length := by rw [hM, hg3, List.length_map]
    have hMn : (M.map (·.id)).Nodup := by rw [hM, hg3]; exact (hsk.map g hg1).nd
    have hMi : M[i]? = some (g x) := by rw [hM, hg3, List.getElem?_map, hi]; rfl
    have hgi : (g x).id = id := by rw [hg1.id, hxi]
    have hz : removeN L id = (0, M.eraseIdx i) := by
     rw [removeN, if_neg (by rw [hg]; simp; exact h0), if_neg (by rw [List.any_eq_true]; rintro ⟨y, hy, h⟩; exact hno2 y hy (by simpa using h)), ← hM, ← filter_at hMn hMi, hgi]
    have hne2 : M.eraseIdx i ≠ [] := by
     obtain ⟨r, hr, hr0⟩ := hsk.root
     rw [← filter_at hMn hMi, hgi]
     refine List.ne_nil_of_mem (a := g r) (List.mem_filter.2 ⟨by rw [hM, hg3]; exact List.mem_map.2 ⟨r, hr, rfl⟩, by rw [hg1.id, hr0]; simp; omega⟩)
    refine Xx 0 (thenX (thenX (leaveR (Xq (Xq (Xg 9 (Xl [(0,vp t), (1,vi id), (5,vi i), (39,.slice (some ⟨b, o, none⟩) L.length c), (40,vi i)] [(⟨t, 0, none⟩, .slice (some ⟨b, o, none⟩) L.length c)] (hasC (ba 0) has0) ?_ 4 5)))))))
    refine Xs (yldS (Xi 91 (.tmp 39) (.tmp 40) b o L.length c i 7 97 (i : Int) 41 Tryz.underlying91)) (fun _ => ?_) 3
    refine Xm [(0,vp t), (1,vi id), (5,vi i), (44,.bool x.thr)] [(⟨b, o + i * 7 + 4, none⟩, .bool x.thr)] (hasC (rowCell (E := rnE) (xs := L) 1 rfl (x := x) hi (j := 4) rfl) has0) ?_ 3
    refine joinR (fun (u : Unit) => [(0, vp t), (1, vi id), (5, vi i), (44, .bool x.thr)]) (fun (_ : Unit) => (rtS t M :: H)) ?_ (fun u => ?_)
    ·skip
     cases ht : x.thr with
     | true =>
      refine Xc true (fun _ => ?_) (fun h => by cases h)
      refine Xg 3 (Xr [(0,vp t), (1,vi id), (5,vi i), (44,.bool true), (45,vp t), (46,vi id)] ?_ 1 2)
      refine PT.closeRt hne ?_
      refine Xs (Xa (some 47) (fun _ => vi (readyN L id false).1) (rready_walk H t L hw id false)) (fun _ => ?_) 0
      rw [show (readyN L id false).2 = M by rw [readyN, hg, hM]; simp [ht]]
      refine endR ?_
      refine Xp [(0,vp t), (1,vi id), (5,vi i), (44,.bool true)] ?_
      exact midR (()) rfl rfl
     | false =>
      refine Xc false (fun h => by cases h) (fun _ => ?_)
      refine Xk ?_
      refine PT.closeRt hne ?_
      rw [show L = M by rw [hM, ← hxi, rest_grp hw hxL ht (by rw [hxi]; exact hno2)]]
      refine Xp [(0,vp t), (1,vi id), (5,vi i), (44,.bool false)] ?_
      exact midR (()) rfl rfl
    refine PT.openRt fun b2 o2 c2 => ?_
    refine PT.know (KR.le (s := ⟨some ⟨b2, o2, none⟩, c2, M⟩) (rowKRat 1 rfl)) ?_
    rintro ⟨hcle, _⟩
    dsimp only at hcle
    refine PT.rowNil rnE 97 ?_
    refine Xq (Xy0 1 [18] 19 ?_)
    refine Xt [0, 1, 2, 3, 4, 5, 8, 9, 10, 11, 12, 13] [(48,vp t), (52,.slice (some ⟨b2, o2, none⟩) M.length c2), (53,vi i), (59,.slice (some ⟨b2, o2, none⟩) M.length c2), (61,vi (IntKind.i64.wrap ((i : Int) + 1)))] [(⟨t, 0, none⟩, .slice (some ⟨b2, o2, none⟩) M.length c2), (⟨t, 0, none⟩, .slice (some ⟨b2, o2, none⟩) M.length c2)] (hasC (ba 0) (hasC (ba 0) has0)) ?_
    refine Xu 6 (slcY 91 (.tmp 52) none (some (.tmp 53)) (some ⟨b2, o2, none⟩) M.length c2 0 i 7 97 (some 54) (fun _ => by kernel_rfl) (by kernel_rfl) (by kernel_rfl) (fun _ => by kernel_rfl) (.inl ⟨rfl, rfl⟩) (.inr ⟨_, .i64, (i : Int), rfl, fun _ => by kernel_rfl, by first | rfl | omega⟩) Tryz.underlying91 (by kernel_rfl) (by omega) (by omega)) ?_
    rw [show IntKind.i64.wrap ((i : Int) + 1) = ((i : Int) + 1) by rw [w64 (by omega) (by omega)]]
    refine Xu 14 (slcY 91 (.tmp 59) (some (.tmp 61)) none (some ⟨b2, o2, none⟩) M.length c2 (i + 1) M.length 7 97 (some 62) (fun _ => by kernel_rfl) (by kernel_rfl) (by kernel_rfl) (fun _ => by kernel_rfl) (.inr ⟨_, .i64, ((i : Int) + 1), rfl, fun _ => by kernel_rfl, by first | rfl | omega⟩) (.inl ⟨rfl, rfl⟩) Tryz.underlying91 (by kernel_rfl) (by omega) (by omega)) ?_
    refine Xo 7 (Xf (E := rnE) 91 (.const (.slice none 0 0)) (.tmp 54) none 0 [] (M.take i) (.slice (cutA (some ⟨b2, o2, none⟩) c2 0 7) (i - 0) (c2 - 0)) 55 Tryz.underlying91 (rnE_ety) (subRd (rowKRat 2 rfl) (by omega) (by omega)) (by simp; omega)) (fun r1 => ?_)
    refine Xo 15 (Xf (E := rnE) 91 (.tmp 55) (.tmp 62) r1.1 r1.2 ([] ++ (M.take i)) (M.drop (i + 1)) (.slice (cutA (some ⟨b2, o2, none⟩) c2 (i + 1) 7) (M.length - (i + 1)) (c2 - (i + 1))) 63 Tryz.underlying91 (rnE_ety) (dropRd (rowKRat 2 rfl) (by omega)) (by simp; omega)) (fun r2 => ?_)
    refine Xt [16, 17] [(63,.slice r2.1 ((([] ++ (M.take i)) ++ (M.drop (i + 1))).length) r2.2), (65,vp t)] [] has0 ?_
    refine DT.pick 1 rfl ?_
    refine Xo 18 (Xz [(0,.slice r2.1 ((([] ++ (M.take i)) ++ (M.drop (i + 1))).length) r2.2)]) (fun _ => ?_)
    refine Xd (Xq (Xg 1 (Xe [(4,vi 0)] ?_ 1)))
    refine Xv ?_
    refine PT.pick 2 rfl ?_
    refine PT.drop ?_
    rw [show (([] ++ (M.take i)) ++ (M.drop (i + 1))) = (M.eraseIdx i) by rw [List.eraseIdx_eq_take_drop_succ]; rfl]
    refine Y0 (vi 0) (fun w hs => ?_)
    exact ⟨(), by rw [hz], by rw [hz]; exact Sat.closeRt hne2 hs⟩
end Go.Proofs.YtlhjibkkkhgonaaGreatDoor
set_option linter.unusedVariables false
set_option linter.unusedSimpArgs false
namespace Go.Proofs.YtlhjibkkkhgonaaGreatDoor
open Go.RowKit G
def insN (n : Nr) : List Nr → List Nr
 | [] => [n]
 | y :: r => if y.id < n.id then y :: insN n r else n :: y :: r
theorem insN_at {n : Nr} : ∀ {L : List Nr} {k : Nat}, k ≤ L.length → (∀ (j : Nat) y, j < k → L[j]? = some y → y.id < n.id) → (∀ y, L[k]? = some y → ¬ y.id < n.id) → L.take k ++ [n] ++ L.drop k = insN n L
 | [], k, hk, _, _ => by
  have : k = 0 := by simpa using hk
  subst this; rfl
 | y :: r, 0, _, _, h => by
  have := h y rfl
  rw [insN, if_neg this]; rfl
 | y :: r, k + 1, hk, h1, h2 => by
  have h0 := h1 0 y (by omega) rfl
  rw [insN, if_pos h0, ← insN_at (L := r) (k := k) (by simpa using hk) (fun j z hj hz => h1 (j + 1) z (by omega) (by simpa using hz)) (fun z hz => h2 z (by simpa using hz))]
  rfl
theorem insN_mem {n : Nr} : ∀ {L : List Nr} {z : Nr}, z ∈ insN n L ↔ z = n ∨ z ∈ L
 | [], z => by simp [insN]
 | y :: r, z => by
  unfold insN
  split
  ·rw [List.mem_cons, insN_mem, List.mem_cons]
   constructor
   ·rintro (h | h | h)
    ·exact .inr (.inl h)
    ·exact .inl h
    ·exact .inr (.inr h)
   ·rintro (h | h | h)
    ·exact .inr (.inl h)
    ·exact .inl h
    ·exact .inr (.inr h)
  ·simp
theorem insN_perm (n : Nr) : ∀ L : List Nr, (insN n L).Perm (L ++ [n])
 | [] => .refl _
 | y :: r => by
  unfold insN
  split
  ·exact (insN_perm n r).cons y
  ·exact (List.perm_append_comm (l₁ := [n]) (l₂ := y :: r))
theorem deepN_le : ∀ (f : Nat) (N : List Nr) (k : Int), deepN f N k ≤ f
 | 0, _, _ => Nat.le_refl _
 | f + 1, N, k => by
  rw [deepN]
  split
  ·omega
  ·have := deepN_le f N (by assumption : Nr).par; omega
def newN (id par wt now : Int) (thr : Bool) : Nr := ⟨id, par, wt, now, thr, false, 0⟩
/-- Add, as the document has it: nodes by number. -/
def raddN (N : List Nr) (par id wt : Int) (thr : Bool) : Int × List Nr :=
 if isW wt = false ∨ id < 1 then (10, N) else match gt N par with
  | none => (13, N)
  | some p => if p.thr then (13, N) else if (gt N id).isSome then (20, N) else if thr = false ∧ 4 ≤ deepN 6 N par then (12, N) else if 60 ≤ N.length then (14, N)
   else (0, insN (newN id par wt p.now thr) N)
set_option maxHeartbeats 1000000 in
set_option maxRecDepth 100000 in
theorem radd_walk (H : List SP) (t : Nat) (L : List Nr) (hw : WFN L) (par id wt : Int) (thr : Bool) : ∀ w, Sat w (rtS t L :: H) → Calls Tryz.prog 39 #[vp t, vi par, vi id, vi wt, .bool thr] w (Ret (ι := Unit) (fun _ => vi (raddN L par id wt thr).1) fun _ => rtS t (raddN L par id wt thr).2 :: H) := by
 have hsk := hw.sk
 have hnd := hsk.nd
 have hl := hsk.len
 have hne : L ≠ [] := by obtain ⟨r, hr, _⟩ := hsk.root; exact List.ne_nil_of_mem hr
 refine enterG (fn := Tryz.f39) 117 [vp t, vi par, vi id, vi wt, .bool thr] Tryz.func39 (by kernel_rfl) (by kernel_rfl) (by kernel_rfl) ?_
 refine PT.openRt fun b o c => ?_
 refine Xq (Xg 1 (Xe [(0,vp t), (1,vi par), (2,vi id), (3,vi wt), (4,.bool thr), (10,vi 0)] ?_ 1))
 refine Xq (Xg 4 (Xr [(0,vp t), (1,vi par), (2,vi id), (3,vi wt), (4,.bool thr), (10,vi 0), (14,vp t), (15,vi par)] ?_ 2 2))
 cases hgp : gt L par with
 | none =>
  have hix : ixL L par = -1 := ixL_no (gt_none.1 hgp)
  refine Xs (Xa (some 16) (fun _ => vi (ixL L par)) (rat_walk H t b o c L par (by omega))) (fun _ => ?_) 1
  rw [show ixL L par = (-1) by exact hix]
  refine Xe [(0,vp t), (1,vi par), (2,vi id), (3,vi wt), (4,.bool thr), (10,vi 0), (11,vi (-1))] ?_ 1
  refine Xq (Xb 0 (Xq (Xg 8 (Xr [(0,vp t), (1,vi par), (2,vi id), (3,vi wt), (4,.bool thr), (10,vi 0), (11,vi (-1)), (18,vi wt)] ?_ 7 1))))
  refine Xs (Xa (some 19) (fun _ => .bool (isW wt)) (rIsW_walk _ wt)) (fun _ => ?_) 6
  refine Xr [(0,vp t), (1,vi par), (2,vi id), (3,vi wt), (4,.bool thr), (10,vi 0), (11,vi (-1)), (21,.bool (!(isW wt)))] ?_ 4 2
  refine (Xs0 1 3 [(0,vp t), (1,vi par), (2,vi id), (3,vi wt), (4,.bool thr), (10,vi 0), (11,vi (-1)), (24,.bool ((!(isW wt)) || (decide (id < 1))))] ?_ ?_ : RT _ _ _ _ _ _ 4 _)
  ·cases hg4 : (!(isW wt)) with
   | true =>
    refine Xe [(0,vp t), (1,vi par), (2,vi id), (3,vi wt), (4,.bool thr), (10,vi 0), (11,vi (-1)), (24,.bool true)] ?_ 3
    refine Xp [(0,vp t), (1,vi par), (2,vi id), (3,vi wt), (4,.bool thr), (10,vi 0), (11,vi (-1)), (24,.bool (true || (decide (id < 1))))] ?_
    exact midR () rfl rfl
   | false =>
    refine Xe [(0,vp t), (1,vi par), (2,vi id), (3,vi wt), (4,.bool thr), (10,vi 0), (11,vi (-1)), (24,.bool (decide (id < 1)))] ?_ 3
    refine Xp [(0,vp t), (1,vi par), (2,vi id), (3,vi wt), (4,.bool thr), (10,vi 0), (11,vi (-1)), (24,.bool (false || (decide (id < 1))))] ?_
    exact midR () rfl rfl
  refine Xe [(0,vp t), (1,vi par), (2,vi id), (3,vi wt), (4,.bool thr), (10,vi 0), (11,vi (-1)), (17,.bool ((!(isW wt)) || (decide (id < 1))))] ?_ 1
  refine Xc ((!(isW wt)) || (decide (id < 1))) (fun h1 => ?_) (fun h1 => ?_)
  ·skip
   have hz : raddN L par id wt thr = (10, L) := by rw [raddN, if_pos (by simpa [Bool.or_eq_true] using h1)]
   refine Xq (Xg 1 (Xe [(0,vp t), (1,vi par), (2,vi id), (3,vi wt), (4,.bool thr), (10,vi 10), (11,vi (-1))] ?_ 1))
   refine Xv (blockV (thenV (Y0 (vi 10) (fun w hs => ?_))))
   exact ⟨(), by rw [hz], by rw [hz]; exact Sat.closeRt hne hs⟩
  ·skip
   have hz : raddN L par id wt thr = (13, L) := by rw [raddN, if_neg (by simp at h1 ⊢; exact h1), hgp]
   refine Xq (Xg 14 (Xe [(0,vp t), (1,vi par), (2,vi id), (3,vi wt), (4,.bool thr), (10,vi 0), (11,vi (-1)), (25,.bool true)] ?_ 14))
   refine Xc true (fun _ => ?_) (fun h => by cases h)
   refine Xq (Xg 1 (Xe [(0,vp t), (1,vi par), (2,vi id), (3,vi wt), (4,.bool thr), (10,vi 13), (11,vi (-1))] ?_ 1))
   refine Xv (blockV (thenV (Y0 (vi 13) (fun w hs => ?_))))
   exact ⟨(), by rw [hz], by rw [hz]; exact Sat.closeRt hne hs⟩
 | some p =>
  obtain ⟨i, hi, hix⟩ := ixL_gt hnd hgp
  have hil := (List.getElem?_eq_some_iff.1 hi).1
  refine Xs (Xa (some 16) (fun _ => vi (ixL L par)) (rat_walk H t b o c L par (by omega))) (fun _ => ?_) 1
  rw [show ixL L par = (i : Int) by exact hix]
  refine Xe [(0,vp t), (1,vi par), (2,vi id), (3,vi wt), (4,.bool thr), (10,vi 0), (11,vi i)] ?_ 1
  refine Xq (Xb 0 (Xq (Xg 8 (Xr [(0,vp t), (1,vi par), (2,vi id), (3,vi wt), (4,.bool thr), (10,vi 0), (11,vi i), (18,vi wt)] ?_ 7 1))))
  refine Xs (Xa (some 19) (fun _ => .bool (isW wt)) (rIsW_walk _ wt)) (fun _ => ?_) 6
  refine Xr [(0,vp t), (1,vi par), (2,vi id), (3,vi wt), (4,.bool thr), (10,vi 0), (11,vi i), (21,.bool (!(isW wt)))] ?_ 4 2
  refine (Xs0 1 3 [(0,vp t), (1,vi par), (2,vi id), (3,vi wt), (4,.bool thr), (10,vi 0), (11,vi i), (24,.bool ((!(isW wt)) || (decide (id < 1))))] ?_ ?_ : RT _ _ _ _ _ _ 4 _)
  ·cases hg4 : (!(isW wt)) with
   | true =>
    refine Xe [(0,vp t), (1,vi par), (2,vi id), (3,vi wt), (4,.bool thr), (10,vi 0), (11,vi i), (24,.bool true)] ?_ 3
    refine Xp [(0,vp t), (1,vi par), (2,vi id), (3,vi wt), (4,.bool thr), (10,vi 0), (11,vi i), (24,.bool (true || (decide (id < 1))))] ?_
    exact midR () rfl rfl
   | false =>
    refine Xe [(0,vp t), (1,vi par), (2,vi id), (3,vi wt), (4,.bool thr), (10,vi 0), (11,vi i), (24,.bool (decide (id < 1)))] ?_ 3
    refine Xp [(0,vp t), (1,vi par), (2,vi id), (3,vi wt), (4,.bool thr), (10,vi 0), (11,vi i), (24,.bool (false || (decide (id < 1))))] ?_
    exact midR () rfl rfl
  refine Xe [(0,vp t), (1,vi par), (2,vi id), (3,vi wt), (4,.bool thr), (10,vi 0), (11,vi i), (17,.bool ((!(isW wt)) || (decide (id < 1))))] ?_ 1
  refine Xc ((!(isW wt)) || (decide (id < 1))) (fun h1 => ?_) (fun h1 => ?_)
  ·skip
   have hz : raddN L par id wt thr = (10, L) := by rw [raddN, if_pos (by simpa [Bool.or_eq_true] using h1)]
   refine Xq (Xg 1 (Xe [(0,vp t), (1,vi par), (2,vi id), (3,vi wt), (4,.bool thr), (10,vi 10), (11,vi i)] ?_ 1))
   refine Xv (blockV (thenV (Y0 (vi 10) (fun w hs => ?_))))
   exact ⟨(), by rw [hz], by rw [hz]; exact Sat.closeRt hne hs⟩
  ·skip
   have h1' : ¬ (isW wt = false ∨ id < 1) := by simp at h1 ⊢; exact h1
   refine Xq (Xg 14 (Xr [(0,vp t), (1,vi par), (2,vi id), (3,vi wt), (4,.bool thr), (10,vi 0), (11,vi i), (28,.bool (decide ((i : Int) < 0)))] ?_ 11 3))
   refine (Xs0 1 10 [(0,vp t), (1,vi par), (2,vi id), (3,vi wt), (4,.bool thr), (10,vi 0), (11,vi i), (38,.bool ((decide ((i : Int) < 0)) || p.thr))] ?_ ?_ : RT _ _ _ _ _ _ 11 _)
   ·cases hg3 : (decide ((i : Int) < 0)) with
    | true =>
     refine Xe [(0,vp t), (1,vi par), (2,vi id), (3,vi wt), (4,.bool thr), (10,vi 0), (11,vi i), (38,.bool true)] ?_ 10
     refine Xp [(0,vp t), (1,vi par), (2,vi id), (3,vi wt), (4,.bool thr), (10,vi 0), (11,vi i), (38,.bool (true || p.thr))] ?_
     exact midR () rfl rfl
    | false =>
     refine Xl [(0,vp t), (1,vi par), (2,vi id), (3,vi wt), (4,.bool thr), (10,vi 0), (11,vi i), (28,.bool false), (32,.slice (some ⟨b, o, none⟩) L.length c), (33,vi i)] [(⟨t, 0, none⟩, .slice (some ⟨b, o, none⟩) L.length c)] (hasC (ba 0) has0) ?_ 5 5
     refine Xs (yldS (Xi 91 (.tmp 32) (.tmp 33) b o L.length c i 7 97 (i : Int) 34 Tryz.underlying91)) (fun _ => ?_) 4
     refine Xm [(0,vp t), (1,vi par), (2,vi id), (3,vi wt), (4,.bool thr), (10,vi 0), (11,vi i), (38,.bool p.thr)] [(⟨b, o + i * 7 + 4, none⟩, .bool p.thr)] (hasC (rowCell (E := rnE) (xs := L) 1 rfl (x := p) hi (j := 4) rfl) has0) ?_ 4
     refine Xp [(0,vp t), (1,vi par), (2,vi id), (3,vi wt), (4,.bool thr), (10,vi 0), (11,vi i), (38,.bool (false || p.thr))] ?_
     exact midR () rfl rfl
   refine Xe [(0,vp t), (1,vi par), (2,vi id), (3,vi wt), (4,.bool thr), (10,vi 0), (11,vi i), (25,.bool ((decide ((i : Int) < 0)) || p.thr))] ?_ 1
   cases hpt : p.thr with
   | true =>
    rw [show ((decide ((i : Int) < 0)) || true) = true from by simp]
    have hz : raddN L par id wt thr = (13, L) := by rw [raddN, if_neg h1', hgp]; simp only [hpt, if_true]
    refine Xc true (fun _ => ?_) (fun h => by cases h)
    refine Xq (Xg 1 (Xe [(0,vp t), (1,vi par), (2,vi id), (3,vi wt), (4,.bool thr), (10,vi 13), (11,vi i)] ?_ 1))
    refine Xv (blockV (thenV (Y0 (vi 13) (fun w hs => ?_))))
    exact ⟨(), by rw [hz], by rw [hz]; exact Sat.closeRt hne hs⟩
   | false =>
    rw [show ((decide ((i : Int) < 0)) || false) = false from by simp]
    refine Xc false (fun h => by cases h) (fun _ => ?_)
    refine Xq (Xg 5 (Xr [(0,vp t), (1,vi par), (2,vi id), (3,vi wt), (4,.bool thr), (10,vi 0), (11,vi i), (40,vp t), (41,vi id)] ?_ 3 2))
    cases hgi : gt L id with
    | some y =>
     obtain ⟨j, hj, hjx⟩ := ixL_gt hnd hgi
     refine Xs (Xa (some 42) (fun _ => vi (ixL L id)) (rat_walk H t b o c L id (by omega))) (fun _ => ?_) 2
     rw [show ixL L id = (j : Int) by exact hjx]
     refine Xe [(0,vp t), (1,vi par), (2,vi id), (3,vi wt), (4,.bool thr), (10,vi 0), (11,vi i), (39,.bool (decide ((j : Int) ≥ 0)))] ?_ 2
     rw [show (decide ((j : Int) ≥ 0)) = true from by first | exact decide_eq_true (by omega) | (simp; done) | (simp; omega)]
     have hz : raddN L par id wt thr = (20, L) := by rw [raddN, if_neg h1', hgp]; simp [hpt, hgi]
     refine Xc true (fun _ => ?_) (fun h => by cases h)
     refine Xq (Xg 1 (Xe [(0,vp t), (1,vi par), (2,vi id), (3,vi wt), (4,.bool thr), (10,vi 20), (11,vi i)] ?_ 1))
     refine Xv (blockV (thenV (Y0 (vi 20) (fun w hs => ?_))))
     exact ⟨(), by rw [hz], by rw [hz]; exact Sat.closeRt hne hs⟩
    | none =>
     have hjx : ixL L id = -1 := ixL_no (gt_none.1 hgi)
     refine Xs (Xa (some 42) (fun _ => vi (ixL L id)) (rat_walk H t b o c L id (by omega))) (fun _ => ?_) 2
     rw [show ixL L id = (-1) by exact hjx]
     refine Xe [(0,vp t), (1,vi par), (2,vi id), (3,vi wt), (4,.bool thr), (10,vi 0), (11,vi i), (39,.bool false)] ?_ 2
     refine Xc false (fun h => by cases h) (fun _ => ?_)
     have hdl := deepN_le 6 L par
     refine Xq (Xj0 (fun (d : { d : Bool // d = true ↔ (thr = false ∧ 4 ≤ deepN 6 L par) }) => [(0,vp t), (1,vi par), (2,vi id), (3,vi wt), (4,.bool thr), (10,vi 0), (11,vi i), (44,.bool d.1)]) ?_ (fun d => ?_))
     ·skip
      cases hthr : thr with
      | true =>
       refine Xg 10 (Xe [(0,vp t), (1,vi par), (2,vi id), (3,vi wt), (4,.bool true), (10,vi 0), (11,vi i), (44,.bool false)] ?_ 10)
       refine Xp [(0,vp t), (1,vi par), (2,vi id), (3,vi wt), (4,.bool true), (10,vi 0), (11,vi i), (44,.bool false)] ?_
       exact midR (⟨false, by simp [hthr]⟩) rfl rfl
      | false =>
       refine Xg 10 (Xr [(0,vp t), (1,vi par), (2,vi id), (3,vi wt), (4,.bool false), (10,vi 0), (11,vi i), (47,.bool true), (48,vp t), (49,vi par)] ?_ 5 5)
       refine Xs (Xa (some 50) (fun _ => vi (deepN 6 L par : Int)) (rdeep_walk H t b o c L hsk par)) (fun _ => ?_) 4
       refine Xe [(0,vp t), (1,vi par), (2,vi id), (3,vi wt), (4,.bool false), (10,vi 0), (11,vi i), (44,.bool (decide ((IntKind.i64.wrap ((deepN 6 L par : Int) + 1)) > 4)))] ?_ 4
       rw [show IntKind.i64.wrap ((deepN 6 L par : Int) + 1) = ((deepN 6 L par : Int) + 1) by rw [w64 (by omega) (by omega)]]
       refine Xp [(0,vp t), (1,vi par), (2,vi id), (3,vi wt), (4,.bool false), (10,vi 0), (11,vi i), (44,.bool (decide (((deepN 6 L par : Int) + 1) > 4)))] ?_
       exact midR (⟨decide (((deepN 6 L par : Int) + 1) > 4), by rw [decide_eq_true_eq]; simp [hthr]; omega⟩) rfl rfl
     obtain ⟨d, hd⟩ := d
     refine Xc d (fun h4 => ?_) (fun h4 => ?_)
     ·skip
      have hz : raddN L par id wt thr = (12, L) := by rw [raddN, if_neg h1', hgp]; simp only [hpt, hgi]; simp only [Bool.false_eq_true, if_false, Option.isSome_none]; rw [if_pos (hd.1 h4)]
      refine Xq (Xg 1 (Xe [(0,vp t), (1,vi par), (2,vi id), (3,vi wt), (4,.bool thr), (10,vi 12), (11,vi i)] ?_ 1))
      refine Xv (blockV (thenV (Y0 (vi 12) (fun w hs => ?_))))
      exact ⟨(), by rw [hz], by rw [hz]; exact Sat.closeRt hne hs⟩
     ·skip
      have h4' : ¬ (thr = false ∧ 4 ≤ deepN 6 L par) := fun h => by rw [hd.2 h] at h4; cases h4
      refine Xq (Xg 7 (Xm [(0,vp t), (1,vi par), (2,vi id), (3,vi wt), (4,.bool thr), (10,vi 0), (11,vi i), (54,.bool (decide ((L.length : Int) ≥ 60)))] [(⟨t, 0, none⟩, .slice (some ⟨b, o, none⟩) L.length c)] (hasC (ba 0) has0) ?_ 7))
      refine Xc (decide ((L.length : Int) ≥ 60)) (fun h5 => ?_) (fun h5 => ?_)
      ·skip
       have h5 := of_decide_eq_true h5
       have hz : raddN L par id wt thr = (14, L) := by rw [raddN, if_neg h1', hgp]; simp only [hpt, hgi]; simp only [Bool.false_eq_true, if_false, Option.isSome_none]; rw [if_neg h4', if_pos (by omega)]
       refine Xq (Xg 1 (Xe [(0,vp t), (1,vi par), (2,vi id), (3,vi wt), (4,.bool thr), (10,vi 14), (11,vi i)] ?_ 1))
       refine Xv (blockV (thenV (Y0 (vi 14) (fun w hs => ?_))))
       exact ⟨(), by rw [hz], by rw [hz]; exact Sat.closeRt hne hs⟩
      ·skip
       have h5 := of_decide_eq_false h5
       have hz : raddN L par id wt thr = (0, insN (newN id par wt p.now thr) L) := by rw [raddN, if_neg h1', hgp]; simp only [hpt, hgi]; simp only [Bool.false_eq_true, if_false, Option.isSome_none]; rw [if_neg h4', if_neg (by omega)]
       refine Xk (Xq (Xg 16 (Xl [(0,vp t), (2,vi id), (4,.bool thr), (10,vi 0), (61,vi id), (62,vi par), (63,vi wt), (67,.slice (some ⟨b, o, none⟩) L.length c), (68,vi i)] [(⟨t, 0, none⟩, .slice (some ⟨b, o, none⟩) L.length c)] (hasC (ba 0) has0) ?_ 8 8)))
       refine Xs (yldS (Xi 91 (.tmp 67) (.tmp 68) b o L.length c i 7 97 (i : Int) 69 Tryz.underlying91)) (fun _ => ?_) 7
       refine Xl [(0,vp t), (2,vi id), (10,vi 0), (74,.agg #[vi id, vi par, vi wt, vi p.now, .bool thr, .bool false, vi 0])] [(⟨b, o + i * 7 + 6, none⟩, vi p.now)] (hasC (rowCell (E := rnE) (xs := L) 1 rfl (x := p) hi (j := 6) rfl) has0) ?_ 2 5
       refine Xs (Xn 97 [vi 0, vi 0, vi 0, vi 0, .bool false, .bool false, vi 0] (some 12) (fun b => vp b)) (fun b1 => ?_) 1
       refine Xs (Xz [(0,vi id), (1,vi par), (2,vi wt), (3,vi p.now), (4,.bool thr), (5,.bool false), (6,vi 0)]) (fun _ => ?_) 0
       refine endR ?_
       refine Xq (Xg 1 (Xe [(12,vp b1), (0,vp t), (2,vi id), (10,vi 0), (13,vi 0)] ?_ 1))
       refine Xq (Xj0 (fun (q : { q : Nat // q ≤ L.length ∧ L.take q ++ [newN id par wt p.now thr] ++ L.drop q = insN (newN id par wt p.now thr) L }) => [(0,vp t), (2,vi id), (10,vi 0), (12,vp b1), (13,vi (q.1 : Int))]) ?_ (fun q => ?_))
       ·skip
        refine Xb 1 (Xp [(0,vp t), (2,vi id), (10,vi 0), (12,vp b1), (13,vi 0)] (Xl0 (fun (q : Nat) => [(0,vp t), (2,vi id), (10,vi 0), (12,vp b1), (13,vi q)]) (fun k (q : Nat) => k + q = L.length ∧ ∀ (j : Nat) y, j < q → L[j]? = some y → y.id < id) L.length 0 (by kernel_rfl) ⟨by simp, fun j y hj => by omega⟩ ?_))
        rintro k q ⟨hkq, hlt⟩
        rcases Nat.lt_or_ge q L.length with hq | hq
        ·skip
         obtain ⟨y, hy⟩ : ∃ y, L[q]? = some y := ⟨_, List.getElem?_eq_getElem hq⟩
         refine Xq (Xq (Xg 20 (Xl [(0,vp t), (2,vi id), (10,vi 0), (12,vp b1), (13,vi q), (82,.bool (decide ((q : Int) < (L.length : Int))))] [(⟨t, 0, none⟩, .slice (some ⟨b, o, none⟩) L.length c)] (hasC (ba 1) has0) ?_ 12 8)))
         refine (Xs0 0 12 [(0,vp t), (2,vi id), (10,vi 0), (12,vp b1), (13,vi q), (94,.bool ((decide ((q : Int) < (L.length : Int))) && (decide (y.id < id))))] ?_ ?_ : RT _ _ _ _ _ _ 12 _)
         ·cases hg8 : (decide ((q : Int) < (L.length : Int))) with
          | true =>
           refine Xl [(0,vp t), (2,vi id), (10,vi 0), (12,vp b1), (13,vi q), (82,.bool true), (86,.slice (some ⟨b, o, none⟩) L.length c), (87,vi q)] [(⟨t, 0, none⟩, .slice (some ⟨b, o, none⟩) L.length c)] (hasC (ba 1) has0) ?_ 7 5
           refine Xs (yldS (Xi 91 (.tmp 86) (.tmp 87) b o L.length c q 7 97 (q : Int) 88 Tryz.underlying91)) (fun _ => ?_) 6
           refine Xm [(0,vp t), (2,vi id), (10,vi 0), (12,vp b1), (13,vi q), (94,.bool (decide (y.id < id)))] [(⟨b, o + q * 7, none⟩, vi y.id)] (hasC (rowCell (E := rnE) (xs := L) 2 rfl (x := y) hy (j := 0) rfl) has0) ?_ 6
           refine Xp [(0,vp t), (2,vi id), (10,vi 0), (12,vp b1), (13,vi q), (94,.bool (true && (decide (y.id < id))))] ?_
           exact midR () rfl rfl
          | false =>
           refine Xe [(0,vp t), (2,vi id), (10,vi 0), (12,vp b1), (13,vi q), (94,.bool false)] ?_ 12
           refine Xp [(0,vp t), (2,vi id), (10,vi 0), (12,vp b1), (13,vi q), (94,.bool (false && (decide (y.id < id))))] ?_
           exact midR () rfl rfl
         refine endR ?_
         by_cases h6 : y.id < id
         ·skip
          rw [show ((decide ((q : Int) < (L.length : Int))) && (decide (y.id < id))) = true from by simp; omega]
          refine Xc true (fun _ => ?_) (fun h => by cases h)
          refine Xk (Xb 2 (Xg 3 (Xe [(0,vp t), (2,vi id), (10,vi 0), (12,vp b1), (13,vi (IntKind.i64.wrap ((q : Int) + 1)))] ?_ 3)))
          rw [show IntKind.i64.wrap ((q : Int) + 1) = ((q : Int) + 1) by rw [w64 (by omega) (by omega)]]
          refine Xp [(0,vp t), (2,vi id), (10,vi 0), (12,vp b1), (13,vi ((q : Int) + 1))] ?_
          exact againG (k - 1) (q + 1) rfl rfl (by omega) ⟨by omega, fun m z hm hz => by by_cases cj : m = q; (subst cj; rw [hy] at hz; cases hz; exact h6); exact hlt m z (by omega) hz⟩
         ·skip
          rw [show ((decide ((q : Int) < (L.length : Int))) && (decide (y.id < id))) = false from by simp; omega]
          refine Xc false (fun h => by cases h) (fun _ => ?_)
          refine Xx 1 (thenX (thenX (leaveR (Xp [(0,vp t), (2,vi id), (10,vi 0), (12,vp b1), (13,vi q)] ?_))))
          exact midR (⟨q, by omega, insN_at (n := newN id par wt p.now thr) (L := L) (k := q) (by omega) (fun j y hj hy => hlt j y hj hy) (fun z hz => by rw [hy] at hz; cases hz; exact h6)⟩) rfl rfl
        ·skip
         refine Xq (Xq (Xg 20 (Xl [(0,vp t), (2,vi id), (10,vi 0), (12,vp b1), (13,vi q), (82,.bool (decide ((q : Int) < (L.length : Int))))] [(⟨t, 0, none⟩, .slice (some ⟨b, o, none⟩) L.length c)] (hasC (ba 1) has0) ?_ 12 8)))
         rw [show (decide ((q : Int) < (L.length : Int))) = false from by first | exact decide_eq_false (by omega) | (simp; done) | (simp; omega)]
         refine Xe [(0,vp t), (2,vi id), (10,vi 0), (12,vp b1), (13,vi q), (94,.bool false)] ?_ 12
         refine Xc false (fun h => by cases h) (fun _ => ?_)
         refine Xx 1 (thenX (thenX (leaveR (Xp [(0,vp t), (2,vi id), (10,vi 0), (12,vp b1), (13,vi q)] ?_))))
         exact midR (⟨q, by omega, insN_at (n := newN id par wt p.now thr) (L := L) (k := q) (by omega) (fun j y hj hy => hlt j y hj hy) (fun z hz => by rw [List.getElem?_eq_none hq] at hz; cases hz)⟩) rfl rfl
       obtain ⟨q, hq, hins⟩ := q
       refine PT.know (KR.le (s := ⟨some ⟨b, o, none⟩, c, L⟩) (rowKRat 2 rfl)) ?_
       rintro ⟨hcle, _⟩
       dsimp only at hcle
       refine PT.rowNil rnE 97 ?_
       refine Xq (Xy0 1 [20] 21 ?_)
       refine Xt [0, 1, 2, 3, 4, 5, 8, 11, 12, 13, 14, 15] [(10,vi 0), (97,vp t), (101,.slice (some ⟨b, o, none⟩) L.length c), (102,vi q), (105,.agg #[vi id, vi par, vi wt, vi p.now, .bool thr, .bool false, vi 0]), (111,.slice (some ⟨b, o, none⟩) L.length c), (112,vi q)] [(⟨t, 0, none⟩, .slice (some ⟨b, o, none⟩) L.length c), (⟨b1, 0, none⟩, vi id), (⟨b1, 1, none⟩, vi par), (⟨b1, 2, none⟩, vi wt), (⟨b1, 3, none⟩, vi p.now), (⟨b1, 4, none⟩, .bool thr), (⟨b1, 5, none⟩, .bool false), (⟨b1, 6, none⟩, vi 0), (⟨t, 0, none⟩, .slice (some ⟨b, o, none⟩) L.length c)] (hasC (ba 1) (hasC (ba 0) (hasC (ba 0) (hasC (ba 0) (hasC (ba 0) (hasC (ba 0) (hasC (ba 0) (hasC (ba 0) (hasC (ba 1) has0))))))))) ?_
       refine Xu 6 (slcY 91 (.tmp 101) none (some (.tmp 102)) (some ⟨b, o, none⟩) L.length c 0 q 7 97 (some 103) (fun _ => by kernel_rfl) (by kernel_rfl) (by kernel_rfl) (fun _ => by kernel_rfl) (.inl ⟨rfl, rfl⟩) (.inr ⟨_, .i64, (q : Int), rfl, fun _ => by kernel_rfl, by first | rfl | omega⟩) Tryz.underlying91 (by kernel_rfl) (by omega) (by omega)) ?_
       refine Xu 16 (slcY 91 (.tmp 111) (some (.tmp 112)) none (some ⟨b, o, none⟩) L.length c q L.length 7 97 (some 113) (fun _ => by kernel_rfl) (by kernel_rfl) (by kernel_rfl) (fun _ => by kernel_rfl) (.inr ⟨_, .i64, (q : Int), rfl, fun _ => by kernel_rfl, by first | rfl | omega⟩) (.inl ⟨rfl, rfl⟩) Tryz.underlying91 (by kernel_rfl) (by omega) (by omega)) ?_
       refine Xw 7 9 ?_ ?_
       ·skip
        refine Xh 7 (Xf (E := rnE) 91 (.const (.slice none 0 0)) (.tmp 103) none 0 [] (L.take q) (.slice (cutA (some ⟨b, o, none⟩) c 0 7) (q - 0) (c - 0)) 104 Tryz.underlying91 (rnE_ety) (subRd (rowKRat 3 rfl) (by omega) (by omega)) (by simp; omega)) (fun r2 => ?_)
        refine Xo 9 (Xn 97 [vi id, vi par, vi wt, vi p.now, .bool thr, .bool false, vi 0] (some 106) (fun b => .slice (some ⟨b, 0, none⟩) 1 1)) (fun b3 => ?_)
        refine DT.pick 1 rfl ?_
        refine Xo 10 (Xf (E := rnE) 91 (.tmp 104) (.tmp 106) r2.1 r2.2 ([] ++ (L.take q)) [newN id par wt p.now thr] (.slice (some ⟨b3, 0, none⟩) 1 1) 107 Tryz.underlying91 (rnE_ety) (blkRd (x := newN id par wt p.now thr) 1 rfl) (by simp; omega)) (fun r4 => ?_)
        refine Xo 17 (Xf (E := rnE) 91 (.tmp 107) (.tmp 113) r4.1 r4.2 (([] ++ (L.take q)) ++ [newN id par wt p.now thr]) (L.drop q) (.slice (cutA (some ⟨b, o, none⟩) c q 7) (L.length - q) (c - q)) 114 Tryz.underlying91 (rnE_ety) (dropRd (rowKRat 4 rfl) (by omega)) (by simp; omega)) (fun r5 => ?_)
        refine Xt [18, 19] [(114,.slice r5.1 (((([] ++ (L.take q)) ++ [newN id par wt p.now thr]) ++ (L.drop q)).length) r5.2), (10,vi 0), (116,vp t)] [] has0 ?_
        refine DT.pick 3 rfl ?_
        refine Xo 20 (Xz [(0,.slice r5.1 (((([] ++ (L.take q)) ++ [newN id par wt p.now thr]) ++ (L.drop q)).length) r5.2)]) (fun _ => ?_)
        refine Xd (Xq (Xg 1 (Xe [(10,vi 0)] ?_ 1)))
        refine Xv ?_
        refine PT.pick 4 rfl ?_
        refine PT.drop ?_
        refine PT.pick 3 rfl ?_
        refine PT.drop ?_
        refine PT.pick 2 rfl ?_
        refine PT.drop ?_
        rw [show ((([] ++ (L.take q)) ++ [newN id par wt p.now thr]) ++ (L.drop q)) = (insN (newN id par wt p.now thr) L) by exact hins]
        refine Y0 (vi 0) (fun w hs => ?_)
        exact ⟨(), by rw [hz], by rw [hz]; exact Sat.closeRt (List.ne_nil_of_mem (insN_mem.2 (.inl rfl))) hs⟩
       ·skip
        refine Xh 9 (Xn 97 [vi id, vi par, vi wt, vi p.now, .bool thr, .bool false, vi 0] (some 106) (fun b => .slice (some ⟨b, 0, none⟩) 1 1)) (fun b2 => ?_)
        refine DT.pick 1 rfl ?_
        refine Xo 7 (Xf (E := rnE) 91 (.const (.slice none 0 0)) (.tmp 103) none 0 [] (L.take q) (.slice (cutA (some ⟨b, o, none⟩) c 0 7) (q - 0) (c - 0)) 104 Tryz.underlying91 (rnE_ety) (subRd (rowKRat 4 rfl) (by omega) (by omega)) (by simp; omega)) (fun r3 => ?_)
        refine Xo 10 (Xf (E := rnE) 91 (.tmp 104) (.tmp 106) r3.1 r3.2 ([] ++ (L.take q)) [newN id par wt p.now thr] (.slice (some ⟨b2, 0, none⟩) 1 1) 107 Tryz.underlying91 (rnE_ety) (blkRd (x := newN id par wt p.now thr) 1 rfl) (by simp; omega)) (fun r4 => ?_)
        refine Xo 17 (Xf (E := rnE) 91 (.tmp 107) (.tmp 113) r4.1 r4.2 (([] ++ (L.take q)) ++ [newN id par wt p.now thr]) (L.drop q) (.slice (cutA (some ⟨b, o, none⟩) c q 7) (L.length - q) (c - q)) 114 Tryz.underlying91 (rnE_ety) (dropRd (rowKRat 4 rfl) (by omega)) (by simp; omega)) (fun r5 => ?_)
        refine Xt [18, 19] [(114,.slice r5.1 (((([] ++ (L.take q)) ++ [newN id par wt p.now thr]) ++ (L.drop q)).length) r5.2), (10,vi 0), (116,vp t)] [] has0 ?_
        refine DT.pick 3 rfl ?_
        refine Xo 20 (Xz [(0,.slice r5.1 (((([] ++ (L.take q)) ++ [newN id par wt p.now thr]) ++ (L.drop q)).length) r5.2)]) (fun _ => ?_)
        refine Xd (Xq (Xg 1 (Xe [(10,vi 0)] ?_ 1)))
        refine Xv ?_
        refine PT.pick 4 rfl ?_
        refine PT.drop ?_
        refine PT.pick 3 rfl ?_
        refine PT.drop ?_
        refine PT.pick 2 rfl ?_
        refine PT.drop ?_
        rw [show ((([] ++ (L.take q)) ++ [newN id par wt p.now thr]) ++ (L.drop q)) = (insN (newN id par wt p.now thr) L) by exact hins]
        refine Y0 (vi 0) (fun w hs => ?_)
        exact ⟨(), by rw [hz], by rw [hz]; exact Sat.closeRt (List.ne_nil_of_mem (insN_mem.2 (.inl rfl))) hs⟩
end Go.Proofs.YtlhjibkkkhgonaaGreatDoor
set_option linter.unusedVariables false
set_option linter.unusedSimpArgs false
namespace Go.Proofs.YtlhjibkkkhgonaaGreatDoor
open Go.RowKit G
theorem rnext_walk (H : List SP) {p w_ : Int} (hp : 0 ≤ p ∧ p ≤ 1099511627776) (hw : isW w_ = true) : ∀ w, Sat w H → Calls Tryz.prog 70 #[vi p, vi w_] w (Ret (ι := Unit) (fun _ => vi (p + strd w_)) fun _ => H) := by
 have hs := strd_pos hw
 refine enterG (fn := Tryz.f70) 9 [vi p, vi w_] Tryz.func70 (by kernel_rfl) (by kernel_rfl) (by kernel_rfl) ?_
 refine Xq (Xg 1 (Xe [(0,vi p), (1,vi w_), (4,vi 0)] ?_ 1))
 refine Xq (Xg 5 (Xr [(4,vi 0), (5,vi p), (6,vi w_)] ?_ 3 2))
 refine Xs (Xa (some 7) (fun _ => vi (strd w_)) (rOf_walk _ w_)) (fun _ => ?_) 2
 refine Xe [(4,vi (IntKind.i64.wrap (p + (strd w_))))] ?_ 2
 refine Xv ?_
 rw [show IntKind.i64.wrap (p + (strd w_)) = (p + (strd w_)) by rw [w64 (by omega) (by omega)]]
 refine Y0 (vi (p + (strd w_))) (fun w hs => ?_)
 exact ⟨(), rfl, hs⟩
theorem least_is {l : List Nr} (hn : (l.map (·.id)).Nodup) {y : Nr} (hy : y ∈ l) (h : ∀ z ∈ l, lessN z y = false) : least l = some y := by
 cases hl : least l with
 | none => rw [least_none.1 hl] at hy; cases hy
 | some m =>
  obtain ⟨hm, hmin⟩ := least_some hl
  have h1 := h m hm
  have h2 := hmin y hy
  have : m.id = y.id := by
   simp only [lessN, Bool.or_eq_false_iff, decide_eq_false_iff_not, Bool.and_eq_false_imp, decide_eq_true_eq] at h1 h2
   by_cases c : m.pass = y.pass
   ·have := h1.2 c; have := h2.2 c.symm; omega
   ·omega
  rw [nd_eq hn hm hy this]
theorem kidR_nd {N : List Nr} (hn : (N.map (·.id)).Nodup) (k : Int) : ((kidR N k).map (·.id)).Nodup := List.Nodup.sublist (List.Sublist.map _ List.filter_sublist) hn
/-- The best so far. -/
def Best (M : List Nr) (g : Int) (u : Nat) (best : Int) : Prop :=
 (best = -1 ∧ ∀ (j : Nat) z, j < u → M[j]? = some z → (z.par == g && z.rdy) = false) ∨
 ∃ (m : Nat) (y : Nr), best = (m : Int) ∧ m < u ∧ M[m]? = some y ∧ y.par = g ∧ y.rdy = true ∧ ∀ (j : Nat) z, j < u → M[j]? = some z → z.par = g → z.rdy = true → lessN z y = false
theorem Best.start (M : List Nr) (g : Int) : Best M g 0 (-1) := .inl ⟨rfl, fun j z hj => by omega⟩
theorem Best.no {M : List Nr} {g : Int} {u : Nat} {best : Int} (h : Best M g u best) {x : Nr} (hx : M[u]? = some x) (hn : (x.par == g && x.rdy) = false) : Best M g (u + 1) best := by
 rcases h with ⟨h1, h2⟩ | ⟨m, y, h1, h2, h3, h4, h5, h6⟩
 ·refine .inl ⟨h1, fun j z hj hz => ?_⟩
  by_cases c : j = u
  ·subst c; rw [hx] at hz; cases hz; exact hn
  ·exact h2 j z (by omega) hz
 ·refine .inr ⟨m, y, h1, by omega, h3, h4, h5, fun j z hj hz hp hr => ?_⟩
  by_cases c : j = u
  ·subst c; rw [hx] at hz; cases hz; simp [hp, hr] at hn
  ·exact h6 j z (by omega) hz hp hr
theorem Best.new {M : List Nr} {g : Int} {u : Nat} {best : Int} (h : Best M g u best) {x : Nr} (hx : M[u]? = some x) (hp : x.par = g) (hr : x.rdy = true) (hb : ∀ (m : Nat) y, best = (m : Int) → M[m]? = some y → x.pass < y.pass) : Best M g (u + 1) (u : Int) := by
 refine .inr ⟨u, x, rfl, by omega, hx, hp, hr, fun j z hj hz hzp hzr => ?_⟩
 by_cases c : j = u
 ·subst c; rw [hx] at hz; cases hz; simp [lessN]
 ·rcases h with ⟨h1, h2⟩ | ⟨m, y, h1, h2, h3, h4, h5, h6⟩
  ·have := h2 j z (by omega) hz; simp [hzp, hzr] at this
  ·have h7 := h6 j z (by omega) hz hzp hzr
   have h8 := hb m y h1 h3
   simp only [lessN, Bool.or_eq_false_iff, decide_eq_false_iff_not, Bool.and_eq_false_imp, decide_eq_true_eq] at h7 ⊢
   exact ⟨by omega, fun e => by omega⟩
theorem Best.keep {M : List Nr} (hs : (M.map (·.id)).Pairwise (· < ·)) {g : Int} {u m : Nat} {y : Nr} (h : Best M g u (m : Int)) (hm : M[m]? = some y) {x : Nr} (hx : M[u]? = some x) (hb : ¬ x.pass < y.pass) : Best M g (u + 1) (m : Int) := by
 rcases h with ⟨h1, _⟩ | ⟨m', y', h1, h2, h3, h4, h5, h6⟩
 ·omega
 ·have : m' = m := by omega
  subst this
  rw [h3] at hm; cases hm
  refine .inr ⟨m', y, rfl, by omega, h3, h4, h5, fun j z hj hz hp hr => ?_⟩
  by_cases c : j = u
  ·subst c; rw [hx] at hz; cases hz
   have hlt : y.id < x.id := by
    have := List.pairwise_iff_getElem.1 hs m' j (by rw [List.length_map]; exact (List.getElem?_eq_some_iff.1 h3).1) (by rw [List.length_map]; exact (List.getElem?_eq_some_iff.1 hx).1) h2
    simp only [List.getElem_map] at this
    rw [(List.getElem?_eq_some_iff.1 h3).2, (List.getElem?_eq_some_iff.1 hx).2] at this
    exact this
   simp only [lessN, Bool.or_eq_false_iff, decide_eq_false_iff_not, Bool.and_eq_false_imp, decide_eq_true_eq]
   exact ⟨hb, fun _ => by omega⟩
  ·exact h6 j z (by omega) hz hp hr
theorem Best.done {M : List Nr} (hn : (M.map (·.id)).Nodup) {g : Int} {best : Int} (h : Best M g M.length best) (hk : KX M g) : ∃ (m : Nat) (y : Nr), best = (m : Int) ∧ M[m]? = some y ∧ y.par = g ∧ y.rdy = true ∧ least (kidR M g) = some y := by
 rcases h with ⟨_, h2⟩ | ⟨m, y, h1, _, h3, h4, h5, h6⟩
 ·obtain ⟨z, hz, hp, hr⟩ := hk
  obtain ⟨j, hj⟩ := List.mem_iff_getElem?.1 hz
  have := h2 j z (List.getElem?_eq_some_iff.1 hj).1 hj
  simp [hp, hr] at this
 ·refine ⟨m, y, h1, h3, h4, h5, least_is (kidR_nd hn g) (mem_kidR.2 ⟨List.mem_of_getElem? h3, h4, h5⟩) fun z hz => ?_⟩
  obtain ⟨a, b, c⟩ := mem_kidR.1 hz
  obtain ⟨j, hj⟩ := List.mem_iff_getElem?.1 a
  exact h6 j z (List.getElem?_eq_some_iff.1 hj).1 hj b c
/-! ## the way down -/
def wIds (L : List Nr) (wy : List Int) : List Int := wy.map fun a => (L.map (·.id)).getD a.toNat 0
structure RrI (L : List Nr) (rk : Int → Nat) (f : Nat) (M : List Nr) (i : Nat) (wy : List Int) (x : Nr) : Prop where
 sk : SK M
 rkk : RK M rk
 dn : DN rk (rk x.id) M
 at' : M[i]? = some x
 rdy : x.rdy = true
 fu : f + rk x.id = 7
 wl : f + wy.length = 6
 down : downN 6 L 0 [] = downN f M x.id (wIds L wy)
 rd : ∀ z ∈ M, z.thr = false → (z.rdy = true ↔ KX M z.id)
 ids : M.map (·.id) = L.map (·.id)
 way : ∀ a ∈ wy, ∃ j : Nat, a = (j : Int) ∧ j < M.length
theorem root_first {L : List Nr} (hs : SK L) (hsr : (L.map (·.id)).Pairwise (· < ·)) : ∃ r, L[0]? = some r ∧ r.id = 0 := by
 obtain ⟨r, hr, r0⟩ := hs.root
 obtain ⟨i, hi⟩ := List.mem_iff_getElem?.1 hr
 have hil := (List.getElem?_eq_some_iff.1 hi).1
 refine ⟨L[0]'(by omega), List.getElem?_eq_getElem (by omega), ?_⟩
 have h0 := hs.pos (List.getElem_mem (show 0 < L.length by omega))
 by_cases c : i = 0
 ·subst c; rw [(List.getElem?_eq_some_iff.1 hi).2, r0]
 ·have := List.pairwise_iff_getElem.1 hsr 0 i (by rw [List.length_map]; omega) (by rw [List.length_map]; omega) (by omega)
  simp only [List.getElem_map] at this
  rw [(List.getElem?_eq_some_iff.1 hi).2, r0] at this
  omega
theorem any_root {L : List Nr} (hw : WFN L) {r : Nr} (hr : r ∈ L) (r0 : r.id = 0) : (L.any fun x => x.par == 0 && x.rdy) = r.rdy := by
 have h := hw.rd r hr (hw.sk.rt r hr r0).2
 rw [r0] at h
 cases hrd : r.rdy with
 | true => rw [any_kid, kidR_KX]; exact h.1 hrd
 | false =>
  cases ha : L.any fun x => x.par == 0 && x.rdy with
  | false => rfl
  | true => rw [h.2 (kidR_KX.1 (any_kid.1 ha))] at hrd; cases hrd
theorem RrI.start {L : List Nr} {rk : Int → Nat} (hw : WFN L) (hrk : RK L rk) {r : Nr} (h0 : L[0]? = some r) (r0 : r.id = 0) (hrd : r.rdy = true) : RrI L rk 6 L 0 [] r :=
 ⟨hw.sk, hrk, hw.dn rk _, h0, hrd, by rw [(hrk r (List.mem_of_getElem? h0)).1 r0], rfl, by rw [r0]; rfl, hw.rd, rfl, fun a ha => by cases ha⟩
theorem RrI.leaf {L : List Nr} {rk : Int → Nat} {f : Nat} {M : List Nr} {i : Nat} {wy : List Int} {x : Nr} (h : RrI L rk f M i wy x) (ht : x.thr = true) : downN 6 L 0 [] = (x.id, (wIds L wy).foldl shiftN M) := by
 have hx := List.mem_of_getElem? h.at'
 have hr := (h.rkk x hx).2.2.1
 have hf := h.fu
 obtain ⟨g, rfl⟩ : ∃ g, f = g + 1 := ⟨f - 1, by omega⟩
 have hk : kidR M x.id = [] := by
  cases hkk : kidR M x.id with
  | nil => rfl
  | cons y ys =>
   have hy : y ∈ kidR M x.id := by rw [hkk]; simp
   obtain ⟨h1, h2, _⟩ := mem_kidR.1 hy
   exact absurd h2 (thr_leaf h.sk hx ht y h1)
 rw [h.down, downN, hk]; rfl
theorem RrI.next {L : List Nr} {rk : Int → Nat} {f : Nat} {M : List Nr} {i : Nat} {wy : List Int} {x : Nr} (h : RrI L rk f M i wy x) {m : Nat} {y : Nr} (hm : M[m]? = some y) (hyp : y.par = x.id) (hyr : y.rdy = true) (hl : least (kidR M x.id) = some y) :
  RrI L rk (f - 1) (upN (upN M x.id (nwF y.pass)) y.id (psF (y.pass + strd y.wt))) m (wy ++ [(i : Int)]) (psF (y.pass + strd y.wt) y) ∧ y.id ≠ x.id ∧ f - 1 < f := by
 have hx := List.mem_of_getElem? h.at'
 have hy := List.mem_of_getElem? hm
 have hry := RK.up h.sk h.rkk hy hx hyp.symm
 have hrx := h.rkk.pos hx
 have hry5 := (h.rkk y hy).2.2.1
 have hf := h.fu
 have hil := (List.getElem?_eq_some_iff.1 h.at').1
 have hml := (List.getElem?_eq_some_iff.1 hm).1
 have hne : y.id ≠ x.id := fun e => by rw [e] at hry; omega
 obtain ⟨g, rfl⟩ : ∃ g, f = g + 1 := ⟨f - 1, by omega⟩
 obtain ⟨hd2, _, _⟩ := h.dn.step h.sk h.rkk hx hy hyp hyr (least_some hl).2
 have s1 : Skel (nwF y.pass) := nwF_skel _
 have s2 : Skel (psF (y.pass + strd y.wt)) := psF_skel _
 have hsk2 := (h.sk.upN s1 (k := x.id)).upN s2 (k := y.id)
 have hids : (upN (upN M x.id (nwF y.pass)) y.id (psF (y.pass + strd y.wt))).map (·.id) = L.map (·.id) := by rw [upN_id s2.id, upN_id s1.id, h.ids]
 have hm1 := up_at h.sk.nd h.at' hm hne (nwF y.pass)
 have hm2 : (upN (upN M x.id (nwF y.pass)) y.id (psF (y.pass + strd y.wt)))[m]? = some (psF (y.pass + strd y.wt) y) := by
  rw [upN, List.getElem?_map, hm1]; simp
 have hl2 : (upN (upN M x.id (nwF y.pass)) y.id (psF (y.pass + strd y.wt))).length = M.length := by simp [upN]
 have e0 : upN (upN M x.id (nwF y.pass)) y.id (psF (y.pass + strd y.wt)) = M.map (fun z => (fun z => if z.id == y.id then psF (y.pass + strd y.wt) z else z) ((fun z => if z.id == x.id then nwF y.pass z else z) z)) := by rw [upN, upN, List.map_map]; rfl
 have st : Still (fun z => (fun z => if z.id == y.id then psF (y.pass + strd y.wt) z else z) ((fun z => if z.id == x.id then nwF y.pass z else z) z)) := (Still.ite (nwF_still _)).comp (Still.ite (psF_still _))
 refine ⟨⟨hsk2, (h.rkk.ups s1).ups s2, hd2, hm2, hyr, by show g + 1 - 1 + rk y.id = 7; omega, by have := h.wl; simp; omega, ?_, ?_, hids, ?_⟩, hne, by omega⟩
 ·have hw : wIds L (wy ++ [(i : Int)]) = wIds L wy ++ [x.id] := by
   rw [wIds, List.map_append]
   congr 1
   simp only [List.map_cons, List.map_nil, Int.toNat_natCast]
   rw [← h.ids, List.getD_eq_getElem?_getD, List.getElem?_map, h.at']; rfl
  rw [h.down, downN, hl, hw]; rfl
 ·rw [e0]
  intro z hz ht
  obtain ⟨v, hv, rfl⟩ := List.mem_map.1 hz
  rw [KX.still st, st.rdy, st.sk.id]
  exact h.rd v hv (by rw [← st.sk.thr]; exact ht)
 ·intro a ha
  rcases List.mem_append.1 ha with ha | ha
  ·obtain ⟨j, hj, hjl⟩ := h.way a ha; exact ⟨j, hj, by rw [hl2]; exact hjl⟩
  ·simp at ha; exact ⟨i, ha, by rw [hl2]; exact hil⟩
end Go.Proofs.YtlhjibkkkhgonaaGreatDoor
set_option linter.unusedVariables false
set_option linter.unusedSimpArgs false
namespace Go.Proofs.YtlhjibkkkhgonaaGreatDoor
open Go.RowKit G
theorem kI_ety : Ety Tryz.prog (kE .i64) 3 (.int .i64 0) := Ety.of (b := 8) (by kernel_rfl) (by decide) (by kernel_rfl)
structure RrS where
 M : List Nr
 i : Nat
 wy : List Int
 a : Option Addr
 c : Nat
/-- The first nodes of a group's row with their passes made less. -/
def shTo (g P : Int) (j : Nat) (M : List Nr) : List Nr := (M.take j).map (shG g P) ++ M.drop j
theorem shTo_len (g P : Int) (j : Nat) (M : List Nr) : (shTo g P j M).length = M.length := by simp [shTo]; omega
theorem shTo_all (g P : Int) (M : List Nr) : shTo g P M.length M = M.map (shG g P) := by simp [shTo]
theorem shTo_at {g P : Int} {j i : Nat} {M : List Nr} {z : Nr} (h : M[i]? = some z) : (shTo g P j M)[i]? = some (if i < j then shG g P z else z) := by
 have hi := (List.getElem?_eq_some_iff.1 h).1
 unfold shTo
 by_cases c : i < j
 ·rw [List.getElem?_append_left (by simp; omega), List.getElem?_map, List.getElem?_take_of_lt c, h, if_pos c]; rfl
 ·rw [List.getElem?_append_right (by simp; omega), if_neg c]
  simp only [List.length_map, List.length_take]
  rw [List.getElem?_drop, Nat.min_eq_left (by omega), show j + (i - j) = i by omega, h]
theorem shTo_succ {g P : Int} {j : Nat} {M : List Nr} {z : Nr} (h : M[j]? = some z) : shTo g P (j + 1) M = (shTo g P j M).set j (shG g P z) := by
 have hj := (List.getElem?_eq_some_iff.1 h).1
 unfold shTo
 rw [List.take_add_one, h, List.map_append, List.set_append, if_neg (by simp; omega)]
 simp only [Option.toList_some, List.map_cons, List.map_nil, List.length_map, List.length_take]
 rw [Nat.min_eq_left (by omega), Nat.sub_self, List.drop_eq_getElem_cons hj, (List.getElem?_eq_some_iff.1 h).2, List.set_cons_zero, List.append_assoc]; rfl
theorem set_self {α : Type} {l : List α} {i : Nat} {x : α} (h : l[i]? = some x) : l.set i x = l := set_same h
theorem wIds_at {L M : List Nr} (hids : M.map (·.id) = L.map (·.id)) {a : Nat} {g : Nr} (h : M[a]? = some g) : (L.map (·.id)).getD (a : Int).toNat 0 = g.id := by
 rw [← hids, Int.toNat_natCast, List.getD_eq_getElem?_getD, List.getElem?_map, h]; rfl
set_option maxHeartbeats 2000000 in
set_option maxRecDepth 100000 in
theorem rrun_walk (H : List SP) (t : Nat) (L : List Nr) (hw : WFN L) (hsr : (L.map (·.id)).Pairwise (· < ·)) : ∀ w, Sat w (rtS t L :: H) → Calls Tryz.prog 26 #[vp t] w (Ret (ι := Unit) (fun _ => .tuple #[vi (runN L).1.1, .bool (runN L).1.2]) fun _ => rtS t (runN L).2 :: H) := by
 have hsk := hw.sk
 have hnd := hsk.nd
 have hl := hsk.len
 obtain ⟨rk, hrk⟩ := hsk.rk
 obtain ⟨r, hr0, hr00⟩ := root_first hsk hsr
 have hrL := List.mem_of_getElem? hr0
 have hg0 : gt L 0 = some r := hr00 ▸ gt_of hnd hrL
 have hne : L ≠ [] := List.ne_nil_of_mem hrL
 refine enterG (fn := Tryz.f26) 222 [vp t] Tryz.func26 (by kernel_rfl) (by kernel_rfl) (by kernel_rfl) ?_
 refine PT.openRt fun b o c => ?_
 refine Xq (Xg 2 (Xe [(0,vp t), (2,vi 0), (3,.bool false)] ?_ 2))
 refine Xq (Xq (Xg 3 (Xr [(0,vp t), (2,vi 0), (3,.bool false), (12,vp t)] ?_ 2 1)))
 refine Xs (Xa (some 13) (fun _ => .bool (L.any fun x => x.par == 0 && x.rdy)) (rsome_walk H t b o c L 0 (by omega))) (fun _ => ?_) 1
 rw [show (L.any fun x => x.par == 0 && x.rdy) = r.rdy by exact any_root hw hrL hr00]
 refine Xe [(0,vp t), (2,vi 0), (3,.bool false), (14,.bool (!r.rdy))] ?_ 1
 cases hrd : r.rdy with
 | false =>
  refine Xc true (fun _ => ?_) (fun h => by cases h)
  refine Xq (Xg 2 (Xe [(0,vp t), (2,vi 0), (3,.bool false)] ?_ 2))
  refine Xv (thenV ?_)
  have hz : runN L = ((0, false), L) := by rw [runN, hg0]; simp [hrd]
  refine Y0 (.tuple #[vi 0, .bool false]) (fun w hs => ?_)
  exact ⟨(), by rw [hz], by rw [hz]; exact Sat.closeRt hne hs⟩
 | true =>
  refine PT.rowNil rnE 97 ?_
  refine Xc false (fun h => by cases h) (fun _ => ?_)
  refine Xk (Xq (Xg 9 (Xl [(0,vp t), (2,vi 0), (3,.bool false), (15,vp t), (19,.slice (some ⟨b, o, none⟩) L.length c)] [(⟨t, 0, none⟩, .slice (some ⟨b, o, none⟩) L.length c)] (hasC (ba 1) has0) ?_ 4 5)))
  refine Xs (Xf (E := rnE) 91 (.const (.slice none 0 0)) (.tmp 19) none 0 [] L (.slice (some ⟨b, o, none⟩) L.length c) 20 Tryz.underlying91 (rnE_ety) (rowKRat 2 rfl) (by simp; omega)) (fun r1 => ?_) 3
  rw [show ([] ++ L) = L by rfl]
  refine Xr [(20,.slice r1.1 L.length r1.2), (0,vp t), (2,vi 0), (3,.bool false), (22,vp t)] ?_ 1 2
  refine Xh0 ?_ 1 1
  refine Xs (Xz [(0,.slice r1.1 L.length r1.2)]) (fun _ => ?_) 0
  refine endR ?_
  refine PT.pick 2 rfl ?_
  refine PT.drop ?_
  refine PT.know (KR.isSome (s := ⟨r1.1, r1.2, L⟩) (rowKRat 1 rfl) hne) ?_
  rintro ⟨wb, wo, hA2⟩
  dsimp only at hA2
  rw [hA2]
  obtain ⟨wc, hwc⟩ : ∃ wc, r1.2 = wc := ⟨_, rfl⟩
  rw [hwc]
  refine PT.rowNil (kE .i64) 3 ?_
  refine Xq (Xg 1 (Xe [(0,vp t), (2,vi 0), (3,.bool false), (4,vi 0)] ?_ 1))
  refine Xq (Xg 1 (Xe [(0,vp t), (2,vi 0), (3,.bool false), (4,vi 0), (5,.slice none 0 0)] ?_ 1))
  refine Xq (Xb 0 (Xp [(0,vp t), (2,vi 0), (3,.bool false), (4,vi 0), (5,.slice none 0 0)] ?_))
  refine loopG (fun (s : RrS) => [(0, vp t), (2, vi 0), (3, .bool false), (4, vi (s.i : Int)), (5, .slice s.a s.wy.length s.c)]) (fun (s : RrS) => (row (kE .i64) 3 (.slice s.a s.wy.length s.c) s.wy :: blk t 93 [.slice (some ⟨wb, wo, none⟩) s.M.length wc] :: row rnE 97 (.slice (some ⟨wb, wo, none⟩) s.M.length wc) s.M :: H)) (fun k (s : RrS) => ∃ x, RrI L rk k s.M s.i s.wy x) 6 ⟨L, 0, [], none, 0⟩ (by kernel_rfl) ⟨r, RrI.start hw hrk hr0 hr00 hrd⟩ ?_
  rintro k ⟨M, i, wy, A, cp⟩ ⟨x, hI⟩
  simp only at hI
  have hsM := hI.sk
  have hlM := hsM.len
  have hi := hI.at'
  have hxM := List.mem_of_getElem? hi
  have hil := (List.getElem?_eq_some_iff.1 hi).1
  have hwl := hI.wl
  refine Xq (Xq (Xg 10 (Xl [(0,vp t), (2,vi 0), (3,.bool false), (4,vi i), (5,.slice A wy.length cp), (26,.slice (some ⟨wb, wo, none⟩) M.length wc), (27,vi i)] [(⟨t, 0, none⟩, .slice (some ⟨wb, wo, none⟩) M.length wc)] (hasC (ba 1) has0) ?_ 5 5)))
  refine Xs (yldS (Xi 91 (.tmp 26) (.tmp 27) wb wo M.length wc i 7 97 (i : Int) 28 Tryz.underlying91)) (fun _ => ?_) 4
  refine Xm [(0,vp t), (2,vi 0), (3,.bool false), (4,vi i), (5,.slice A wy.length cp), (32,.bool (!x.thr))] [(⟨wb, wo + i * 7 + 4, none⟩, .bool x.thr)] (hasC (rowCell (E := rnE) (xs := M) 2 rfl (x := x) hi (j := 4) rfl) has0) ?_ 4
  cases hxt : x.thr with
  | true =>
   have hfin := hI.leaf hxt
   have hrn : runN L = ((x.id, true), (wIds L wy).foldl shiftN M) := by rw [runN, hg0]; simp only [hrd, if_true, hfin]
   refine Xc false (fun h => by cases h) (fun _ => ?_)
   refine Xx 0 (thenX (thenX (leaveR (Xq (Xq (Xg 1 (Xe [(0,vp t), (2,vi 0), (3,.bool false), (4,vi i), (5,.slice A wy.length cp), (9,vi 0)] ?_ 1)))))))
   refine Xb 4 (Xp [(0,vp t), (2,vi 0), (3,.bool false), (4,vi i), (5,.slice A wy.length cp), (9,vi 0)] ?_)
   refine loopG (fun (q : List Nr × Nat) => [(0, vp t), (2, vi 0), (3, .bool false), (4, vi i), (5, .slice A wy.length cp), (9, vi (q.2 : Int))]) (fun (q : List Nr × Nat) => (row (kE .i64) 3 (.slice A wy.length cp) wy :: blk t 93 [.slice (some ⟨wb, wo, none⟩) q.1.length wc] :: row rnE 97 (.slice (some ⟨wb, wo, none⟩) q.1.length wc) q.1 :: H)) (fun k (q : List Nr × Nat) => k + q.2 = wy.length ∧ SK q.1 ∧ DN rk (rk x.id) q.1 ∧ q.1.map (·.id) = L.map (·.id) ∧ ((wIds L wy).drop q.2).foldl shiftN q.1 = (wIds L wy).foldl shiftN M) wy.length (M, 0) (by kernel_rfl) ⟨by simp, hI.sk, hI.dn, hI.ids, rfl⟩ ?_
   rintro k2 ⟨M2, u⟩ ⟨hku, hs2, hd2, hids2, hfold⟩
   simp only at hku hs2 hd2 hids2 hfold
   have hl2 : M2.length = M.length := by have := congrArg List.length (hids2.trans hI.ids.symm); simpa using this
   refine Xq (Xq (Xg 4 (Xe [(0,vp t), (2,vi 0), (3,.bool false), (4,vi i), (5,.slice A wy.length cp), (9,vi u), (136,.bool (decide ((u : Int) < (wy.length : Int))))] ?_ 4)))
   refine Xc (decide ((u : Int) < (wy.length : Int))) (fun h2 => ?_) (fun h2 => ?_)
   ·skip
    have hu : u < wy.length := by have := of_decide_eq_true h2; omega
    obtain ⟨a0, ha0⟩ : ∃ a0, wy[u]? = some a0 := ⟨_, List.getElem?_eq_getElem hu⟩
    obtain ⟨a, rfl, hal⟩ := hI.way a0 (List.mem_of_getElem? ha0)
    obtain ⟨g, hg⟩ : ∃ g, M2[a]? = some g := ⟨_, List.getElem?_eq_getElem (by omega)⟩
    have hgM := List.mem_of_getElem? hg
    have hgn := hd2.now g hgM
    have hdr : (wIds L wy).drop u = g.id :: (wIds L wy).drop (u + 1) := by rw [List.drop_eq_getElem_cons (by simp [wIds]; exact hu)]; congr 1; simp only [wIds, List.getElem_map]; rw [(List.getElem?_eq_some_iff.1 ha0).2]; exact wIds_at hids2 hg
    refine PT.know (KR.isSome (s := ⟨A, cp, wy⟩) (rowKRat 0 rfl) (List.ne_nil_of_length_pos (by show 0 < wy.length; omega))) ?_
    rintro ⟨yb, yo, hA3⟩
    dsimp only at hA3
    subst hA3
    refine Xk (Xq (Xb 5 (Xq (Xy0 0 [] 12 ?_))))
    refine Xt [0, 1, 2, 3, 4, 5] [(0,vp t), (2,vi 0), (3,.bool false), (4,vi i), (5,.slice (some ⟨yb, yo, none⟩) wy.length cp), (9,vi u), (142,.slice (some ⟨wb, wo, none⟩) M2.length wc), (143,.slice (some ⟨yb, yo, none⟩) wy.length cp), (144,vi u)] [(⟨t, 0, none⟩, .slice (some ⟨wb, wo, none⟩) M2.length wc)] (hasC (ba 1) has0) ?_
    refine Xu 6 (Xi 50 (.tmp 143) (.tmp 144) yb yo wy.length cp u 1 3 (u : Int) 145 Tryz.underlying50) ?_
    refine Xt [7] [(0,vp t), (2,vi 0), (3,.bool false), (4,vi i), (5,.slice (some ⟨yb, yo, none⟩) wy.length cp), (9,vi u), (142,.slice (some ⟨wb, wo, none⟩) M2.length wc), (146,vi a)] [(⟨yb, yo + u * 1, none⟩, vi a)] (hasC (rowCell (E := kE .i64) (xs := wy) 0 rfl (x := (a : Int)) ha0 (j := 0) rfl) has0) ?_
    refine Xu 8 (Xi 91 (.tmp 142) (.tmp 146) wb wo M2.length wc a 7 97 (a : Int) 147 Tryz.underlying91) ?_
    refine Xt [9, 10, 11] [(0,vp t), (2,vi 0), (3,.bool false), (4,vi i), (5,.slice (some ⟨yb, yo, none⟩) wy.length cp), (9,vi u), (10,vi g.now)] [(⟨wb, wo + a * 7 + 6, none⟩, vi g.now)] (hasC (rowCell (E := rnE) (xs := M2) 2 rfl (x := g) hg (j := 6) rfl) has0) ?_
    refine Xd (Xq (Xg 2 (Xe [(0,vp t), (2,vi 0), (3,.bool false), (4,vi i), (5,.slice (some ⟨yb, yo, none⟩) wy.length cp), (9,vi u), (10,vi g.now), (151,.bool (decide (g.now > 16777216)))] ?_ 2)))
    refine Xc (decide (g.now > 16777216)) (fun h3 => ?_) (fun h3 => ?_)
    ·skip
     have h3 := of_decide_eq_true h3
     have hgg : shG g.id g.now g = g := shG_no (Ne.symm (hs2.ne_par hgM))
     refine Xq (Xq (Xg 1 (Xe [(0,vp t), (2,vi 0), (3,.bool false), (4,vi i), (5,.slice (some ⟨yb, yo, none⟩) wy.length cp), (9,vi u), (10,vi g.now), (11,vi 0)] ?_ 1)))
     refine Xb 6 (Xp [(0,vp t), (2,vi 0), (3,.bool false), (4,vi i), (5,.slice (some ⟨yb, yo, none⟩) wy.length cp), (9,vi u), (10,vi g.now), (11,vi 0)] ?_)
     refine loopG (fun (j : Nat) => [(0, vp t), (2, vi 0), (3, .bool false), (4, vi i), (5, .slice (some ⟨yb, yo, none⟩) wy.length cp), (9, vi u), (10, vi g.now), (11, vi j)]) (fun (j : Nat) => (row (kE .i64) 3 (.slice (some ⟨yb, yo, none⟩) wy.length cp) wy :: blk t 93 [.slice (some ⟨wb, wo, none⟩) ((shTo g.id g.now j M2).length) wc] :: row rnE 97 (.slice (some ⟨wb, wo, none⟩) (shTo g.id g.now j M2).length wc) (shTo g.id g.now j M2) :: H)) (fun k (j : Nat) => k + j = M2.length) M2.length 0 (by kernel_rfl) (by simp) ?_
     rintro k3 j hkj
     have hlj := shTo_len g.id g.now j M2
     have hga : (shTo g.id g.now j M2)[a]? = some g := by rw [shTo_at hg]; split <;> simp [hgg]
     have hlm2 := hs2.len
     refine Xq (Xq (Xg 7 (Xm [(0,vp t), (2,vi 0), (3,.bool false), (4,vi i), (5,.slice (some ⟨yb, yo, none⟩) wy.length cp), (9,vi u), (10,vi g.now), (11,vi j), (158,.bool (decide ((j : Int) < ((shTo g.id g.now j M2).length : Int))))] [(⟨t, 0, none⟩, .slice (some ⟨wb, wo, none⟩) ((shTo g.id g.now j M2).length) wc)] (hasC (ba 1) has0) ?_ 7)))
     refine Xc (decide ((j : Int) < ((shTo g.id g.now j M2).length : Int))) (fun h4 => ?_) (fun h4 => ?_)
     ·skip
      have hj : j < M2.length := by have := of_decide_eq_true h4; rw [hlj] at this; omega
      obtain ⟨z, hz⟩ : ∃ z, M2[j]? = some z := ⟨_, List.getElem?_eq_getElem hj⟩
      have hzj : (shTo g.id g.now j M2)[j]? = some z := by rw [shTo_at hz, if_neg (by omega)]
      have hzp := hd2.pass z (List.mem_of_getElem? hz)
      refine Xk (Xq (Xb 7 (Xq (Xy0 0 [] 22 ?_))))
      refine Xt [0, 1, 2, 3, 4, 9, 10, 11, 12, 13, 14] [(0,vp t), (2,vi 0), (3,.bool false), (4,vi i), (5,.slice (some ⟨yb, yo, none⟩) wy.length cp), (9,vi u), (10,vi g.now), (11,vi j), (164,.slice (some ⟨wb, wo, none⟩) ((shTo g.id g.now j M2).length) wc), (165,vi j), (173,.slice (some ⟨wb, wo, none⟩) ((shTo g.id g.now j M2).length) wc), (174,.slice (some ⟨yb, yo, none⟩) wy.length cp), (175,vi u)] [(⟨t, 0, none⟩, .slice (some ⟨wb, wo, none⟩) ((shTo g.id g.now j M2).length) wc), (⟨t, 0, none⟩, .slice (some ⟨wb, wo, none⟩) ((shTo g.id g.now j M2).length) wc)] (hasC (ba 1) (hasC (ba 1) has0)) ?_
      refine Xu 5 (Xi 91 (.tmp 164) (.tmp 165) wb wo ((shTo g.id g.now j M2).length) wc j 7 97 (j : Int) 166 Tryz.underlying91) ?_
      refine Xt [6, 7, 8] [(0,vp t), (2,vi 0), (3,.bool false), (4,vi i), (5,.slice (some ⟨yb, yo, none⟩) wy.length cp), (9,vi u), (10,vi g.now), (11,vi j), (173,.slice (some ⟨wb, wo, none⟩) ((shTo g.id g.now j M2).length) wc), (174,.slice (some ⟨yb, yo, none⟩) wy.length cp), (175,vi u), (169,vi z.par)] [(⟨wb, wo + j * 7 + 1, none⟩, vi z.par)] (hasC (rowCell (E := rnE) (xs := shTo g.id g.now j M2) 2 rfl (x := z) hzj (j := 1) rfl) has0) ?_
      refine Xu 15 (Xi 50 (.tmp 174) (.tmp 175) yb yo wy.length cp u 1 3 (u : Int) 176 Tryz.underlying50) ?_
      refine Xt [16] [(0,vp t), (2,vi 0), (3,.bool false), (4,vi i), (5,.slice (some ⟨yb, yo, none⟩) wy.length cp), (9,vi u), (10,vi g.now), (11,vi j), (173,.slice (some ⟨wb, wo, none⟩) ((shTo g.id g.now j M2).length) wc), (169,vi z.par), (177,vi a)] [(⟨yb, yo + u * 1, none⟩, vi a)] (hasC (rowCell (E := kE .i64) (xs := wy) 0 rfl (x := (a : Int)) ha0 (j := 0) rfl) has0) ?_
      refine Xu 17 (Xi 91 (.tmp 173) (.tmp 177) wb wo ((shTo g.id g.now j M2).length) wc a 7 97 (a : Int) 178 Tryz.underlying91) ?_
      refine Xt [18, 19, 20, 21] [(0,vp t), (2,vi 0), (3,.bool false), (4,vi i), (5,.slice (some ⟨yb, yo, none⟩) wy.length cp), (9,vi u), (10,vi g.now), (11,vi j), (182,.bool (z.par == g.id))] [(⟨wb, wo + a * 7, none⟩, vi g.id)] (hasC (rowCell (E := rnE) (xs := shTo g.id g.now j M2) 2 rfl (x := g) hga (j := 0) rfl) has0) ?_
      refine Xd (Xc (z.par == g.id) (fun h5 => ?_) (fun h5 => ?_))
      ·skip
       refine Xy0 0 [20] 21 ?_
       refine Xt [0, 1, 2, 3, 4, 5, 6, 7, 8, 9, 14] [(0,vp t), (2,vi 0), (3,.bool false), (4,vi i), (5,.slice (some ⟨yb, yo, none⟩) wy.length cp), (9,vi u), (10,vi g.now), (11,vi j), (186,.slice (some ⟨wb, wo, none⟩) ((shTo g.id g.now j M2).length) wc), (187,vi j), (191,.slice (some ⟨wb, wo, none⟩) ((shTo g.id g.now j M2).length) wc), (192,vi j), (197,vi g.now)] [(⟨t, 0, none⟩, .slice (some ⟨wb, wo, none⟩) ((shTo g.id g.now j M2).length) wc), (⟨t, 0, none⟩, .slice (some ⟨wb, wo, none⟩) ((shTo g.id g.now j M2).length) wc)] (hasC (ba 1) (hasC (ba 1) has0)) ?_
       refine Xu 10 (Xi 91 (.tmp 191) (.tmp 192) wb wo ((shTo g.id g.now j M2).length) wc j 7 97 (j : Int) 193 Tryz.underlying91) ?_
       refine Xt [11, 12, 13, 15, 16] [(0,vp t), (2,vi 0), (3,.bool false), (4,vi i), (5,.slice (some ⟨yb, yo, none⟩) wy.length cp), (9,vi u), (10,vi g.now), (11,vi j), (186,.slice (some ⟨wb, wo, none⟩) ((shTo g.id g.now j M2).length) wc), (187,vi j), (199,vi (mxI 0 (IntKind.i64.wrap (z.pass - g.now))))] [(⟨wb, wo + j * 7 + 3, none⟩, vi z.pass)] (hasC (rowCell (E := rnE) (xs := shTo g.id g.now j M2) 2 rfl (x := z) hzj (j := 3) rfl) has0) ?_
       refine Xu 17 (Xi 91 (.tmp 186) (.tmp 187) wb wo ((shTo g.id g.now j M2).length) wc j 7 97 (j : Int) 200 Tryz.underlying91) ?_
       refine Xt [18, 19] [(0,vp t), (2,vi 0), (3,.bool false), (4,vi i), (5,.slice (some ⟨yb, yo, none⟩) wy.length cp), (9,vi u), (10,vi g.now), (11,vi j), (199,vi (mxI 0 (IntKind.i64.wrap (z.pass - g.now)))), (202,.pointer (some ⟨wb, wo + j * 7 + 3, none⟩))] [] has0 ?_
       rw [show IntKind.i64.wrap (z.pass - g.now) = (z.pass - g.now) by rw [w64 (by omega) (by omega)]]
       refine DT.pick 2 rfl ?_
       refine Xo 20 (setS (E := rnE) (J := j) (j := 3) z (shG g.id g.now z) (.int .i64 (mxI 0 (z.pass - g.now))) ⟨wb, wo + j * 7 + 3, none⟩ (fun _ => by kernel_rfl) (by first | rfl | simp) (hzj) (by rw [shG, if_pos h5]; rfl) (by decide)) (fun _ => ?_)
       refine Xd ?_
       rw [show (shTo g.id g.now j M2).length = (shTo g.id g.now (j + 1) M2).length by rw [hlj, shTo_len]]
       rw [show ((shTo g.id g.now j M2).set j (shG g.id g.now z)) = (shTo g.id g.now (j + 1) M2) by rw [shTo_succ hz]]
       refine Xg 3 (Xe [(0,vp t), (2,vi 0), (3,.bool false), (4,vi i), (5,.slice (some ⟨yb, yo, none⟩) wy.length cp), (9,vi u), (10,vi g.now), (11,vi (IntKind.i64.wrap ((j : Int) + 1)))] ?_ 3)
       rw [show IntKind.i64.wrap ((j : Int) + 1) = ((j : Int) + 1) by rw [w64 (by omega) (by omega)]]
       refine PT.pick 0 rfl ?_
       refine PT.pick 2 rfl ?_
       refine PT.pick 2 rfl ?_
       refine Xp [(0,vp t), (2,vi 0), (3,.bool false), (4,vi i), (5,.slice (some ⟨yb, yo, none⟩) wy.length cp), (9,vi u), (10,vi g.now), (11,vi ((j : Int) + 1))] ?_
       exact againG (k3 - 1) (j + 1) rfl rfl (by omega) (by omega)
      ·skip
       have hse : shTo g.id g.now j M2 = shTo g.id g.now (j + 1) M2 := by rw [shTo_succ hz, shG_no (by simpa using h5), set_self hzj]
       refine Xk (Xg 3 (Xe [(0,vp t), (2,vi 0), (3,.bool false), (4,vi i), (5,.slice (some ⟨yb, yo, none⟩) wy.length cp), (9,vi u), (10,vi g.now), (11,vi (IntKind.i64.wrap ((j : Int) + 1)))] ?_ 3))
       rw [show IntKind.i64.wrap ((j : Int) + 1) = ((j : Int) + 1) by rw [w64 (by omega) (by omega)]]
       rw [hse]
       refine Xp [(0,vp t), (2,vi 0), (3,.bool false), (4,vi i), (5,.slice (some ⟨yb, yo, none⟩) wy.length cp), (9,vi u), (10,vi g.now), (11,vi ((j : Int) + 1))] ?_
       exact againG (k3 - 1) (j + 1) rfl rfl (by omega) (by omega)
     ·skip
      have hj : j = M2.length := by have := of_decide_eq_false h4; rw [hlj] at this; omega
      have hmm : shTo g.id g.now j M2 = M2.map (shG g.id g.now) := by rw [hj, shTo_all]
      have hM3n : ((M2.map (shG g.id g.now)).map (·.id)).Nodup := (hs2.map _ (shG_skel _ _)).nd
      have hga3 : (M2.map (shG g.id g.now))[a]? = some g := by rw [List.getElem?_map, hg, Option.map_some, hgg]
      refine Xx 6 (thenX (thenX (leaveR (Xy0 0 [10] 11 ?_))))
      refine Xt [0, 1, 2, 3, 4, 5] [(0,vp t), (2,vi 0), (3,.bool false), (4,vi i), (5,.slice (some ⟨yb, yo, none⟩) wy.length cp), (9,vi u), (206,.slice (some ⟨wb, wo, none⟩) ((shTo g.id g.now j M2).length) wc), (207,.slice (some ⟨yb, yo, none⟩) wy.length cp), (208,vi u)] [(⟨t, 0, none⟩, .slice (some ⟨wb, wo, none⟩) ((shTo g.id g.now j M2).length) wc)] (hasC (ba 1) has0) ?_
      refine Xu 6 (Xi 50 (.tmp 207) (.tmp 208) yb yo wy.length cp u 1 3 (u : Int) 209 Tryz.underlying50) ?_
      refine Xt [7] [(0,vp t), (2,vi 0), (3,.bool false), (4,vi i), (5,.slice (some ⟨yb, yo, none⟩) wy.length cp), (9,vi u), (206,.slice (some ⟨wb, wo, none⟩) ((shTo g.id g.now j M2).length) wc), (210,vi a)] [(⟨yb, yo + u * 1, none⟩, vi a)] (hasC (rowCell (E := kE .i64) (xs := wy) 0 rfl (x := (a : Int)) ha0 (j := 0) rfl) has0) ?_
      refine Xu 8 (Xi 91 (.tmp 206) (.tmp 210) wb wo ((shTo g.id g.now j M2).length) wc a 7 97 (a : Int) 211 Tryz.underlying91) ?_
      refine Xt [9] [(0,vp t), (2,vi 0), (3,.bool false), (4,vi i), (5,.slice (some ⟨yb, yo, none⟩) wy.length cp), (9,vi u), (212,.pointer (some ⟨wb, wo + a * 7 + 6, none⟩))] [] has0 ?_
      refine DT.pick 2 rfl ?_
      refine Xo 10 (setS (E := rnE) (J := a) (j := 6) g (nwF 0 g) (.int .i64 0) ⟨wb, wo + a * 7 + 6, none⟩ (fun _ => by kernel_rfl) (by first | rfl | simp) (hga) (rfl) (by decide)) (fun _ => ?_)
      refine Xd ?_
      have hsl : shiftN M2 g.id = upN (M2.map (shG g.id g.now)) g.id (nwF 0) := shiftN_eq hs2.nd hgM h3
      rw [show (shTo g.id g.now j M2).length = (shiftN M2 g.id).length by rw [hlj, hsl]; simp [upN]]
      rw [show ((shTo g.id g.now j M2).set a (nwF 0 g)) = (shiftN M2 g.id) by rw [hsl, hmm]; exact set_at hM3n hga3 (nwF 0)]
      refine Xg 3 (Xe [(0,vp t), (2,vi 0), (3,.bool false), (4,vi i), (5,.slice (some ⟨yb, yo, none⟩) wy.length cp), (9,vi (IntKind.i64.wrap ((u : Int) + 1)))] ?_ 3)
      rw [show IntKind.i64.wrap ((u : Int) + 1) = ((u : Int) + 1) by rw [w64 (by omega) (by omega)]]
      refine PT.pick 0 rfl ?_
      refine PT.pick 2 rfl ?_
      refine PT.pick 2 rfl ?_
      refine Xp [(0,vp t), (2,vi 0), (3,.bool false), (4,vi i), (5,.slice (some ⟨yb, yo, none⟩) wy.length cp), (9,vi ((u : Int) + 1))] ?_
      exact againG (k2 - 1) (shiftN M2 g.id, u + 1) rfl rfl (by omega) ⟨by simp only; omega, hs2.shift hgM, hd2.shift hs2 hgM, by simp only; rw [hsl, upN_id (nwF_skel 0).id, ← hids2, List.map_map]; exact List.map_congr_left fun v _ => (shG_skel _ _).id v, by simp only; rw [← hfold, hdr, List.foldl_cons]⟩
    ·skip
     have h3 := of_decide_eq_false h3
     refine Xk (Xg 3 (Xe [(0,vp t), (2,vi 0), (3,.bool false), (4,vi i), (5,.slice (some ⟨yb, yo, none⟩) wy.length cp), (9,vi (IntKind.i64.wrap ((u : Int) + 1)))] ?_ 3))
     rw [show IntKind.i64.wrap ((u : Int) + 1) = ((u : Int) + 1) by rw [w64 (by omega) (by omega)]]
     refine Xp [(0,vp t), (2,vi 0), (3,.bool false), (4,vi i), (5,.slice (some ⟨yb, yo, none⟩) wy.length cp), (9,vi ((u : Int) + 1))] ?_
     exact againG (k2 - 1) (M2, u + 1) rfl rfl (by omega) ⟨by simp only; omega, hs2, hd2, hids2, by simp only; rw [← hfold, hdr, List.foldl_cons, shiftN_no hs2.nd hgM h3]⟩
   ·skip
    have hu : u = wy.length := by have := of_decide_eq_false h2; omega
    have hM2 : M2 = (wIds L wy).foldl shiftN M := by rw [← hfold, List.drop_of_length_le (by simp [wIds]; omega)]; rfl
    obtain ⟨x2, hx2⟩ : ∃ x2, M2[i]? = some x2 := ⟨_, List.getElem?_eq_getElem (by omega)⟩
    have hx2i : x2.id = x.id := by
     have h1 := congrArg (fun l : List Int => l[i]?) (hids2.trans hI.ids.symm)
     simp only [List.getElem?_map, hx2, hi, Option.map_some, Option.some.injEq] at h1
     exact h1
    refine Xx 4 (thenX (thenX (leaveR (Xq (Xg 11 (Xl [(2,vi 0), (3,.bool false), (216,.slice (some ⟨wb, wo, none⟩) M2.length wc), (217,vi i)] [(⟨t, 0, none⟩, .slice (some ⟨wb, wo, none⟩) M2.length wc)] (hasC (ba 1) has0) ?_ 6 5))))))
    refine Xs (yldS (Xi 91 (.tmp 216) (.tmp 217) wb wo M2.length wc i 7 97 (i : Int) 218 Tryz.underlying91)) (fun _ => ?_) 5
    refine Xm [(2,vi x2.id), (3,.bool true)] [(⟨wb, wo + i * 7, none⟩, vi x2.id)] (hasC (rowCell (E := rnE) (xs := M2) 2 rfl (x := x2) hx2 (j := 0) rfl) has0) ?_ 5
    refine Xv ?_
    refine PT.drop ?_
    refine Y0 (.tuple #[vi x2.id, .bool true]) (fun w hs => ?_)
    exact ⟨(), by rw [hrn, hx2i], by rw [hrn]; rw [← hM2]; exact Sat.closeRt (List.ne_nil_of_mem (List.mem_of_getElem? hx2)) hs⟩
  | false =>
   have hkx : KX M x.id := (hI.rd x hxM hxt).1 hI.rdy
   have hsrM : (M.map (·.id)).Pairwise (· < ·) := by rw [hI.ids]; exact hsr
   refine Xc true (fun _ => ?_) (fun h => by cases h)
   refine Xk (Xb 1 (Xq (Xg 1 (Xe [(0,vp t), (2,vi 0), (3,.bool false), (4,vi i), (5,.slice A wy.length cp), (6,vi (-1))] ?_ 1))))
   refine Xq (Xq (Xg 1 (Xe [(0,vp t), (2,vi 0), (3,.bool false), (4,vi i), (5,.slice A wy.length cp), (6,vi (-1)), (7,vi 0)] ?_ 1)))
   refine Xb 2 (Xp [(0,vp t), (2,vi 0), (3,.bool false), (4,vi i), (5,.slice A wy.length cp), (6,vi (-1)), (7,vi 0)] (Xl0 (fun (q : Int × Nat) => [(0,vp t), (2,vi 0), (3,.bool false), (4,vi i), (5,.slice A wy.length cp), (6,vi q.1), (7,vi (q.2 : Int))]) (fun k (q : Int × Nat) => k + q.2 = M.length ∧ Best M x.id q.2 q.1) M.length (-1, 0) (by kernel_rfl) ⟨by simp, Best.start M x.id⟩ ?_))
   rintro k2 ⟨bs, u⟩ ⟨hku, hB⟩
   simp only at hku hB
   refine Xq (Xq (Xg 7 (Xm [(0,vp t), (2,vi 0), (3,.bool false), (4,vi i), (5,.slice A wy.length cp), (6,vi bs), (7,vi u), (39,.bool (decide ((u : Int) < (M.length : Int))))] [(⟨t, 0, none⟩, .slice (some ⟨wb, wo, none⟩) M.length wc)] (hasC (ba 1) has0) ?_ 7)))
   refine Xc (decide ((u : Int) < (M.length : Int))) (fun h2 => ?_) (fun h2 => ?_)
   ·skip
    have hu : u < M.length := by have := of_decide_eq_true h2; omega
    obtain ⟨z, hz⟩ : ∃ z, M[u]? = some z := ⟨_, List.getElem?_eq_getElem hu⟩
    have hB2 := hB; rcases hB2 with ⟨hb1, _⟩ | ⟨m, y, hb1, hmu, hym, _⟩
    ·skip
     subst hb1
     refine Xk (Xq (Xb 3 (Xq (Xg 10 (Xl [(0,vp t), (2,vi 0), (3,.bool false), (4,vi i), (5,.slice A wy.length cp), (6,vi (-1)), (7,vi u), (45,.slice (some ⟨wb, wo, none⟩) M.length wc), (46,vi u)] [(⟨t, 0, none⟩, .slice (some ⟨wb, wo, none⟩) M.length wc)] (hasC (ba 1) has0) ?_ 5 5)))))
     refine Xs (yldS (Xi 91 (.tmp 45) (.tmp 46) wb wo M.length wc u 7 97 (u : Int) 47 Tryz.underlying91)) (fun _ => ?_) 4
     refine Xl [(0,vp t), (2,vi 0), (3,.bool false), (4,vi i), (5,.slice A wy.length cp), (6,vi (-1)), (7,vi u), (49,.agg #[vi z.id, vi z.par, vi z.wt, vi z.pass, .bool z.thr, .bool z.rdy])] [(⟨wb, wo + u * 7, none⟩, vi z.id), (⟨wb, wo + u * 7 + 1, none⟩, vi z.par), (⟨wb, wo + u * 7 + 2, none⟩, vi z.wt), (⟨wb, wo + u * 7 + 3, none⟩, vi z.pass), (⟨wb, wo + u * 7 + 4, none⟩, .bool z.thr), (⟨wb, wo + u * 7 + 5, none⟩, .bool z.rdy)] (hasC (rowCell (E := rnE) (xs := M) 2 rfl (x := z) hz (j := 0) rfl) (hasC (rowCell (E := rnE) (xs := M) 2 rfl (x := z) hz (j := 1) rfl) (hasC (rowCell (E := rnE) (xs := M) 2 rfl (x := z) hz (j := 2) rfl) (hasC (rowCell (E := rnE) (xs := M) 2 rfl (x := z) hz (j := 3) rfl) (hasC (rowCell (E := rnE) (xs := M) 2 rfl (x := z) hz (j := 4) rfl) (hasC (rowCell (E := rnE) (xs := M) 2 rfl (x := z) hz (j := 5) rfl) has0)))))) ?_ 2 2
     refine Xs (Xn 95 [vi 0, vi 0, vi 0, vi 0, .bool false, .bool false] (some 8) (fun b => vp b)) (fun b2 => ?_) 1
     refine Xs (Xz [(0,vi z.id), (1,vi z.par), (2,vi z.wt), (3,vi z.pass), (4,.bool z.thr), (5,.bool z.rdy)]) (fun _ => ?_) 0
     refine endR ?_
     refine Xq (Xy0 0 [] 34 ?_)
     refine Xt [0, 1, 2, 3, 4, 5, 6] [(8,vp b2), (0,vp t), (2,vi 0), (3,.bool false), (4,vi i), (5,.slice A wy.length cp), (6,vi (-1)), (7,vi u), (51,vi z.par), (55,.slice (some ⟨wb, wo, none⟩) M.length wc), (56,vi i)] [(⟨b2, 1, none⟩, vi z.par), (⟨t, 0, none⟩, .slice (some ⟨wb, wo, none⟩) M.length wc)] (hasC (ba 0) (hasC (ba 2) has0)) ?_
     refine Xu 7 (Xi 91 (.tmp 55) (.tmp 56) wb wo M.length wc i 7 97 (i : Int) 57 Tryz.underlying91) ?_
     refine Xt [8, 9, 10, 11, 12] [(8,vp b2), (0,vp t), (2,vi 0), (3,.bool false), (4,vi i), (5,.slice A wy.length cp), (6,vi (-1)), (7,vi u), (62,.bool (z.par == x.id))] [(⟨wb, wo + i * 7, none⟩, vi x.id)] (hasC (up (rowCell (E := rnE) (xs := M) 2 rfl (x := x) hi (j := 0) rfl)) has0) ?_
     cases c1 : (z.par == x.id) with
     | true =>
      refine Xt [13, 14, 15, 16] [(8,vp b2), (0,vp t), (2,vi 0), (3,.bool false), (4,vi i), (5,.slice A wy.length cp), (6,vi (-1)), (7,vi u), (66,.bool z.rdy)] [(⟨b2, 5, none⟩, .bool z.rdy)] (hasC (ba 0) has0) ?_
      cases c2 : (z.rdy) with
      | true =>
       refine Xt [17, 18, 19, 20, 21, 22, 23, 24, 25, 26, 27, 28, 29, 30, 31, 32, 33] [(0,vp t), (2,vi 0), (3,.bool false), (4,vi i), (5,.slice A wy.length cp), (6,vi (-1)), (7,vi u), (83,.bool true)] [] has0 ?_
       refine Xd (Xc true (fun _ => ?_) (fun h => by cases h))
       refine Xg 2 (Xe [(0,vp t), (2,vi 0), (3,.bool false), (4,vi i), (5,.slice A wy.length cp), (6,vi u), (7,vi u)] ?_ 2)
       refine Xg 3 (Xe [(0,vp t), (2,vi 0), (3,.bool false), (4,vi i), (5,.slice A wy.length cp), (6,vi u), (7,vi (IntKind.i64.wrap ((u : Int) + 1)))] ?_ 3)
       rw [show IntKind.i64.wrap ((u : Int) + 1) = ((u : Int) + 1) by rw [w64 (by omega) (by omega)]]
       refine PT.drop ?_
       refine Xp [(0,vp t), (2,vi 0), (3,.bool false), (4,vi i), (5,.slice A wy.length cp), (6,vi u), (7,vi ((u : Int) + 1))] ?_
       exact againG (k2 - 1) ((u : Int), u + 1) rfl rfl (by omega) ⟨by simp only; omega, hB.new hz (by simpa using c1) c2 (fun m y h => by omega)⟩
      | false =>
       refine Xt [17, 18, 19, 20, 21, 22, 23, 24, 25, 26, 27, 28, 29, 30, 31, 32, 33] [(0,vp t), (2,vi 0), (3,.bool false), (4,vi i), (5,.slice A wy.length cp), (6,vi (-1)), (7,vi u), (83,.bool false)] [] has0 ?_
       refine Xd (Xc false (fun h => by cases h) (fun _ => ?_))
       refine Xk (Xg 3 (Xe [(0,vp t), (2,vi 0), (3,.bool false), (4,vi i), (5,.slice A wy.length cp), (6,vi (-1)), (7,vi (IntKind.i64.wrap ((u : Int) + 1)))] ?_ 3))
       rw [show IntKind.i64.wrap ((u : Int) + 1) = ((u : Int) + 1) by rw [w64 (by omega) (by omega)]]
       refine PT.drop ?_
       refine Xp [(0,vp t), (2,vi 0), (3,.bool false), (4,vi i), (5,.slice A wy.length cp), (6,vi (-1)), (7,vi ((u : Int) + 1))] ?_
       exact againG (k2 - 1) (-1, u + 1) rfl rfl (by omega) ⟨by simp only; omega, hB.no hz (by simp [c2])⟩
     | false =>
      refine Xt [13, 14, 15, 16, 17, 18, 19, 20, 21, 22, 23, 24, 25, 26, 27, 28, 29, 30, 31, 32, 33] [(0,vp t), (2,vi 0), (3,.bool false), (4,vi i), (5,.slice A wy.length cp), (6,vi (-1)), (7,vi u), (83,.bool false)] [] has0 ?_
      refine Xd (Xc false (fun h => by cases h) (fun _ => ?_))
      refine Xk (Xg 3 (Xe [(0,vp t), (2,vi 0), (3,.bool false), (4,vi i), (5,.slice A wy.length cp), (6,vi (-1)), (7,vi (IntKind.i64.wrap ((u : Int) + 1)))] ?_ 3))
      rw [show IntKind.i64.wrap ((u : Int) + 1) = ((u : Int) + 1) by rw [w64 (by omega) (by omega)]]
      refine PT.drop ?_
      refine Xp [(0,vp t), (2,vi 0), (3,.bool false), (4,vi i), (5,.slice A wy.length cp), (6,vi (-1)), (7,vi ((u : Int) + 1))] ?_
      exact againG (k2 - 1) (-1, u + 1) rfl rfl (by omega) ⟨by simp only; omega, hB.no hz (by simp only [c1, Bool.false_and])⟩
    ·skip
     subst hb1
     have hml := (List.getElem?_eq_some_iff.1 hym).1
     refine Xk (Xq (Xb 3 (Xq (Xg 10 (Xl [(0,vp t), (2,vi 0), (3,.bool false), (4,vi i), (5,.slice A wy.length cp), (6,vi m), (7,vi u), (45,.slice (some ⟨wb, wo, none⟩) M.length wc), (46,vi u)] [(⟨t, 0, none⟩, .slice (some ⟨wb, wo, none⟩) M.length wc)] (hasC (ba 1) has0) ?_ 5 5)))))
     refine Xs (yldS (Xi 91 (.tmp 45) (.tmp 46) wb wo M.length wc u 7 97 (u : Int) 47 Tryz.underlying91)) (fun _ => ?_) 4
     refine Xl [(0,vp t), (2,vi 0), (3,.bool false), (4,vi i), (5,.slice A wy.length cp), (6,vi m), (7,vi u), (49,.agg #[vi z.id, vi z.par, vi z.wt, vi z.pass, .bool z.thr, .bool z.rdy])] [(⟨wb, wo + u * 7, none⟩, vi z.id), (⟨wb, wo + u * 7 + 1, none⟩, vi z.par), (⟨wb, wo + u * 7 + 2, none⟩, vi z.wt), (⟨wb, wo + u * 7 + 3, none⟩, vi z.pass), (⟨wb, wo + u * 7 + 4, none⟩, .bool z.thr), (⟨wb, wo + u * 7 + 5, none⟩, .bool z.rdy)] (hasC (rowCell (E := rnE) (xs := M) 2 rfl (x := z) hz (j := 0) rfl) (hasC (rowCell (E := rnE) (xs := M) 2 rfl (x := z) hz (j := 1) rfl) (hasC (rowCell (E := rnE) (xs := M) 2 rfl (x := z) hz (j := 2) rfl) (hasC (rowCell (E := rnE) (xs := M) 2 rfl (x := z) hz (j := 3) rfl) (hasC (rowCell (E := rnE) (xs := M) 2 rfl (x := z) hz (j := 4) rfl) (hasC (rowCell (E := rnE) (xs := M) 2 rfl (x := z) hz (j := 5) rfl) has0)))))) ?_ 2 2
     refine Xs (Xn 95 [vi 0, vi 0, vi 0, vi 0, .bool false, .bool false] (some 8) (fun b => vp b)) (fun b2 => ?_) 1
     refine Xs (Xz [(0,vi z.id), (1,vi z.par), (2,vi z.wt), (3,vi z.pass), (4,.bool z.thr), (5,.bool z.rdy)]) (fun _ => ?_) 0
     refine endR ?_
     refine Xq (Xy0 0 [] 34 ?_)
     refine Xt [0, 1, 2, 3, 4, 5, 6] [(8,vp b2), (0,vp t), (2,vi 0), (3,.bool false), (4,vi i), (5,.slice A wy.length cp), (6,vi m), (7,vi u), (51,vi z.par), (55,.slice (some ⟨wb, wo, none⟩) M.length wc), (56,vi i)] [(⟨b2, 1, none⟩, vi z.par), (⟨t, 0, none⟩, .slice (some ⟨wb, wo, none⟩) M.length wc)] (hasC (ba 0) (hasC (ba 2) has0)) ?_
     refine Xu 7 (Xi 91 (.tmp 55) (.tmp 56) wb wo M.length wc i 7 97 (i : Int) 57 Tryz.underlying91) ?_
     refine Xt [8, 9, 10, 11, 12] [(8,vp b2), (0,vp t), (2,vi 0), (3,.bool false), (4,vi i), (5,.slice A wy.length cp), (6,vi m), (7,vi u), (62,.bool (z.par == x.id))] [(⟨wb, wo + i * 7, none⟩, vi x.id)] (hasC (up (rowCell (E := rnE) (xs := M) 2 rfl (x := x) hi (j := 0) rfl)) has0) ?_
     cases c1 : (z.par == x.id) with
     | true =>
      refine Xt [13, 14, 15, 16] [(8,vp b2), (0,vp t), (2,vi 0), (3,.bool false), (4,vi i), (5,.slice A wy.length cp), (6,vi m), (7,vi u), (66,.bool z.rdy)] [(⟨b2, 5, none⟩, .bool z.rdy)] (hasC (ba 0) has0) ?_
      cases c2 : (z.rdy) with
      | true =>
       refine Xt [17, 18, 19] [(8,vp b2), (0,vp t), (2,vi 0), (3,.bool false), (4,vi i), (5,.slice A wy.length cp), (6,vi m), (7,vi u), (66,.bool true), (69,.bool (decide ((m : Int) < 0)))] [] has0 ?_
       rw [show (decide ((m : Int) < 0)) = false from by first | exact decide_eq_false (by omega) | (simp; done) | (simp; omega)]
       refine Xt [20, 21, 22, 23, 24, 25, 26] [(0,vp t), (2,vi 0), (3,.bool false), (4,vi i), (5,.slice A wy.length cp), (6,vi m), (7,vi u), (66,.bool true), (69,.bool false), (71,vi z.pass), (75,.slice (some ⟨wb, wo, none⟩) M.length wc), (76,vi m)] [(⟨b2, 3, none⟩, vi z.pass), (⟨t, 0, none⟩, .slice (some ⟨wb, wo, none⟩) M.length wc)] (hasC (ba 0) (hasC (ba 2) has0)) ?_
       refine Xu 27 (Xi 91 (.tmp 75) (.tmp 76) wb wo M.length wc m 7 97 (m : Int) 77 Tryz.underlying91) ?_
       refine Xt [28, 29, 30, 31, 32, 33] [(0,vp t), (2,vi 0), (3,.bool false), (4,vi i), (5,.slice A wy.length cp), (6,vi m), (7,vi u), (83,.bool (decide (z.pass < y.pass)))] [(⟨wb, wo + m * 7 + 3, none⟩, vi y.pass)] (hasC (up (rowCell (E := rnE) (xs := M) 2 rfl (x := y) hym (j := 3) rfl)) has0) ?_
       refine Xd (Xc (decide (z.pass < y.pass)) (fun c3 => ?_) (fun c3 => ?_))
       ·skip
        have c3 := of_decide_eq_true c3
        refine Xg 2 (Xe [(0,vp t), (2,vi 0), (3,.bool false), (4,vi i), (5,.slice A wy.length cp), (6,vi u), (7,vi u)] ?_ 2)
        refine Xg 3 (Xe [(0,vp t), (2,vi 0), (3,.bool false), (4,vi i), (5,.slice A wy.length cp), (6,vi u), (7,vi (IntKind.i64.wrap ((u : Int) + 1)))] ?_ 3)
        rw [show IntKind.i64.wrap ((u : Int) + 1) = ((u : Int) + 1) by rw [w64 (by omega) (by omega)]]
        refine PT.drop ?_
        refine Xp [(0,vp t), (2,vi 0), (3,.bool false), (4,vi i), (5,.slice A wy.length cp), (6,vi u), (7,vi ((u : Int) + 1))] ?_
        exact againG (k2 - 1) ((u : Int), u + 1) rfl rfl (by omega) ⟨by simp only; omega, hB.new hz (by simpa using c1) c2 (fun m' y' e h => by have e2 : m = m' := (by omega); rw [← e2] at h; exact (Option.some.inj (hym.symm.trans h)) ▸ c3)⟩
       ·skip
        have c3 := of_decide_eq_false c3
        refine Xk (Xg 3 (Xe [(0,vp t), (2,vi 0), (3,.bool false), (4,vi i), (5,.slice A wy.length cp), (6,vi m), (7,vi (IntKind.i64.wrap ((u : Int) + 1)))] ?_ 3))
        rw [show IntKind.i64.wrap ((u : Int) + 1) = ((u : Int) + 1) by rw [w64 (by omega) (by omega)]]
        refine PT.drop ?_
        refine Xp [(0,vp t), (2,vi 0), (3,.bool false), (4,vi i), (5,.slice A wy.length cp), (6,vi m), (7,vi ((u : Int) + 1))] ?_
        exact againG (k2 - 1) ((m : Int), u + 1) rfl rfl (by omega) ⟨by simp only; omega, hB.keep hsrM hym hz c3⟩
      | false =>
       refine Xt [17, 18, 19, 20, 21, 22, 23, 24, 25, 26, 27, 28, 29, 30, 31, 32, 33] [(0,vp t), (2,vi 0), (3,.bool false), (4,vi i), (5,.slice A wy.length cp), (6,vi m), (7,vi u), (83,.bool false)] [] has0 ?_
       refine Xd (Xc false (fun h => by cases h) (fun _ => ?_))
       refine Xk (Xg 3 (Xe [(0,vp t), (2,vi 0), (3,.bool false), (4,vi i), (5,.slice A wy.length cp), (6,vi m), (7,vi (IntKind.i64.wrap ((u : Int) + 1)))] ?_ 3))
       rw [show IntKind.i64.wrap ((u : Int) + 1) = ((u : Int) + 1) by rw [w64 (by omega) (by omega)]]
       refine PT.drop ?_
       refine Xp [(0,vp t), (2,vi 0), (3,.bool false), (4,vi i), (5,.slice A wy.length cp), (6,vi m), (7,vi ((u : Int) + 1))] ?_
       exact againG (k2 - 1) ((m : Int), u + 1) rfl rfl (by omega) ⟨by simp only; omega, hB.no hz (by simp [c2])⟩
     | false =>
      refine Xt [13, 14, 15, 16, 17, 18, 19, 20, 21, 22, 23, 24, 25, 26, 27, 28, 29, 30, 31, 32, 33] [(0,vp t), (2,vi 0), (3,.bool false), (4,vi i), (5,.slice A wy.length cp), (6,vi m), (7,vi u), (83,.bool false)] [] has0 ?_
      refine Xd (Xc false (fun h => by cases h) (fun _ => ?_))
      refine Xk (Xg 3 (Xe [(0,vp t), (2,vi 0), (3,.bool false), (4,vi i), (5,.slice A wy.length cp), (6,vi m), (7,vi (IntKind.i64.wrap ((u : Int) + 1)))] ?_ 3))
      rw [show IntKind.i64.wrap ((u : Int) + 1) = ((u : Int) + 1) by rw [w64 (by omega) (by omega)]]
      refine PT.drop ?_
      refine Xp [(0,vp t), (2,vi 0), (3,.bool false), (4,vi i), (5,.slice A wy.length cp), (6,vi m), (7,vi ((u : Int) + 1))] ?_
      exact againG (k2 - 1) ((m : Int), u + 1) rfl rfl (by omega) ⟨by simp only; omega, hB.no hz (by simp only [c1, Bool.false_and])⟩
   ·skip
    have hu : u = M.length := by have := of_decide_eq_false h2; omega
    rw [hu] at hB
    obtain ⟨m, y, rfl, hm, hyp, hyr, hly⟩ := hB.done hsM.nd hkx
    have hyM := List.mem_of_getElem? hm
    have hml := (List.getElem?_eq_some_iff.1 hm).1
    have hstp := hI.dn.step hsM hI.rkk hxM hyM hyp hyr (least_some hly).2
    have hyw := hI.dn.wt y hyM
    have hyp0 := hI.dn.pass y hyM
    obtain ⟨hIn, hyx, hff⟩ := hI.next hm hyp hyr hly
    have hm1 := up_at hsM.nd hi hm hyx (nwF y.pass)
    have hl1 : (upN M x.id (nwF y.pass)).length = M.length := by simp [upN]
    refine Xx 2 (thenX (thenX (leaveR (Xq (Xy0 0 [16] 17 ?_)))))
    refine Xt [0, 1, 2, 3, 4, 5, 6, 7, 8, 9] [(0,vp t), (2,vi 0), (3,.bool false), (4,vi i), (5,.slice A wy.length cp), (6,vi m), (88,.slice (some ⟨wb, wo, none⟩) M.length wc), (89,vi i), (93,.slice (some ⟨wb, wo, none⟩) M.length wc), (94,vi m)] [(⟨t, 0, none⟩, .slice (some ⟨wb, wo, none⟩) M.length wc), (⟨t, 0, none⟩, .slice (some ⟨wb, wo, none⟩) M.length wc)] (hasC (ba 1) (hasC (ba 1) has0)) ?_
    refine Xu 10 (Xi 91 (.tmp 93) (.tmp 94) wb wo M.length wc m 7 97 (m : Int) 95 Tryz.underlying91) ?_
    refine Xt [11, 12, 13] [(0,vp t), (2,vi 0), (3,.bool false), (4,vi i), (5,.slice A wy.length cp), (6,vi m), (88,.slice (some ⟨wb, wo, none⟩) M.length wc), (89,vi i), (98,vi y.pass)] [(⟨wb, wo + m * 7 + 3, none⟩, vi y.pass)] (hasC (rowCell (E := rnE) (xs := M) 2 rfl (x := y) hm (j := 3) rfl) has0) ?_
    refine Xu 14 (Xi 91 (.tmp 88) (.tmp 89) wb wo M.length wc i 7 97 (i : Int) 99 Tryz.underlying91) ?_
    refine Xt [15] [(0,vp t), (2,vi 0), (3,.bool false), (4,vi i), (5,.slice A wy.length cp), (6,vi m), (98,vi y.pass), (100,.pointer (some ⟨wb, wo + i * 7 + 6, none⟩))] [] has0 ?_
    refine DT.pick 2 rfl ?_
    refine Xo 16 (setS (E := rnE) (J := i) (j := 6) x (nwF y.pass x) (.int .i64 y.pass) ⟨wb, wo + i * 7 + 6, none⟩ (fun _ => by kernel_rfl) (by first | rfl | simp) (hi) (rfl) (by decide)) (fun _ => ?_)
    refine Xd ?_
    rw [show M.length = (upN M x.id (nwF y.pass)).length by exact hl1.symm]
    rw [show (M.set i (nwF y.pass x)) = (upN M x.id (nwF y.pass)) by exact set_at hsM.nd hi (nwF y.pass)]
    obtain ⟨M1, hM1⟩ : ∃ M1, M1 = upN M x.id (nwF y.pass) := ⟨_, rfl⟩
    rw [← hM1] at hm1 hl1 hIn ⊢
    have hnd1 : (M1.map (·.id)).Nodup := by rw [hM1]; exact (hsM.upN (nwF_skel _)).nd
    refine Xq (Xy0 0 [27] 28 ?_)
    refine Xt [0, 1, 2, 3, 4, 5, 6, 7, 8, 9, 14, 15, 16, 17, 18] [(0,vp t), (2,vi 0), (3,.bool false), (4,vi i), (5,.slice A wy.length cp), (6,vi m), (104,.slice (some ⟨wb, wo, none⟩) M1.length wc), (105,vi m), (109,.slice (some ⟨wb, wo, none⟩) M1.length wc), (110,vi m), (118,.slice (some ⟨wb, wo, none⟩) M1.length wc), (119,vi m)] [(⟨t, 0, none⟩, .slice (some ⟨wb, wo, none⟩) M1.length wc), (⟨t, 0, none⟩, .slice (some ⟨wb, wo, none⟩) M1.length wc), (⟨t, 0, none⟩, .slice (some ⟨wb, wo, none⟩) M1.length wc)] (hasC (ba 2) (hasC (ba 2) (hasC (ba 2) has0))) ?_
    refine Xu 10 (Xi 91 (.tmp 109) (.tmp 110) wb wo M1.length wc m 7 97 (m : Int) 111 Tryz.underlying91) ?_
    refine Xt [11, 12, 13] [(0,vp t), (2,vi 0), (3,.bool false), (4,vi i), (5,.slice A wy.length cp), (6,vi m), (104,.slice (some ⟨wb, wo, none⟩) M1.length wc), (105,vi m), (118,.slice (some ⟨wb, wo, none⟩) M1.length wc), (119,vi m), (114,vi y.pass)] [(⟨wb, wo + m * 7 + 3, none⟩, vi y.pass)] (hasC (rowCell (E := rnE) (xs := M1) 0 rfl (x := y) hm1 (j := 3) rfl) has0) ?_
    refine Xu 19 (Xi 91 (.tmp 118) (.tmp 119) wb wo M1.length wc m 7 97 (m : Int) 120 Tryz.underlying91) ?_
    refine Xt [20, 21, 22] [(0,vp t), (2,vi 0), (3,.bool false), (4,vi i), (5,.slice A wy.length cp), (6,vi m), (104,.slice (some ⟨wb, wo, none⟩) M1.length wc), (105,vi m), (114,vi y.pass), (123,vi y.wt)] [(⟨wb, wo + m * 7 + 2, none⟩, vi y.wt)] (hasC (rowCell (E := rnE) (xs := M1) 0 rfl (x := y) hm1 (j := 2) rfl) has0) ?_
    refine Xo 23 (Xa (some 124) (fun _ => vi (y.pass + strd y.wt)) (rnext_walk _ (by omega) hyw)) (fun _ => ?_)
    refine Xu 24 (Xi 91 (.tmp 104) (.tmp 105) wb wo M1.length wc m 7 97 (m : Int) 125 Tryz.underlying91) ?_
    refine Xt [25, 26] [(124,vi (y.pass + strd y.wt)), (0,vp t), (2,vi 0), (3,.bool false), (4,vi i), (5,.slice A wy.length cp), (6,vi m), (127,.pointer (some ⟨wb, wo + m * 7 + 3, none⟩))] [] has0 ?_
    refine Xo 27 (setS (E := rnE) (J := m) (j := 3) y (psF (y.pass + strd y.wt) y) (.int .i64 (y.pass + strd y.wt)) ⟨wb, wo + m * 7 + 3, none⟩ (fun _ => by kernel_rfl) (by first | rfl | simp) (hm1) (rfl) (by decide)) (fun _ => ?_)
    refine Xd ?_
    rw [show M1.length = (upN M1 y.id (psF (y.pass + strd y.wt))).length by simp [upN]]
    rw [show (M1.set m (psF (y.pass + strd y.wt) y)) = (upN M1 y.id (psF (y.pass + strd y.wt))) by exact set_at hnd1 hm1 (psF (y.pass + strd y.wt))]
    refine Xq (Xg 5 (Xr [(0,vp t), (2,vi 0), (3,.bool false), (4,vi i), (5,.slice A wy.length cp), (6,vi m), (128,.slice A wy.length cp), (129,vi i)] ?_ 3 2))
    refine Xs (Xn 3 [vi i] (some 130) (fun b => .slice (some ⟨b, 0, none⟩) 1 1)) (fun b2 => ?_) 2
    refine Xh0 ?_ 2 2
    refine Xs (Xf (E := (kE .i64)) 50 (.tmp 128) (.tmp 130) A cp wy [(i : Int)] (.slice (some ⟨b2, 0, none⟩) 1 1) 131 Tryz.underlying50 (kI_ety) (blkRd (x := (i : Int)) 1 rfl) (by simp; omega)) (fun r3 => ?_) 1
    refine Xe [(0,vp t), (2,vi 0), (3,.bool false), (4,vi i), (5,.slice r3.1 ((wy ++ [(i : Int)]).length) r3.2), (6,vi m)] ?_ 1
    refine Xg 2 (Xe [(0,vp t), (2,vi 0), (3,.bool false), (4,vi m), (5,.slice r3.1 ((wy ++ [(i : Int)]).length) r3.2)] ?_ 2)
    refine PT.pick 1 rfl ?_
    refine PT.drop ?_
    refine PT.pick 1 rfl ?_
    refine PT.pick 2 rfl ?_
    refine PT.pick 2 rfl ?_
    refine Xp [(0,vp t), (2,vi 0), (3,.bool false), (4,vi m), (5,.slice r3.1 ((wy ++ [(i : Int)]).length) r3.2)] ?_
    exact againG (k - 1) ⟨upN M1 y.id (psF (y.pass + strd y.wt)), m, wy ++ [(i : Int)], r3.1, r3.2⟩ rfl rfl (by omega) ⟨_, hIn⟩
end Go.Proofs.YtlhjibkkkhgonaaGreatDoor
set_option linter.unusedVariables false
set_option linter.unusedSimpArgs false
namespace Go.Proofs.YtlhjibkkkhgonaaGreatDoor
open Go.RowKit G
section
variable {N L : List Nr}
theorem nd_perm (h : N.Perm L) (hn : (N.map (·.id)).Nodup) : (L.map (·.id)).Nodup := ((h.map (·.id)).nodup_iff).1 hn
theorem gt_perm (h : N.Perm L) (hn : (N.map (·.id)).Nodup) (k : Int) : gt N k = gt L k := by
  cases hg : gt N k with
  | none => exact (gt_none.2 fun x hx => gt_none.1 hg x (h.mem_iff.2 hx)).symm
  | some x => obtain ⟨h1, rfl⟩ := gt_mem hg; exact (gt_of (nd_perm h hn) (h.mem_iff.1 h1)).symm
theorem up_perm (h : N.Perm L) (k : Int) (f : Nr → Nr) : (upN N k f).Perm (upN L k f) := h.map _
theorem kid_perm (h : N.Perm L) (k : Int) : (kidR N k).Perm (kidR L k) := h.filter _
theorem kid_nil (h : N.Perm L) (k : Int) : kidR N k = [] ↔ kidR L k = [] := by
  constructor
  · intro e; have := kid_perm h k; rw [e] at this; exact this.nil_eq.symm
  · intro e; have := (kid_perm h k).symm; rw [e] at this; exact this.nil_eq.symm
theorem WFN.perm (h : N.Perm L) (hw : WFN N) : WFN L := by
  have hm : ∀ {x}, x ∈ L → x ∈ N := fun hx => h.mem_iff.2 hx
  have hm' : ∀ {x}, x ∈ N → x ∈ L := fun hx => h.mem_iff.1 hx
  refine ⟨⟨nd_perm h hw.sk.nd, ?_, fun x hx => hw.sk.rt x (hm hx), fun x hx h0 => ?_, by rw [← h.length_eq]; exact hw.sk.len, ?_⟩, fun x hx => hw.wt x (hm hx), fun x hx => hw.now x (hm hx), fun x hx => hw.pass x (hm hx), fun x hx p hp => hw.pn x (hm hx) p (hm hp), fun x hx ht => ?_⟩
  · obtain ⟨r, hr, e⟩ := hw.sk.root; exact ⟨r, hm' hr, e⟩
  · obtain ⟨a, p, hp, b⟩ := hw.sk.pa x (hm hx) h0; exact ⟨a, p, hm' hp, b⟩
  · obtain ⟨rk, hk⟩ := hw.sk.rk; exact ⟨rk, fun x hx => hk x (hm hx)⟩
  · rw [hw.rd x (hm hx) ht]
    exact ⟨fun ⟨y, hy, a⟩ => ⟨y, hm' hy, a⟩, fun ⟨y, hy, a⟩ => ⟨y, hm hy, a⟩⟩
theorem deep_perm (h : N.Perm L) (hn : (N.map (·.id)).Nodup) : ∀ (f : Nat) (k : Int), deepN f N k = deepN f L k
  | 0, _ => rfl
  | f + 1, k => by
    rw [deepN, deepN, gt_perm h hn]
    cases gt L k with
    | none => rfl
    | some x => simp only; rw [deep_perm h hn f]
theorem any_perm (h : N.Perm L) (p : Nr → Bool) : N.any p = L.any p := by
  cases hb : L.any p with
  | true => obtain ⟨y, hy, e⟩ := List.any_eq_true.1 hb; exact List.any_eq_true.2 ⟨y, h.mem_iff.2 hy, e⟩
  | false => exact List.any_eq_false.2 fun y hy => List.any_eq_false.1 hb y (h.mem_iff.1 hy)
end
theorem wake_perm : ∀ (f : Nat) {N L : List Nr} (k : Int), N.Perm L → (N.map (·.id)).Nodup → (wakeN f N k).Perm (wakeN f L k)
  | 0, _, _, _, h, _ => h
  | f + 1, N, L, k, h, hn => by
    rw [wakeN, wakeN, gt_perm h hn]
    cases gt L k with
    | none => exact h
    | some x =>
      simp only
      split
      · exact h
      · rw [gt_perm h hn]
        cases gt L x.par with
        | none => exact up_perm h _ _
        | some p => exact wake_perm f _ (up_perm h _ _) (by rw [upN_id]; exact hn; exact fun _ => rfl)
theorem rest_perm : ∀ (f : Nat) {N L : List Nr} (k : Int), N.Perm L → (N.map (·.id)).Nodup → (restN f N k).Perm (restN f L k)
  | 0, _, _, _, h, _ => h
  | f + 1, N, L, k, h, hn => by
    rw [restN, restN, gt_perm h hn]
    cases gt L k with
    | none => exact h
    | some x =>
      simp only [ne_eq, kid_nil h]
      split
      · exact h
      · rw [gt_perm h hn]
        cases gt L x.par with
        | none => exact up_perm h _ _
        | some p => exact rest_perm f _ (up_perm h _ _) (by rw [upN_id]; exact hn; exact fun _ => rfl)
theorem ready_perm {N L : List Nr} (h : N.Perm L) (hn : (N.map (·.id)).Nodup) (k : Int) (r : Bool) : (readyN N k r).1 = (readyN L k r).1 ∧ (readyN N k r).2.Perm (readyN L k r).2 := by
  rw [readyN, readyN, gt_perm h hn]
  cases gt L k with
  | none => exact ⟨rfl, h⟩
  | some x =>
    simp only
    split
    · cases r
      · exact ⟨rfl, rest_perm 6 k h hn⟩
      · exact ⟨rfl, wake_perm 6 k h hn⟩
    · exact ⟨rfl, h⟩
theorem weight_perm {N L : List Nr} (h : N.Perm L) (hn : (N.map (·.id)).Nodup) (k W : Int) : (weightN N k W).1 = (weightN L k W).1 ∧ (weightN N k W).2.Perm (weightN L k W).2 := by
  rw [weightN, weightN, gt_perm h hn]
  split
  · exact ⟨rfl, h⟩
  · cases gt L k with
    | none => exact ⟨rfl, h⟩
    | some x =>
      simp only
      split
      · exact ⟨rfl, h⟩
      · rw [gt_perm h hn]
        cases gt L x.par with
        | none => exact ⟨rfl, h⟩
        | some p => exact ⟨rfl, up_perm h _ _⟩
theorem remove_perm {N L : List Nr} (h : N.Perm L) (hn : (N.map (·.id)).Nodup) (k : Int) : (removeN N k).1 = (removeN L k).1 ∧ (removeN N k).2.Perm (removeN L k).2 := by
  rw [removeN, removeN, gt_perm h hn, any_perm h]
  split
  · exact ⟨rfl, h⟩
  · split
    · exact ⟨rfl, h⟩
    · exact ⟨rfl, (rest_perm 6 k h hn).filter _⟩
theorem add_perm {N L : List Nr} (h : N.Perm L) (hn : (N.map (·.id)).Nodup) (par id wt : Int) (thr : Bool) : (addN N par id wt thr).1 = (raddN L par id wt thr).1 ∧ (addN N par id wt thr).2.Perm (raddN L par id wt thr).2 := by
  rw [addN, raddN, gt_perm h hn, gt_perm h hn, deep_perm h hn, h.length_eq]
  split
  · exact ⟨rfl, h⟩
  · cases gt L par with
    | none => exact ⟨rfl, h⟩
    | some p =>
      simp only
      split
      · exact ⟨rfl, h⟩
      · split
        · exact ⟨rfl, h⟩
        · split
          · exact ⟨rfl, h⟩
          · split
            · exact ⟨rfl, h⟩
            · exact ⟨rfl, (h.append_right _).trans (insN_perm _ L).symm⟩
theorem least_perm {l m : List Nr} (h : l.Perm m) (hn : (l.map (·.id)).Nodup) : least l = least m := by
  cases hl : least m with
  | none => have := least_none.1 hl; subst this; rw [h.eq_nil]; rfl
  | some y =>
    obtain ⟨h1, h2⟩ := least_some hl
    exact least_is hn (h.mem_iff.2 h1) fun z hz => h2 z (h.mem_iff.1 hz)
theorem shift_perm {N L : List Nr} (h : N.Perm L) (hn : (N.map (·.id)).Nodup) (k : Int) : (shiftN N k).Perm (shiftN L k) ∧ ((shiftN N k).map (·.id)) = N.map (·.id) := by
  rw [shiftN, shiftN, gt_perm h hn]
  cases gt L k with
  | none => exact ⟨h, rfl⟩
  | some g =>
    simp only
    split
    · exact ⟨h, rfl⟩
    · refine ⟨up_perm (h.map _) _ _, ?_⟩
      rw [upN_id, List.map_map]
      · exact List.map_congr_left fun x _ => by simp only [Function.comp]; split <;> rfl
      · exact fun _ => rfl
theorem fold_perm : ∀ (way : List Int) {N L : List Nr}, N.Perm L → (N.map (·.id)).Nodup → (way.foldl shiftN N).Perm (way.foldl shiftN L) ∧ (way.foldl shiftN N).map (·.id) = N.map (·.id)
  | [], _, _, h, _ => ⟨h, rfl⟩
  | k :: way, N, L, h, hn => by
    obtain ⟨h1, h2⟩ := shift_perm h hn k
    obtain ⟨h3, h4⟩ := fold_perm way h1 (by rw [h2]; exact hn)
    exact ⟨h3, h4.trans h2⟩
theorem down_perm : ∀ (f : Nat) {N L : List Nr} (k : Int) (way : List Int), N.Perm L → (N.map (·.id)).Nodup → (downN f N k way).1 = (downN f L k way).1 ∧ (downN f N k way).2.Perm (downN f L k way).2 ∧ (downN f N k way).2.map (·.id) = N.map (·.id)
  | 0, _, _, _, _, h, _ => ⟨rfl, h, rfl⟩
  | f + 1, N, L, k, way, h, hn => by
    rw [downN, downN, least_perm (kid_perm h k) (kidR_nd hn k)]
    cases least (kidR L k) with
    | none => exact ⟨rfl, fold_perm way h hn⟩
    | some y =>
      simp only
      have e : (upN (upN N k fun x => { x with now := y.pass }) y.id fun x => { x with pass := y.pass + strd y.wt }).map (·.id) = N.map (·.id) := by rw [upN_id, upN_id] <;> exact fun _ => rfl
      obtain ⟨h1, h2, h3⟩ := down_perm f y.id (way ++ [k]) (up_perm (up_perm h k (fun x => { x with now := y.pass })) y.id (fun x => { x with pass := y.pass + strd y.wt })) (by rw [e]; exact hn)
      exact ⟨h1, h2, h3.trans e⟩
theorem run_perm {N L : List Nr} (h : N.Perm L) (hn : (N.map (·.id)).Nodup) : (runN N).1 = (runN L).1 ∧ (runN N).2.Perm (runN L).2 ∧ (runN N).2.map (·.id) = N.map (·.id) := by
  rw [runN, runN, gt_perm h hn]
  cases gt L 0 with
  | none => exact ⟨rfl, h, rfl⟩
  | some r =>
    simp only
    split
    · obtain ⟨h1, h2, h3⟩ := down_perm 6 0 [] h hn
      exact ⟨by rw [h1], h2, h3⟩
    · exact ⟨rfl, h, rfl⟩
/-! ## the document's nodes go by number -/
/-- The document's nodes: the program's, by number. -/
structure TRel (N L : List Nr) : Prop where
  perm : N.Perm L
  srt : (L.map (·.id)).Pairwise (· < ·)
theorem TRel.start : TRel [rootN] [rootN] := ⟨.refl _, by simp⟩
theorem insN_srt {n : Nr} : ∀ {L : List Nr}, (L.map (·.id)).Pairwise (· < ·) → (∀ y ∈ L, y.id ≠ n.id) → ((insN n L).map (·.id)).Pairwise (· < ·)
  | [], _, _ => by simp [insN]
  | y :: r, h, hno => by
    simp only [List.map_cons, List.pairwise_cons, List.mem_map, forall_exists_index, and_imp, forall_apply_eq_imp_iff₂] at h
    unfold insN
    split
    · rename_i hlt
      simp only [List.map_cons, List.pairwise_cons, List.mem_map, forall_exists_index, and_imp, forall_apply_eq_imp_iff₂]
      refine ⟨fun z hz => ?_, insN_srt h.2 fun z hz => hno z (by simp [hz])⟩
      rcases insN_mem.1 hz with rfl | hz
      · exact hlt
      · exact h.1 z hz
    · rename_i hlt
      have := hno y (by simp)
      simp only [List.map_cons, List.pairwise_cons, List.mem_cons, List.mem_map, forall_eq_or_imp, forall_exists_index, and_imp, forall_apply_eq_imp_iff₂]
      exact ⟨⟨by omega, fun z hz => by have := h.1 z hz; omega⟩, h.1, h.2⟩
theorem TRel.ready {N L : List Nr} (h : TRel N L) (hw : WFN N) (k : Int) (r : Bool) : (readyN N k r).1 = (readyN L k r).1 ∧ TRel (readyN N k r).2 (readyN L k r).2 := by
  obtain ⟨h1, h2⟩ := ready_perm h.perm hw.sk.nd k r
  obtain ⟨g, h3, h4⟩ := readyN_map L k r
  exact ⟨h1, h2, by rw [h4, List.map_map, show ((·.id) ∘ g : Nr → Int) = (·.id) from funext h3.id]; exact h.srt⟩
theorem TRel.weight {N L : List Nr} (h : TRel N L) (hw : WFN N) (k W : Int) : (weightN N k W).1 = (weightN L k W).1 ∧ TRel (weightN N k W).2 (weightN L k W).2 := by
  obtain ⟨h1, h2⟩ := weight_perm h.perm hw.sk.nd k W
  refine ⟨h1, h2, ?_⟩
  rw [weightN]
  split
  · exact h.srt
  · split
    · exact h.srt
    · split
      · exact h.srt
      · split
        · exact h.srt
        · show ((upN L k _).map (·.id)).Pairwise (· < ·)
          rw [upN_id]; exact h.srt; exact fun _ => rfl
theorem TRel.remove {N L : List Nr} (h : TRel N L) (hw : WFN N) (k : Int) : (removeN N k).1 = (removeN L k).1 ∧ TRel (removeN N k).2 (removeN L k).2 := by
  obtain ⟨h1, h2⟩ := remove_perm h.perm hw.sk.nd k
  refine ⟨h1, h2, ?_⟩
  rw [removeN]
  split
  · exact h.srt
  · split
    · exact h.srt
    · obtain ⟨g, h3, _, h4⟩ := restN_map 6 L k
      have : ((restN 6 L k).map (·.id)).Pairwise (· < ·) := by rw [h4, List.map_map, show ((·.id) ∘ g : Nr → Int) = (·.id) from funext h3.id]; exact h.srt
      exact this.sublist (List.Sublist.map _ List.filter_sublist)
theorem TRel.add {N L : List Nr} (h : TRel N L) (hw : WFN N) (par id wt : Int) (thr : Bool) : (addN N par id wt thr).1 = (raddN L par id wt thr).1 ∧ TRel (addN N par id wt thr).2 (raddN L par id wt thr).2 := by
  obtain ⟨h1, h2⟩ := add_perm h.perm hw.sk.nd par id wt thr
  refine ⟨h1, h2, ?_⟩
  rw [raddN]
  split
  · exact h.srt
  · split
    · exact h.srt
    · split
      · exact h.srt
      · split
        · exact h.srt
        · rename_i hno
          split
          · exact h.srt
          · split
            · exact h.srt
            · refine insN_srt h.srt fun y hy e => hno ?_
              have : gt L id ≠ none := fun hn => gt_none.1 hn y hy e
              cases hg : gt L id with
              | none => exact absurd hg this
              | some _ => rfl
theorem TRel.run {N L : List Nr} (h : TRel N L) (hw : WFN N) : (runN N).1 = (runN L).1 ∧ TRel (runN N).2 (runN L).2 := by
  obtain ⟨h1, h2, _⟩ := run_perm h.perm hw.sk.nd
  obtain ⟨_, _, h3⟩ := run_perm (.refl L) (nd_perm h.perm hw.sk.nd)
  exact ⟨h1, h2, by rw [h3]; exact h.srt⟩
theorem TRel.deep {N L : List Nr} (h : TRel N L) (hw : WFN N) (k : Int) : deepN 6 N k = deepN 6 L k := deep_perm h.perm hw.sk.nd 6 k
theorem TRel.wf {N L : List Nr} (h : TRel N L) (hw : WFN N) : WFN L := hw.perm h.perm
/-- What is told of both is the same. -/
theorem TRel.nodes {N L : List Nr} (h : TRel N L) (hw : WFN N) : nodesN N = L := by
  have hn := hw.sk.nd
  have e : sortI (N.map (·.id)) = L.map (·.id) := by
    refine List.Perm.eq_of_pairwise (le := fun a b => a ≤ b) (fun a b _ _ h1 h2 => Int.le_antisymm h1 h2) ?_ (h.srt.imp fun h => Int.le_of_lt h) ((List.mergeSort_perm _ _).trans (h.perm.map _))
    exact (List.pairwise_mergeSort (le := fun a b : Int => decide (a ≤ b)) (fun a b c h1 h2 => by simp at *; omega) (fun a b => by simp; omega) _).imp fun h => of_decide_eq_true h
  rw [nodesN, e, List.map_map]
  have : ∀ x ∈ L, (((fun k => (gt N k).getD zeroN) ∘ (·.id)) x) = x := fun x hx => by
    simp only [Function.comp]; rw [gt_of hn (h.perm.mem_iff.2 hx)]; rfl
  rw [List.map_congr_left this]; simp
end Go.Proofs.YtlhjibkkkhgonaaGreatDoor
set_option linter.unusedVariables false
set_option linter.unusedSimpArgs false
namespace Go.Proofs.YtlhjibkkkhgonaaGreatDoor
open Go.RowKit G
def isG (N : List Nr) (k : Int) : Bool := (gt N k).isSome && !((gt N k).getD zeroN).thr
set_option maxHeartbeats 1000000 in
set_option maxRecDepth 100000 in
theorem rkgrp_walk (H : List SP) (k t : Nat) (L : List Nr) (a : Option Addr) (c : Nat) (l : List (Int × Int)) (Z : O4) (mt mg la : Int) (hw : WFN L) (id : Int) : ∀ w, Sat w (blk k 55 [vp t, .slice a l.length c, vi Z.z0.c, vi Z.z1.c, vi Z.z2.c, vi Z.z3.c, .slice Z.z0.a Z.z0.l.length Z.z0.k, .slice Z.z1.a Z.z1.l.length Z.z1.k, .slice Z.z2.a Z.z2.l.length Z.z2.k, .slice Z.z3.a Z.z3.l.length Z.z3.k, vi mt, vi mg, vi la] :: rtS t L :: H) → Calls Tryz.prog 45 #[vp k, vi id] w (Ret (ι := Unit) (fun _ => .bool (isG L id)) fun _ => blk k 55 [vp t, .slice a l.length c, vi Z.z0.c, vi Z.z1.c, vi Z.z2.c, vi Z.z3.c, .slice Z.z0.a Z.z0.l.length Z.z0.k, .slice Z.z1.a Z.z1.l.length Z.z1.k, .slice Z.z2.a Z.z2.l.length Z.z2.k, .slice Z.z3.a Z.z3.l.length Z.z3.k, vi mt, vi mg, vi la] :: rtS t L :: H) := by
 have hl := hw.sk.len
 have hne : L ≠ [] := by obtain ⟨r, hr, _⟩ := hw.sk.root; exact List.ne_nil_of_mem hr
 refine enterG (fn := Tryz.f45) 29 [vp k, vi id] Tryz.func45 (by kernel_rfl) (by kernel_rfl) (by kernel_rfl) ?_
 refine PT.pick 0 rfl ?_
 refine PT.pick 1 rfl ?_
 refine PT.openRt fun b o q => ?_
 refine Xq (Xg 1 (Xe [(0,vp k), (1,vi id), (4,.bool false)] ?_ 1))
 refine Xq (Xg 7 (Xl [(0,vp k), (4,.bool false), (9,vp t), (10,vi id)] [(⟨k, 0, none⟩, vp t)] (hasC (ba 2) has0) ?_ 2 5))
 cases hg : gt L id with
 | none =>
  have hix : ixL L id = -1 := ixL_no (gt_none.1 hg)
  refine Xs (Xa (some 11) (fun _ => vi (ixL L id)) (rat_walk _ t b o q L id (by omega))) (fun _ => ?_) 1
  rw [show ixL L id = (-1) by exact hix]
  refine Xe [(0,vp k), (4,.bool false), (5,vi (-1))] ?_ 1
  refine Xq (Xg 18 (Xe [(4,.bool false)] ?_ 18))
  refine Xv (Y0 (.bool false) (fun w hs => ?_))
  exact ⟨(), by rw [isG, hg]; rfl, SatF.swap (Sat.closeRt hne hs)⟩
 | some x =>
  obtain ⟨i, hi, hix⟩ := ixL_gt hw.sk.nd hg
  have hil := (List.getElem?_eq_some_iff.1 hi).1
  refine Xs (Xa (some 11) (fun _ => vi (ixL L id)) (rat_walk _ t b o q L id (by omega))) (fun _ => ?_) 1
  rw [show ixL L id = (i : Int) by exact hix]
  refine Xe [(0,vp k), (4,.bool false), (5,vi i)] ?_ 1
  refine Xq (Xg 18 (Xr [(0,vp k), (4,.bool false), (5,vi i), (14,.bool (decide ((i : Int) ≥ 0)))] ?_ 15 3))
  refine (Xs0 1 14 [(4,.bool false), (28,.bool ((decide ((i : Int) ≥ 0)) && (!x.thr)))] ?_ ?_ : RT _ _ _ _ _ _ 15 _)
  ·cases hg3 : (decide ((i : Int) ≥ 0)) with
   | true =>
    refine Xl [(4,.bool false), (14,.bool true), (21,.slice (some ⟨b, o, none⟩) L.length q), (22,vi i)] [(⟨k, 0, none⟩, vp t), (⟨t, 0, none⟩, .slice (some ⟨b, o, none⟩) L.length q)] (hasC (ba 2) (hasC (ba 0) has0)) ?_ 6 8
    refine Xs (yldS (Xi 91 (.tmp 21) (.tmp 22) b o L.length q i 7 97 (i : Int) 23 Tryz.underlying91)) (fun _ => ?_) 5
    refine Xm [(4,.bool false), (28,.bool (!x.thr))] [(⟨b, o + i * 7 + 4, none⟩, .bool x.thr)] (hasC (rowCell (E := rnE) (xs := L) 1 rfl (x := x) hi (j := 4) rfl) has0) ?_ 5
    refine Xp [(4,.bool false), (28,.bool (true && (!x.thr)))] ?_
    exact midR () rfl rfl
   | false =>
    refine Xe [(4,.bool false), (28,.bool false)] ?_ 14
    refine Xp [(4,.bool false), (28,.bool (false && (!x.thr)))] ?_
    exact midR () rfl rfl
  refine Xe [(4,.bool ((decide ((i : Int) ≥ 0)) && (!x.thr)))] ?_ 1
  refine Xv (Y0 (.bool ((decide ((i : Int) ≥ 0)) && (!x.thr))) (fun w hs => ?_))
  exact ⟨(), by rw [isG, hg, decide_eq_true (by omega)]; simp, SatF.swap (Sat.closeRt hne hs)⟩
set_option maxHeartbeats 1000000 in
set_option maxRecDepth 100000 in
theorem rkthr_walk (H : List SP) (k t : Nat) (L : List Nr) (a : Option Addr) (c : Nat) (l : List (Int × Int)) (Z : O4) (mt mg la : Int) (hw : WFN L) (id : Int) : ∀ w, Sat w (blk k 55 [vp t, .slice a l.length c, vi Z.z0.c, vi Z.z1.c, vi Z.z2.c, vi Z.z3.c, .slice Z.z0.a Z.z0.l.length Z.z0.k, .slice Z.z1.a Z.z1.l.length Z.z1.k, .slice Z.z2.a Z.z2.l.length Z.z2.k, .slice Z.z3.a Z.z3.l.length Z.z3.k, vi mt, vi mg, vi la] :: rtS t L :: H) → Calls Tryz.prog 52 #[vp k, vi id] w (Ret (ι := Unit) (fun _ => .bool (isT L id)) fun _ => blk k 55 [vp t, .slice a l.length c, vi Z.z0.c, vi Z.z1.c, vi Z.z2.c, vi Z.z3.c, .slice Z.z0.a Z.z0.l.length Z.z0.k, .slice Z.z1.a Z.z1.l.length Z.z1.k, .slice Z.z2.a Z.z2.l.length Z.z2.k, .slice Z.z3.a Z.z3.l.length Z.z3.k, vi mt, vi mg, vi la] :: rtS t L :: H) := by
 have hl := hw.sk.len
 have hne : L ≠ [] := by obtain ⟨r, hr, _⟩ := hw.sk.root; exact List.ne_nil_of_mem hr
 refine enterG (fn := Tryz.f52) 28 [vp k, vi id] Tryz.func52 (by kernel_rfl) (by kernel_rfl) (by kernel_rfl) ?_
 refine PT.pick 0 rfl ?_
 refine PT.pick 1 rfl ?_
 refine PT.openRt fun b o q => ?_
 refine Xq (Xg 1 (Xe [(0,vp k), (1,vi id), (4,.bool false)] ?_ 1))
 refine Xq (Xg 7 (Xl [(0,vp k), (4,.bool false), (9,vp t), (10,vi id)] [(⟨k, 0, none⟩, vp t)] (hasC (ba 2) has0) ?_ 2 5))
 cases hg : gt L id with
 | none =>
  have hix : ixL L id = -1 := ixL_no (gt_none.1 hg)
  refine Xs (Xa (some 11) (fun _ => vi (ixL L id)) (rat_walk _ t b o q L id (by omega))) (fun _ => ?_) 1
  rw [show ixL L id = (-1) by exact hix]
  refine Xe [(0,vp k), (4,.bool false), (5,vi (-1))] ?_ 1
  refine Xq (Xg 17 (Xe [(4,.bool false)] ?_ 17))
  refine Xv (Y0 (.bool false) (fun w hs => ?_))
  exact ⟨(), by rw [isT, hg]; rfl, SatF.swap (Sat.closeRt hne hs)⟩
 | some x =>
  obtain ⟨i, hi, hix⟩ := ixL_gt hw.sk.nd hg
  have hil := (List.getElem?_eq_some_iff.1 hi).1
  refine Xs (Xa (some 11) (fun _ => vi (ixL L id)) (rat_walk _ t b o q L id (by omega))) (fun _ => ?_) 1
  rw [show ixL L id = (i : Int) by exact hix]
  refine Xe [(0,vp k), (4,.bool false), (5,vi i)] ?_ 1
  refine Xq (Xg 17 (Xr [(0,vp k), (4,.bool false), (5,vi i), (14,.bool (decide ((i : Int) ≥ 0)))] ?_ 14 3))
  refine (Xs0 1 13 [(4,.bool false), (27,.bool ((decide ((i : Int) ≥ 0)) && x.thr))] ?_ ?_ : RT _ _ _ _ _ _ 14 _)
  ·cases hg3 : (decide ((i : Int) ≥ 0)) with
   | true =>
    refine Xl [(4,.bool false), (14,.bool true), (21,.slice (some ⟨b, o, none⟩) L.length q), (22,vi i)] [(⟨k, 0, none⟩, vp t), (⟨t, 0, none⟩, .slice (some ⟨b, o, none⟩) L.length q)] (hasC (ba 2) (hasC (ba 0) has0)) ?_ 5 8
    refine Xs (yldS (Xi 91 (.tmp 21) (.tmp 22) b o L.length q i 7 97 (i : Int) 23 Tryz.underlying91)) (fun _ => ?_) 4
    refine Xm [(4,.bool false), (27,.bool x.thr)] [(⟨b, o + i * 7 + 4, none⟩, .bool x.thr)] (hasC (rowCell (E := rnE) (xs := L) 1 rfl (x := x) hi (j := 4) rfl) has0) ?_ 4
    refine Xp [(4,.bool false), (27,.bool (true && x.thr))] ?_
    exact midR () rfl rfl
   | false =>
    refine Xe [(4,.bool false), (27,.bool false)] ?_ 13
    refine Xp [(4,.bool false), (27,.bool (false && x.thr))] ?_
    exact midR () rfl rfl
  refine Xe [(4,.bool ((decide ((i : Int) ≥ 0)) && x.thr))] ?_ 1
  refine Xv (Y0 (.bool ((decide ((i : Int) ≥ 0)) && x.thr)) (fun w hs => ?_))
  exact ⟨(), by rw [isT, hg, decide_eq_true (by omega)]; simp, SatF.swap (Sat.closeRt hne hs)⟩
set_option maxHeartbeats 1000000 in
set_option maxRecDepth 100000 in
theorem rkrdy_walk (H : List SP) (k t : Nat) (L : List Nr) (a : Option Addr) (c : Nat) (l : List (Int × Int)) (Z : O4) (mt mg la : Int) (hw : WFN L) (id : Int) : ∀ w, Sat w (blk k 55 [vp t, .slice a l.length c, vi Z.z0.c, vi Z.z1.c, vi Z.z2.c, vi Z.z3.c, .slice Z.z0.a Z.z0.l.length Z.z0.k, .slice Z.z1.a Z.z1.l.length Z.z1.k, .slice Z.z2.a Z.z2.l.length Z.z2.k, .slice Z.z3.a Z.z3.l.length Z.z3.k, vi mt, vi mg, vi la] :: rtS t L :: H) → Calls Tryz.prog 57 #[vp k, vi id] w (Ret (ι := Unit) (fun _ => .bool (isR L id)) fun _ => blk k 55 [vp t, .slice a l.length c, vi Z.z0.c, vi Z.z1.c, vi Z.z2.c, vi Z.z3.c, .slice Z.z0.a Z.z0.l.length Z.z0.k, .slice Z.z1.a Z.z1.l.length Z.z1.k, .slice Z.z2.a Z.z2.l.length Z.z2.k, .slice Z.z3.a Z.z3.l.length Z.z3.k, vi mt, vi mg, vi la] :: rtS t L :: H) := by
 have hl := hw.sk.len
 have hne : L ≠ [] := by obtain ⟨r, hr, _⟩ := hw.sk.root; exact List.ne_nil_of_mem hr
 refine enterG (fn := Tryz.f57) 42 [vp k, vi id] Tryz.func57 (by kernel_rfl) (by kernel_rfl) (by kernel_rfl) ?_
 refine PT.pick 0 rfl ?_
 refine PT.pick 1 rfl ?_
 refine PT.openRt fun b o q => ?_
 refine Xq (Xg 1 (Xe [(0,vp k), (1,vi id), (4,.bool false)] ?_ 1))
 refine Xq (Xg 7 (Xl [(0,vp k), (4,.bool false), (9,vp t), (10,vi id)] [(⟨k, 0, none⟩, vp t)] (hasC (ba 2) has0) ?_ 2 5))
 cases hg : gt L id with
 | none =>
  have hix : ixL L id = -1 := ixL_no (gt_none.1 hg)
  refine Xs (Xa (some 11) (fun _ => vi (ixL L id)) (rat_walk _ t b o q L id (by omega))) (fun _ => ?_) 1
  rw [show ixL L id = (-1) by exact hix]
  refine Xe [(0,vp k), (4,.bool false), (5,vi (-1))] ?_ 1
  refine Xq (Xg 31 (Xe [(4,.bool false)] ?_ 31))
  refine Xv (Y0 (.bool false) (fun w hs => ?_))
  exact ⟨(), by rw [isR, hg]; rfl, SatF.swap (Sat.closeRt hne hs)⟩
 | some x =>
  obtain ⟨i, hi, hix⟩ := ixL_gt hw.sk.nd hg
  have hil := (List.getElem?_eq_some_iff.1 hi).1
  refine Xs (Xa (some 11) (fun _ => vi (ixL L id)) (rat_walk _ t b o q L id (by omega))) (fun _ => ?_) 1
  rw [show ixL L id = (i : Int) by exact hix]
  refine Xe [(0,vp k), (4,.bool false), (5,vi i)] ?_ 1
  refine Xq (Xg 31 (Xr [(0,vp k), (4,.bool false), (5,vi i), (14,.bool (decide ((i : Int) ≥ 0)))] ?_ 28 3))
  refine (Xs0 15 13 [(0,vp k), (4,.bool false), (5,vi i), (27,.bool ((decide ((i : Int) ≥ 0)) && x.thr))] ?_ ?_ : RT _ _ _ _ _ _ 28 _)
  ·cases hg3 : (decide ((i : Int) ≥ 0)) with
   | true =>
    refine Xl [(0,vp k), (4,.bool false), (5,vi i), (14,.bool true), (21,.slice (some ⟨b, o, none⟩) L.length q), (22,vi i)] [(⟨k, 0, none⟩, vp t), (⟨t, 0, none⟩, .slice (some ⟨b, o, none⟩) L.length q)] (hasC (ba 2) (hasC (ba 0) has0)) ?_ 5 8
    refine Xs (yldS (Xi 91 (.tmp 21) (.tmp 22) b o L.length q i 7 97 (i : Int) 23 Tryz.underlying91)) (fun _ => ?_) 4
    refine Xm [(0,vp k), (4,.bool false), (5,vi i), (27,.bool x.thr)] [(⟨b, o + i * 7 + 4, none⟩, .bool x.thr)] (hasC (rowCell (E := rnE) (xs := L) 1 rfl (x := x) hi (j := 4) rfl) has0) ?_ 4
    refine Xp [(0,vp k), (4,.bool false), (5,vi i), (27,.bool (true && x.thr))] ?_
    exact midR () rfl rfl
   | false =>
    refine Xe [(0,vp k), (4,.bool false), (5,vi i), (27,.bool false)] ?_ 13
    refine Xp [(0,vp k), (4,.bool false), (5,vi i), (27,.bool (false && x.thr))] ?_
    exact midR () rfl rfl
  refine Xr [(0,vp k), (4,.bool false), (5,vi i), (28,.bool ((decide ((i : Int) ≥ 0)) && x.thr))] ?_ 14 1
  refine (Xs0 1 13 [(4,.bool false), (41,.bool (((decide ((i : Int) ≥ 0)) && x.thr) && x.rdy))] ?_ ?_ : RT _ _ _ _ _ _ 14 _)
  ·cases hg17 : ((decide ((i : Int) ≥ 0)) && x.thr) with
   | true =>
    refine Xl [(4,.bool false), (28,.bool true), (35,.slice (some ⟨b, o, none⟩) L.length q), (36,vi i)] [(⟨k, 0, none⟩, vp t), (⟨t, 0, none⟩, .slice (some ⟨b, o, none⟩) L.length q)] (hasC (ba 2) (hasC (ba 0) has0)) ?_ 5 8
    refine Xs (yldS (Xi 91 (.tmp 35) (.tmp 36) b o L.length q i 7 97 (i : Int) 37 Tryz.underlying91)) (fun _ => ?_) 4
    refine Xm [(4,.bool false), (41,.bool x.rdy)] [(⟨b, o + i * 7 + 5, none⟩, .bool x.rdy)] (hasC (rowCell (E := rnE) (xs := L) 1 rfl (x := x) hi (j := 5) rfl) has0) ?_ 4
    refine Xp [(4,.bool false), (41,.bool (true && x.rdy))] ?_
    exact midR () rfl rfl
   | false =>
    refine Xe [(4,.bool false), (41,.bool false)] ?_ 13
    refine Xp [(4,.bool false), (41,.bool (false && x.rdy))] ?_
    exact midR () rfl rfl
  refine Xe [(4,.bool (((decide ((i : Int) ≥ 0)) && x.thr) && x.rdy))] ?_ 1
  refine Xv (Y0 (.bool (((decide ((i : Int) ≥ 0)) && x.thr) && x.rdy)) (fun w hs => ?_))
  exact ⟨(), by rw [isR, hg, decide_eq_true (by omega)]; simp, SatF.swap (Sat.closeRt hne hs)⟩
set_option maxHeartbeats 1000000 in
set_option maxRecDepth 100000 in
theorem rkcount_walk (H : List SP) (k t : Nat) (L : List Nr) (a : Option Addr) (c : Nat) (l : List (Int × Int)) (Z : O4) (mt mg la : Int) (hw : WFN L) (thr : Bool) : ∀ w, Sat w (blk k 55 [vp t, .slice a l.length c, vi Z.z0.c, vi Z.z1.c, vi Z.z2.c, vi Z.z3.c, .slice Z.z0.a Z.z0.l.length Z.z0.k, .slice Z.z1.a Z.z1.l.length Z.z1.k, .slice Z.z2.a Z.z2.l.length Z.z2.k, .slice Z.z3.a Z.z3.l.length Z.z3.k, vi mt, vi mg, vi la] :: rtS t L :: H) → Calls Tryz.prog 46 #[vp k, .bool thr] w (Ret (ι := Unit) (fun _ => vi (kcnt L thr)) fun _ => blk k 55 [vp t, .slice a l.length c, vi Z.z0.c, vi Z.z1.c, vi Z.z2.c, vi Z.z3.c, .slice Z.z0.a Z.z0.l.length Z.z0.k, .slice Z.z1.a Z.z1.l.length Z.z1.k, .slice Z.z2.a Z.z2.l.length Z.z2.k, .slice Z.z3.a Z.z3.l.length Z.z3.k, vi mt, vi mg, vi la] :: rtS t L :: H) := by
 have hl := hw.sk.len
 have hne : L ≠ [] := by obtain ⟨r, hr, _⟩ := hw.sk.root; exact List.ne_nil_of_mem hr
 refine enterG (fn := Tryz.f46) 51 [vp k, .bool thr] Tryz.func46 (by kernel_rfl) (by kernel_rfl) (by kernel_rfl) ?_
 refine PT.pick 0 rfl ?_
 refine PT.pick 1 rfl ?_
 refine PT.openRt fun b o q => ?_
 refine Xq (Xg 1 (Xe [(0,vp k), (1,.bool thr), (4,vi 0)] ?_ 1))
 refine Xq (Xg 1 (Xe [(0,vp k), (1,.bool thr), (4,vi 0), (5,vi 0)] ?_ 1))
 refine Xq (Xq (Xg 1 (Xe [(0,vp k), (1,.bool thr), (4,vi 0), (5,vi 0), (6,vi 0)] ?_ 1)))
 refine Xb 0 (Xp [(0,vp k), (1,.bool thr), (4,vi 0), (5,vi 0), (6,vi 0)] (Xl0 (fun (u : Nat) => [(0,vp k), (1,.bool thr), (4,vi 0), (5,vi (((L.take u).filter (cntP thr)).length : Int)), (6,vi u)]) (fun k (u : Nat) => k + u = L.length) L.length 0 (by kernel_rfl) (by simp) ?_))
 rintro j u hku
 refine Xq (Xq (Xg 10 (Xm [(0,vp k), (1,.bool thr), (4,vi 0), (5,vi (((L.take u).filter (cntP thr)).length : Int)), (6,vi u), (16,.bool (decide ((u : Int) < (L.length : Int))))] [(⟨k, 0, none⟩, vp t), (⟨t, 0, none⟩, .slice (some ⟨b, o, none⟩) L.length q)] (hasC (ba 2) (hasC (ba 0) has0)) ?_ 10)))
 refine Xc (decide ((u : Int) < (L.length : Int))) (fun h1 => ?_) (fun h1 => ?_)
 ·skip
  have hu : u < L.length := by have := of_decide_eq_true h1; omega
  obtain ⟨x, hx⟩ : ∃ x, L[u]? = some x := ⟨_, List.getElem?_eq_getElem hu⟩
  have hxL := List.mem_of_getElem? hx
  have hx0 : 0 ≤ x.id := by by_cases c0 : x.id = 0; omega; have := (hw.sk.pa x hxL c0).1; omega
  have hct := cnt_take hx (cntP thr)
  have hcl : ((L.take u).filter (cntP thr)).length ≤ 60 := by have := List.length_filter_le (cntP thr) (L.take u); simp only [List.length_take] at this; omega
  refine Xk (Xq (Xb 1 (Xq (Xg 29 (Xl [(0,vp k), (1,.bool thr), (4,vi 0), (5,vi (((L.take u).filter (cntP thr)).length : Int)), (6,vi u), (25,.slice (some ⟨b, o, none⟩) L.length q), (26,vi u)] [(⟨k, 0, none⟩, vp t), (⟨t, 0, none⟩, .slice (some ⟨b, o, none⟩) L.length q)] (hasC (ba 2) (hasC (ba 0) has0)) ?_ 21 8)))))
  refine Xs (yldS (Xi 91 (.tmp 25) (.tmp 26) b o L.length q u 7 97 (u : Int) 27 Tryz.underlying91)) (fun _ => ?_) 20
  refine Xl [(0,vp k), (1,.bool thr), (4,vi 0), (5,vi (((L.take u).filter (cntP thr)).length : Int)), (6,vi u), (33,.bool (x.thr == thr))] [(⟨b, o + u * 7 + 4, none⟩, .bool x.thr)] (hasC (rowCell (E := rnE) (xs := L) 1 rfl (x := x) hx (j := 4) rfl) has0) ?_ 14 6
  refine (Xs0 0 14 [(0,vp k), (1,.bool thr), (4,vi 0), (5,vi (((L.take u).filter (cntP thr)).length : Int)), (6,vi u), (47,.bool ((x.thr == thr) && (decide (x.id > 0))))] ?_ ?_ : RT _ _ _ _ _ _ 14 _)
  ·cases hg15 : (x.thr == thr) with
   | true =>
    refine Xl [(0,vp k), (1,.bool thr), (4,vi 0), (5,vi (((L.take u).filter (cntP thr)).length : Int)), (6,vi u), (33,.bool true), (40,.slice (some ⟨b, o, none⟩) L.length q), (41,vi u)] [(⟨k, 0, none⟩, vp t), (⟨t, 0, none⟩, .slice (some ⟨b, o, none⟩) L.length q)] (hasC (ba 2) (hasC (ba 0) has0)) ?_ 6 8
    refine Xs (yldS (Xi 91 (.tmp 40) (.tmp 41) b o L.length q u 7 97 (u : Int) 42 Tryz.underlying91)) (fun _ => ?_) 5
    refine Xm [(0,vp k), (1,.bool thr), (4,vi 0), (5,vi (((L.take u).filter (cntP thr)).length : Int)), (6,vi u), (47,.bool (decide (x.id > 0)))] [(⟨b, o + u * 7, none⟩, vi x.id)] (hasC (rowCell (E := rnE) (xs := L) 1 rfl (x := x) hx (j := 0) rfl) has0) ?_ 5
    refine Xp [(0,vp k), (1,.bool thr), (4,vi 0), (5,vi (((L.take u).filter (cntP thr)).length : Int)), (6,vi u), (47,.bool (true && (decide (x.id > 0))))] ?_
    exact midR () rfl rfl
   | false =>
    refine Xe [(0,vp k), (1,.bool thr), (4,vi 0), (5,vi (((L.take u).filter (cntP thr)).length : Int)), (6,vi u), (47,.bool false)] ?_ 14
    refine Xp [(0,vp k), (1,.bool thr), (4,vi 0), (5,vi (((L.take u).filter (cntP thr)).length : Int)), (6,vi u), (47,.bool (false && (decide (x.id > 0))))] ?_
    exact midR () rfl rfl
  refine endR ?_
  refine Xc ((x.thr == thr) && (decide (x.id > 0))) (fun h2 => ?_) (fun h2 => ?_)
  ·skip
   have hp : cntP thr x = true := by rw [cntP]; simp only [Bool.and_eq_true, decide_eq_true_eq] at h2; simp [h2.1]; omega
   rw [if_pos hp] at hct
   refine Xg 3 (Xe [(0,vp k), (1,.bool thr), (4,vi 0), (5,vi (IntKind.i64.wrap ((((L.take u).filter (cntP thr)).length : Int) + 1))), (6,vi u)] ?_ 3)
   refine Xg 3 (Xe [(0,vp k), (1,.bool thr), (4,vi 0), (5,vi (IntKind.i64.wrap ((((L.take u).filter (cntP thr)).length : Int) + 1))), (6,vi (IntKind.i64.wrap ((u : Int) + 1)))] ?_ 3)
   rw [show IntKind.i64.wrap ((((L.take u).filter (cntP thr)).length : Int) + 1) = ((((L.take u).filter (cntP thr)).length : Int) + 1) by rw [w64 (by omega) (by omega)]]
   rw [show IntKind.i64.wrap ((u : Int) + 1) = ((u : Int) + 1) by rw [w64 (by omega) (by omega)]]
   rw [show ((((L.take u).filter (cntP thr)).length : Int) + 1) = (((L.take (u + 1)).filter (cntP thr)).length : Int) by rw [hct]; omega]
   refine Xp [(0,vp k), (1,.bool thr), (4,vi 0), (5,vi (((L.take (u + 1)).filter (cntP thr)).length : Int)), (6,vi ((u : Int) + 1))] ?_
   exact againG (j - 1) (u + 1) rfl rfl (by omega) (by omega)
  ·skip
   have hp : ¬ cntP thr x = true := by rw [cntP]; intro hc; simp only [Bool.and_eq_true] at hc; simp only [Bool.and_eq_false_iff, decide_eq_false_iff_not] at h2; rcases h2 with h2 | h2; (rw [hc.1] at h2; cases h2); (have := hc.2; simp at this; omega)
   rw [if_neg hp, Nat.add_zero] at hct
   refine Xk (Xg 3 (Xe [(0,vp k), (1,.bool thr), (4,vi 0), (5,vi (((L.take u).filter (cntP thr)).length : Int)), (6,vi (IntKind.i64.wrap ((u : Int) + 1)))] ?_ 3))
   rw [show IntKind.i64.wrap ((u : Int) + 1) = ((u : Int) + 1) by rw [w64 (by omega) (by omega)]]
   rw [show (((L.take u).filter (cntP thr)).length : Int) = (((L.take (u + 1)).filter (cntP thr)).length : Int) by rw [hct]; simp]
   refine Xp [(0,vp k), (1,.bool thr), (4,vi 0), (5,vi (((L.take (u + 1)).filter (cntP thr)).length : Int)), (6,vi ((u : Int) + 1))] ?_
   exact againG (j - 1) (u + 1) rfl rfl (by omega) (by omega)
 ·skip
  have hu : u = L.length := by have := of_decide_eq_false h1; omega
  refine Xx 0 (thenX (thenX (leaveR (Xq (Xg 2 (Xe [(4,vi (((L.take u).filter (cntP thr)).length : Int))] ?_ 2))))))
  refine Xv (Y0 (vi (((L.take u).filter (cntP thr)).length : Int)) (fun w hs => ?_))
  exact ⟨(), by rw [hu, List.take_length]; rfl, SatF.swap (Sat.closeRt hne hs)⟩
end Go.Proofs.YtlhjibkkkhgonaaGreatDoor
set_option linter.unusedVariables false
set_option linter.unusedSimpArgs false
namespace Go.Proofs.YtlhjibkkkhgonaaGreatDoor
open Go.RowKit G
def rkS (k : Nat) (s : KS) : SP := exS fun p : Nat × List Nr × (Option Addr × Nat) × O4 => two (pureS (KOk s ∧ TRel s.N p.2.1 ∧ p.2.2.2.ob = s.ob)) (manyS [blk k 55 [.pointer (some ⟨p.1, 0, none⟩), .slice p.2.2.1.1 s.tm.length p.2.2.1.2, .int .i64 p.2.2.2.z0.c, .int .i64 p.2.2.2.z1.c, .int .i64 p.2.2.2.z2.c, .int .i64 p.2.2.2.z3.c, .slice p.2.2.2.z0.a p.2.2.2.z0.l.length p.2.2.2.z0.k, .slice p.2.2.2.z1.a p.2.2.2.z1.l.length p.2.2.2.z1.k, .slice p.2.2.2.z2.a p.2.2.2.z2.l.length p.2.2.2.z2.k, .slice p.2.2.2.z3.a p.2.2.2.z3.l.length p.2.2.2.z3.k, .int .i64 s.mt, .int .i64 s.mg, .int .i64 (s.nx - 1)], rtS p.1 p.2.1, row tmE 141 (.slice p.2.2.1.1 s.tm.length p.2.2.1.2) s.tm, row (kE .i64) 3 (.slice p.2.2.2.z0.a p.2.2.2.z0.l.length p.2.2.2.z0.k) p.2.2.2.z0.l, row (kE .i64) 3 (.slice p.2.2.2.z1.a p.2.2.2.z1.l.length p.2.2.2.z1.k) p.2.2.2.z1.l, row (kE .i64) 3 (.slice p.2.2.2.z2.a p.2.2.2.z2.l.length p.2.2.2.z2.k) p.2.2.2.z2.l, row (kE .i64) 3 (.slice p.2.2.2.z3.a p.2.2.2.z3.l.length p.2.2.2.z3.k) p.2.2.2.z3.l])
theorem Sat.openRk {k : Nat} {s : KS} {H : List SP} {w : World} (h : Sat w (rkS k s :: H)) : ∃ (t : Nat) (L : List Nr) (a : Option Addr) (c : Nat) (Z : O4), KOk s ∧ TRel s.N L ∧ Z.ob = s.ob ∧ Sat w (blk k 55 [.pointer (some ⟨t, 0, none⟩), .slice a s.tm.length c, .int .i64 Z.z0.c, .int .i64 Z.z1.c, .int .i64 Z.z2.c, .int .i64 Z.z3.c, .slice Z.z0.a Z.z0.l.length Z.z0.k, .slice Z.z1.a Z.z1.l.length Z.z1.k, .slice Z.z2.a Z.z2.l.length Z.z2.k, .slice Z.z3.a Z.z3.l.length Z.z3.k, .int .i64 s.mt, .int .i64 s.mg, .int .i64 (s.nx - 1)] :: rtS t L :: row tmE 141 (.slice a s.tm.length c) s.tm :: row (kE .i64) 3 (.slice Z.z0.a Z.z0.l.length Z.z0.k) Z.z0.l :: row (kE .i64) 3 (.slice Z.z1.a Z.z1.l.length Z.z1.k) Z.z1.l :: row (kE .i64) 3 (.slice Z.z2.a Z.z2.l.length Z.z2.k) Z.z2.l :: row (kE .i64) 3 (.slice Z.z3.a Z.z3.l.length Z.z3.k) Z.z3.l :: H) := by
 obtain ⟨⟨t, L, ⟨a, c⟩, Z⟩, h⟩ := Sat.openEx h
 obtain ⟨⟨h1, h2, h3⟩, h⟩ := Sat.openPure (Sat.openTwo h)
 exact ⟨t, L, a, c, Z, h1, h2, h3, Sat.openMany h⟩
theorem Sat.closeRk {k t : Nat} {L : List Nr} {a : Option Addr} {c : Nat} {Z : O4} {s : KS} {H : List SP} {w : World} (h1 : KOk s) (h2 : TRel s.N L) (h3 : Z.ob = s.ob) (h : Sat w (blk k 55 [.pointer (some ⟨t, 0, none⟩), .slice a s.tm.length c, .int .i64 Z.z0.c, .int .i64 Z.z1.c, .int .i64 Z.z2.c, .int .i64 Z.z3.c, .slice Z.z0.a Z.z0.l.length Z.z0.k, .slice Z.z1.a Z.z1.l.length Z.z1.k, .slice Z.z2.a Z.z2.l.length Z.z2.k, .slice Z.z3.a Z.z3.l.length Z.z3.k, .int .i64 s.mt, .int .i64 s.mg, .int .i64 (s.nx - 1)] :: rtS t L :: row tmE 141 (.slice a s.tm.length c) s.tm :: row (kE .i64) 3 (.slice Z.z0.a Z.z0.l.length Z.z0.k) Z.z0.l :: row (kE .i64) 3 (.slice Z.z1.a Z.z1.l.length Z.z1.k) Z.z1.l :: row (kE .i64) 3 (.slice Z.z2.a Z.z2.l.length Z.z2.k) Z.z2.l :: row (kE .i64) 3 (.slice Z.z3.a Z.z3.l.length Z.z3.k) Z.z3.l :: H)) : Sat w (rkS k s :: H) :=
 Sat.closeEx (t, L, (a, c), Z) (Sat.closeTwo (Sat.closePure ⟨h1, h2, h3⟩ (Sat.closeMany (l := [blk k 55 [.pointer (some ⟨t, 0, none⟩), .slice a s.tm.length c, .int .i64 Z.z0.c, .int .i64 Z.z1.c, .int .i64 Z.z2.c, .int .i64 Z.z3.c, .slice Z.z0.a Z.z0.l.length Z.z0.k, .slice Z.z1.a Z.z1.l.length Z.z1.k, .slice Z.z2.a Z.z2.l.length Z.z2.k, .slice Z.z3.a Z.z3.l.length Z.z3.k, .int .i64 s.mt, .int .i64 s.mg, .int .i64 (s.nx - 1)], rtS t L, row tmE 141 (.slice a s.tm.length c) s.tm, row (kE .i64) 3 (.slice Z.z0.a Z.z0.l.length Z.z0.k) Z.z0.l, row (kE .i64) 3 (.slice Z.z1.a Z.z1.l.length Z.z1.k) Z.z1.l, row (kE .i64) 3 (.slice Z.z2.a Z.z2.l.length Z.z2.k) Z.z2.l, row (kE .i64) 3 (.slice Z.z3.a Z.z3.l.length Z.z3.k) Z.z3.l]) h)))
theorem Sat.closeRl {k t : Nat} {L : List Nr} {a : Option Addr} {c : Nat} {Z : O4} {s : KS} {la : Int} {H : List SP} {w : World} (h1 : KOk s) (h2 : TRel s.N L) (h3 : Z.ob = s.ob) (h4 : la = s.nx - 1) (h : Sat w (blk k 55 [.pointer (some ⟨t, 0, none⟩), .slice a s.tm.length c, .int .i64 Z.z0.c, .int .i64 Z.z1.c, .int .i64 Z.z2.c, .int .i64 Z.z3.c, .slice Z.z0.a Z.z0.l.length Z.z0.k, .slice Z.z1.a Z.z1.l.length Z.z1.k, .slice Z.z2.a Z.z2.l.length Z.z2.k, .slice Z.z3.a Z.z3.l.length Z.z3.k, .int .i64 s.mt, .int .i64 s.mg, .int .i64 la] :: rtS t L :: row tmE 141 (.slice a s.tm.length c) s.tm :: row (kE .i64) 3 (.slice Z.z0.a Z.z0.l.length Z.z0.k) Z.z0.l :: row (kE .i64) 3 (.slice Z.z1.a Z.z1.l.length Z.z1.k) Z.z1.l :: row (kE .i64) 3 (.slice Z.z2.a Z.z2.l.length Z.z2.k) Z.z2.l :: row (kE .i64) 3 (.slice Z.z3.a Z.z3.l.length Z.z3.k) Z.z3.l :: H)) : Sat w (rkS k s :: H) := by
 subst h4; exact Sat.closeRk h1 h2 h3 h
theorem TRel.gt {N L : List Nr} (h : TRel N L) (hw : WFN N) (k : Int) : gt N k = gt L k := gt_perm h.perm hw.sk.nd k
theorem TRel.isT {N L : List Nr} (h : TRel N L) (hw : WFN N) (k : Int) : isT L k = isT N k := by unfold Go.Proofs.YtlhjibkkkhgonaaGreatDoor.isT; rw [h.gt hw]
theorem TRel.isR {N L : List Nr} (h : TRel N L) (hw : WFN N) (k : Int) : isR L k = isR N k := by unfold Go.Proofs.YtlhjibkkkhgonaaGreatDoor.isR; rw [h.gt hw]
theorem TRel.isG {N L : List Nr} (h : TRel N L) (hw : WFN N) (k : Int) : isG L k = isG N k := by unfold Go.Proofs.YtlhjibkkkhgonaaGreatDoor.isG; rw [h.gt hw]
theorem TRel.cnt {N L : List Nr} (h : TRel N L) (b : Bool) : kcnt L b = kcnt N b := by unfold kcnt; rw [(h.perm.filter _).length_eq]
theorem isG_iff {N : List Nr} {k : Int} : isG N k = true ↔ ∃ p, gt N k = some p ∧ p.thr = false := by
 unfold isG
 cases gt N k with
 | none => simp
 | some x => simp
theorem kadds_13 {s : KS} {par wt most : Int} {thr : Bool} (hw : isW wt = true) (hg : isG s.N par = false) : kadds s par wt most thr = ((0, 13), s) := by
 rw [kadds, if_neg (by rw [hw]; simp), if_pos]
 unfold isG at hg
 cases h : gt s.N par with
 | none => simp
 | some x => rw [h] at hg; simpa using hg
theorem kspawn_is {s : KS} (h : KOk s) {par wt : Int} {p : Nr} (hw : isW wt = true) (hp : gt s.N par = some p) (hpt : p.thr = false) (hc : kcnt s.N true < s.mt) : kspawn s par wt = ((s.nx, 0), { s with N := (readyN (addN s.N par s.nx wt true).2 s.nx true).2, nx := s.nx + 1 }) := by
 have h1 := kadds_at (most := s.mt) (thr := true) h hw hp hpt (.inl rfl) hc
 have h2 := addN_is (N := s.N) (par := par) (id := s.nx) (wt := wt) (thr := true) (p := p) hw h.nx hp hpt h.free (.inl rfl) (by have := h.len; omega)
 refine Prod.ext (kspawn_at h hw hp hpt hc).1 ?_
 unfold kspawn
 rw [h1, h2]; simp
theorem kgroup_is {s : KS} (h : KOk s) {par wt : Int} {p : Nr} (hw : isW wt = true) (hp : gt s.N par = some p) (hpt : p.thr = false) (hd : deepN 6 s.N par < 4) (hc : kcnt s.N false < s.mg) : kgroup s par wt = ((s.nx, 0), { s with N := (addN s.N par s.nx wt false).2, nx := s.nx + 1 }) := by
 have h1 := kadds_at (most := s.mg) (thr := false) h hw hp hpt (.inr hd) hc
 have h2 := addN_is (N := s.N) (par := par) (id := s.nx) (wt := wt) (thr := false) (p := p) hw h.nx hp hpt h.free (.inr hd) (by have := h.len; omega)
 rw [kgroup, h1, h2]
theorem kgroup_12 {s : KS} (h : KOk s) {par wt : Int} {p : Nr} (hw : isW wt = true) (hp : gt s.N par = some p) (hpt : p.thr = false) (hd : 4 ≤ deepN 6 s.N par) (hc : kcnt s.N false < s.mg) : kgroup s par wt = ((0, 12), s) := by
 have ha : addN s.N par s.nx wt false = (12, s.N) := by
  rw [addN, if_neg (by rw [hw]; simp; have := h.nx; omega), hp]
  simp only
  rw [if_neg (by rw [hpt]; simp), if_neg (by rw [h.free]; simp), if_pos (by simpa using hd)]
 rw [kgroup, kadds, if_neg (by rw [hw]; simp), if_neg (by rw [hp]; simp [hpt]), if_neg (by omega), if_pos (by rw [ha]; simp), ha]
theorem KOk.obh {s : KS} (h : KOk s) : ∀ o ∈ s.ob, 0 ≤ o.1 ∧ o.1 ≤ 255 ∧ o.2.length ≤ 1000 := fun o ho => by
 have := h.obb o ho
 have h1 := h.obc o ho
 have h2 := nodup_le (h.obn o ho) (m := s.N.map (·.id)) fun i hi => (h.obo o ho i hi).mem
 have h3 := h.wf.sk.len
 rw [List.length_map] at h2
 exact ⟨h1.1, h1.2, by omega⟩
theorem rtDeep8 (H : List SP) (t : Nat) (L : List Nr) (hsk : SK L) (k : Int) : ∀ w, Sat w (rtS t L :: H) → Calls Tryz.prog 47 #[vp t, vi k] w (Ret (ι := Unit) (fun _ => vi (deepN 6 L k : Int)) fun _ => rtS t L :: H) := fun w hs => by
 obtain ⟨b, o, c, hs⟩ := Sat.openRt hs
 have hne : L ≠ [] := by obtain ⟨r, hr, _⟩ := hsk.root; exact List.ne_nil_of_mem hr
 exact (rdeep_walk H t b o c L hsk k w hs).mono fun e w' ⟨_, he, hx⟩ => ⟨(), he, Sat.closeRt hne hx⟩
set_option maxHeartbeats 1000000 in
set_option maxRecDepth 100000 in
theorem rkspawn_walk (H : List SP) (k t : Nat) (L : List Nr) (a : Option Addr) (c : Nat) (Z : O4) (s : KS) (hk : KOk s) (hT : TRel s.N L) (hZ : Z.ob = s.ob) (hid : s.nx ≤ 1099511627776) (par wt : Int) : ∀ w, Sat w (blk k 55 [vp t, .slice a s.tm.length c, vi Z.z0.c, vi Z.z1.c, vi Z.z2.c, vi Z.z3.c, .slice Z.z0.a Z.z0.l.length Z.z0.k, .slice Z.z1.a Z.z1.l.length Z.z1.k, .slice Z.z2.a Z.z2.l.length Z.z2.k, .slice Z.z3.a Z.z3.l.length Z.z3.k, vi s.mt, vi s.mg, vi (s.nx - 1)] :: rtS t L :: row tmE 141 (.slice a s.tm.length c) s.tm :: row (kE .i64) 3 (.slice Z.z0.a Z.z0.l.length Z.z0.k) Z.z0.l :: row (kE .i64) 3 (.slice Z.z1.a Z.z1.l.length Z.z1.k) Z.z1.l :: row (kE .i64) 3 (.slice Z.z2.a Z.z2.l.length Z.z2.k) Z.z2.l :: row (kE .i64) 3 (.slice Z.z3.a Z.z3.l.length Z.z3.k) Z.z3.l :: H) → Calls Tryz.prog 9 #[vp k, vi par, vi wt] w (Ret (ι := Unit) (fun _ => .tuple #[vi (kspawn s par wt).1.1, vi (kspawn s par wt).1.2]) fun _ => rkS k (kspawn s par wt).2 :: H) := by
 have hw := hk.wf
 have hwL := hT.wf hw
 have hnx := hk.nx
 refine enterG (fn := Tryz.f9) 57 [vp k, vi par, vi wt] Tryz.func9 (by kernel_rfl) (by kernel_rfl) (by kernel_rfl) ?_
 refine Xq (Xg 2 (Xe [(0,vp k), (1,vi par), (2,vi wt), (6,vi 0), (7,vi 0)] ?_ 2))
 refine Xq (Xb 0 (Xq (Xg 4 (Xr [(0,vp k), (1,vi par), (2,vi wt), (6,vi 0), (7,vi 0), (9,vi wt)] ?_ 3 1))))
 refine Xs (Xa (some 10) (fun _ => .bool (isW wt)) (rIsW_walk _ wt)) (fun _ => ?_) 2
 refine Xe [(0,vp k), (1,vi par), (2,vi wt), (6,vi 0), (7,vi 0), (8,.bool (!(isW wt)))] ?_ 2
 cases hW : isW wt with
 | false =>
  refine Xc true (fun _ => ?_) (fun h => by cases h)
  refine Xq (Xg 2 (Xe [(0,vp k), (1,vi par), (2,vi wt), (6,vi 0), (7,vi 10)] ?_ 2))
  refine Xv (blockV (thenV ?_))
  have e : kspawn s par wt = ((0, 10), s) := by unfold kspawn kadds; rw [if_pos hW]; simp
  refine Y0 (.tuple #[vi 0, vi 10]) (fun w hs => ?_)
  exact ⟨(), by rw [e], by rw [e]; exact Sat.closeRk hk hT hZ hs⟩
 | true =>
  refine Xc false (fun h => by cases h) (fun _ => ?_)
  refine Xq (Xg 5 (Xr [(0,vp k), (1,vi par), (2,vi wt), (6,vi 0), (7,vi 0), (13,vp k), (14,vi par)] ?_ 3 2))
  refine Xs (Xa (some 15) (fun _ => .bool (isG s.N par)) ((by have h := rkgrp_walk (row tmE 141 (.slice a s.tm.length c) s.tm :: row (kE .i64) 3 (.slice Z.z0.a Z.z0.l.length Z.z0.k) Z.z0.l :: row (kE .i64) 3 (.slice Z.z1.a Z.z1.l.length Z.z1.k) Z.z1.l :: row (kE .i64) 3 (.slice Z.z2.a Z.z2.l.length Z.z2.k) Z.z2.l :: row (kE .i64) 3 (.slice Z.z3.a Z.z3.l.length Z.z3.k) Z.z3.l :: H) k t L a c s.tm Z s.mt s.mg (s.nx - 1) hwL par; rw [hT.isG hw] at h; exact h))) (fun _ => ?_) 2
  cases hG : isG s.N par with
  | false =>
   refine Xe [(0,vp k), (1,vi par), (2,vi wt), (6,vi 0), (7,vi 0), (12,.bool true)] ?_ 2
   refine Xc true (fun _ => ?_) (fun h => by cases h)
   refine Xq (Xg 2 (Xe [(0,vp k), (1,vi par), (2,vi wt), (6,vi 0), (7,vi 13)] ?_ 2))
   refine Xv (blockV (thenV ?_))
   have e : kspawn s par wt = ((0, 13), s) := by unfold kspawn; rw [kadds_13 hW hG]; simp
   refine Y0 (.tuple #[vi 0, vi 13]) (fun w hs => ?_)
   exact ⟨(), by rw [e], by rw [e]; exact Sat.closeRk hk hT hZ hs⟩
  | true =>
   obtain ⟨p, hp, hpt⟩ := isG_iff.1 hG
   refine Xe [(0,vp k), (1,vi par), (2,vi wt), (6,vi 0), (7,vi 0), (12,.bool false)] ?_ 2
   refine Xc false (fun h => by cases h) (fun _ => ?_)
   refine Xq (Xy0 0 [] 8 ?_)
   refine Xt [0, 2, 3, 4, 5] [(0,vp k), (1,vi par), (2,vi wt), (6,vi 0), (7,vi 0), (18,vp k), (23,vi s.mt)] [(⟨k, 10, none⟩, vi s.mt)] (hasC (ba 0) has0) ?_
   refine Xo 1 (Xa (some 19) (fun _ => vi (kcnt s.N true)) ((by have h := rkcount_walk (row tmE 141 (.slice a s.tm.length c) s.tm :: row (kE .i64) 3 (.slice Z.z0.a Z.z0.l.length Z.z0.k) Z.z0.l :: row (kE .i64) 3 (.slice Z.z1.a Z.z1.l.length Z.z1.k) Z.z1.l :: row (kE .i64) 3 (.slice Z.z2.a Z.z2.l.length Z.z2.k) Z.z2.l :: row (kE .i64) 3 (.slice Z.z3.a Z.z3.l.length Z.z3.k) Z.z3.l :: H) k t L a c s.tm Z s.mt s.mg (s.nx - 1) hwL true; rw [hT.cnt] at h; exact h))) (fun _ => ?_)
   refine Xt [6, 7] [(0,vp k), (1,vi par), (2,vi wt), (6,vi 0), (7,vi 0), (17,.bool (decide ((kcnt s.N true) ≥ s.mt)))] [] has0 ?_
   refine Xd (Xc (decide ((kcnt s.N true) ≥ s.mt)) (fun h3 => ?_) (fun h3 => ?_))
   ·skip
    have e := kspawn_full hW hp hpt (of_decide_eq_true h3)
    refine Xq (Xg 2 (Xe [(0,vp k), (1,vi par), (2,vi wt), (6,vi 0), (7,vi 14)] ?_ 2))
    refine Xv (blockV (thenV (Y0 (.tuple #[vi 0, vi 14]) (fun w hs => ?_))))
    exact ⟨(), by rw [e], by rw [e]; exact Sat.closeRk hk hT hZ hs⟩
   ·skip
    obtain ⟨e1, e2, e3⟩ := kspawn_at hk hW hp hpt (by have := of_decide_eq_false h3; omega)
    refine Xk (Xq (Xg 9 (Xl [(0,vp k), (1,vi par), (2,vi wt), (6,vi 0), (7,vi 0), (30,vi (IntKind.i64.wrap ((s.nx - 1) + 1))), (32,vq k 12)] [(⟨k, 12, none⟩, vi (s.nx - 1))] (hasC (ba 0) has0) ?_ 1 8)))
    refine Xs (Xz [(12,vi (IntKind.i64.wrap ((s.nx - 1) + 1)))]) (fun _ => ?_) 0
    refine endR ?_
    refine Xq (Xy0 0 [10] 11 ?_)
    refine Xt [0, 1, 2, 3, 4, 5, 6, 7, 8, 9] [(0,vp k), (6,vi 0), (7,vi 0), (36,vp t), (37,vi par), (41,vi (IntKind.i64.wrap ((s.nx - 1) + 1))), (42,vi wt)] [(⟨k, 0, none⟩, vp t), (⟨k, 12, none⟩, vi (IntKind.i64.wrap ((s.nx - 1) + 1)))] (hasC (ba 0) (hasC (ba 0) has0)) ?_
    rw [show IntKind.i64.wrap ((s.nx - 1) + 1) = ((s.nx - 1) + 1) by rw [w64 (by omega) (by omega)]]
    have e := kspawn_is hk hW hp hpt (by have := of_decide_eq_false h3; omega)
    rw [e] at e2
    have hA := hT.add hw par s.nx wt true
    have hAw := hA.2.wf (add_wf hw par s.nx wt true)
    have hB := hA.2.ready (add_wf hw par s.nx wt true) s.nx true
    rw [show ((s.nx - 1) + 1) = s.nx by omega]
    refine Xo 10 (Xa (some 43) (fun _ => vi (raddN L par s.nx wt true).1) (chg_at 1 rfl (radd_walk _ t L hwL par s.nx wt true))) (fun _ => ?_)
    refine Xd (Xq (Xy0 0 [8] 9 ?_))
    refine Xt [0, 1, 2, 3, 4, 5, 6, 7] [(0,vp k), (6,vi 0), (7,vi 0), (47,vp t), (51,vi s.nx)] [(⟨k, 0, none⟩, vp t), (⟨k, 12, none⟩, vi s.nx)] (hasC (ba 0) (hasC (ba 0) has0)) ?_
    refine Xo 8 (Xa (some 52) (fun _ => vi (readyN (raddN L par s.nx wt true).2 s.nx true).1) (chg_at 1 rfl (rready_walk _ t _ hAw s.nx true))) (fun _ => ?_)
    refine Xd (Xq (Xg 6 (Xm [(6,vi s.nx), (7,vi 0)] [(⟨k, 12, none⟩, vi s.nx)] (hasC (ba 0) has0) ?_ 6)))
    refine Xv (Y0 (.tuple #[vi s.nx, vi 0]) (fun w hs => ?_))
    exact ⟨(), by rw [e], by rw [e]; exact Sat.closeRl e2 hB.2 hZ (by simp only; omega) hs⟩
set_option maxHeartbeats 1000000 in
set_option maxRecDepth 100000 in
theorem rkgroup_walk (H : List SP) (k t : Nat) (L : List Nr) (a : Option Addr) (c : Nat) (Z : O4) (s : KS) (hk : KOk s) (hT : TRel s.N L) (hZ : Z.ob = s.ob) (hid : s.nx ≤ 1099511627776) (par wt : Int) : ∀ w, Sat w (blk k 55 [vp t, .slice a s.tm.length c, vi Z.z0.c, vi Z.z1.c, vi Z.z2.c, vi Z.z3.c, .slice Z.z0.a Z.z0.l.length Z.z0.k, .slice Z.z1.a Z.z1.l.length Z.z1.k, .slice Z.z2.a Z.z2.l.length Z.z2.k, .slice Z.z3.a Z.z3.l.length Z.z3.k, vi s.mt, vi s.mg, vi (s.nx - 1)] :: rtS t L :: row tmE 141 (.slice a s.tm.length c) s.tm :: row (kE .i64) 3 (.slice Z.z0.a Z.z0.l.length Z.z0.k) Z.z0.l :: row (kE .i64) 3 (.slice Z.z1.a Z.z1.l.length Z.z1.k) Z.z1.l :: row (kE .i64) 3 (.slice Z.z2.a Z.z2.l.length Z.z2.k) Z.z2.l :: row (kE .i64) 3 (.slice Z.z3.a Z.z3.l.length Z.z3.k) Z.z3.l :: H) → Calls Tryz.prog 11 #[vp k, vi par, vi wt] w (Ret (ι := Unit) (fun _ => .tuple #[vi (kgroup s par wt).1.1, vi (kgroup s par wt).1.2]) fun _ => rkS k (kgroup s par wt).2 :: H) := by
 have hw := hk.wf
 have hwL := hT.wf hw
 have hnx := hk.nx
 have hne : L ≠ [] := by obtain ⟨r, hr, _⟩ := hwL.sk.root; exact List.ne_nil_of_mem hr
 refine enterG (fn := Tryz.f11) 57 [vp k, vi par, vi wt] Tryz.func11 (by kernel_rfl) (by kernel_rfl) (by kernel_rfl) ?_
 refine Xq (Xg 2 (Xe [(0,vp k), (1,vi par), (2,vi wt), (6,vi 0), (7,vi 0)] ?_ 2))
 refine Xq (Xb 0 (Xq (Xg 4 (Xr [(0,vp k), (1,vi par), (2,vi wt), (6,vi 0), (7,vi 0), (9,vi wt)] ?_ 3 1))))
 refine Xs (Xa (some 10) (fun _ => .bool (isW wt)) (rIsW_walk _ wt)) (fun _ => ?_) 2
 refine Xe [(0,vp k), (1,vi par), (2,vi wt), (6,vi 0), (7,vi 0), (8,.bool (!(isW wt)))] ?_ 2
 cases hW : isW wt with
 | false =>
  refine Xc true (fun _ => ?_) (fun h => by cases h)
  refine Xq (Xg 2 (Xe [(0,vp k), (1,vi par), (2,vi wt), (6,vi 0), (7,vi 10)] ?_ 2))
  refine Xv (blockV (thenV ?_))
  have e : kgroup s par wt = ((0, 10), s) := by unfold kgroup kadds; rw [if_pos hW]
  refine Y0 (.tuple #[vi 0, vi 10]) (fun w hs => ?_)
  exact ⟨(), by rw [e], by rw [e]; exact Sat.closeRk hk hT hZ hs⟩
 | true =>
  refine Xc false (fun h => by cases h) (fun _ => ?_)
  refine Xq (Xg 5 (Xr [(0,vp k), (1,vi par), (2,vi wt), (6,vi 0), (7,vi 0), (13,vp k), (14,vi par)] ?_ 3 2))
  refine Xs (Xa (some 15) (fun _ => .bool (isG s.N par)) ((by have h := rkgrp_walk (row tmE 141 (.slice a s.tm.length c) s.tm :: row (kE .i64) 3 (.slice Z.z0.a Z.z0.l.length Z.z0.k) Z.z0.l :: row (kE .i64) 3 (.slice Z.z1.a Z.z1.l.length Z.z1.k) Z.z1.l :: row (kE .i64) 3 (.slice Z.z2.a Z.z2.l.length Z.z2.k) Z.z2.l :: row (kE .i64) 3 (.slice Z.z3.a Z.z3.l.length Z.z3.k) Z.z3.l :: H) k t L a c s.tm Z s.mt s.mg (s.nx - 1) hwL par; rw [hT.isG hw] at h; exact h))) (fun _ => ?_) 2
  cases hG : isG s.N par with
  | false =>
   refine Xe [(0,vp k), (1,vi par), (2,vi wt), (6,vi 0), (7,vi 0), (12,.bool true)] ?_ 2
   refine Xc true (fun _ => ?_) (fun h => by cases h)
   refine Xq (Xg 2 (Xe [(0,vp k), (1,vi par), (2,vi wt), (6,vi 0), (7,vi 13)] ?_ 2))
   refine Xv (blockV (thenV ?_))
   have e : kgroup s par wt = ((0, 13), s) := by unfold kgroup; rw [kadds_13 hW hG]
   refine Y0 (.tuple #[vi 0, vi 13]) (fun w hs => ?_)
   exact ⟨(), by rw [e], by rw [e]; exact Sat.closeRk hk hT hZ hs⟩
  | true =>
   obtain ⟨p, hp, hpt⟩ := isG_iff.1 hG
   refine Xe [(0,vp k), (1,vi par), (2,vi wt), (6,vi 0), (7,vi 0), (12,.bool false)] ?_ 2
   refine Xc false (fun h => by cases h) (fun _ => ?_)
   refine Xq (Xy0 0 [] 8 ?_)
   refine Xt [0, 2, 3, 4, 5] [(0,vp k), (1,vi par), (2,vi wt), (6,vi 0), (7,vi 0), (18,vp k), (23,vi s.mg)] [(⟨k, 11, none⟩, vi s.mg)] (hasC (ba 0) has0) ?_
   refine Xo 1 (Xa (some 19) (fun _ => vi (kcnt s.N false)) ((by have h := rkcount_walk (row tmE 141 (.slice a s.tm.length c) s.tm :: row (kE .i64) 3 (.slice Z.z0.a Z.z0.l.length Z.z0.k) Z.z0.l :: row (kE .i64) 3 (.slice Z.z1.a Z.z1.l.length Z.z1.k) Z.z1.l :: row (kE .i64) 3 (.slice Z.z2.a Z.z2.l.length Z.z2.k) Z.z2.l :: row (kE .i64) 3 (.slice Z.z3.a Z.z3.l.length Z.z3.k) Z.z3.l :: H) k t L a c s.tm Z s.mt s.mg (s.nx - 1) hwL false; rw [hT.cnt] at h; exact h))) (fun _ => ?_)
   refine Xt [6, 7] [(0,vp k), (1,vi par), (2,vi wt), (6,vi 0), (7,vi 0), (17,.bool (decide ((kcnt s.N false) ≥ s.mg)))] [] has0 ?_
   refine Xd (Xc (decide ((kcnt s.N false) ≥ s.mg)) (fun h3 => ?_) (fun h3 => ?_))
   ·skip
    have e := kgroup_full hW hp hpt (of_decide_eq_true h3)
    refine Xq (Xg 2 (Xe [(0,vp k), (1,vi par), (2,vi wt), (6,vi 0), (7,vi 14)] ?_ 2))
    refine Xv (blockV (thenV (Y0 (.tuple #[vi 0, vi 14]) (fun w hs => ?_))))
    exact ⟨(), by rw [e], by rw [e]; exact Sat.closeRk hk hT hZ hs⟩
   ·skip
    have h3' : kcnt s.N false < s.mg := by have := of_decide_eq_false h3; omega
    have hdl := deepN_le 6 s.N par
    refine Xq (Xg 9 (Xl [(0,vp k), (1,vi par), (2,vi wt), (6,vi 0), (7,vi 0), (29,vp t), (30,vi par)] [(⟨k, 0, none⟩, vp t)] (hasC (ba 0) has0) ?_ 4 5))
    refine Xs (Xa (some 31) (fun _ => vi (deepN 6 s.N par : Int)) (chg_at 1 rfl (by have h := fun H' => rtDeep8 H' t L hwL.sk par; rw [← hT.deep hw] at h; exact h _))) (fun _ => ?_) 3
    refine Xe [(0,vp k), (1,vi par), (2,vi wt), (6,vi 0), (7,vi 0), (25,.bool (decide ((IntKind.i64.wrap ((deepN 6 s.N par : Int) + 1)) > 4)))] ?_ 3
    rw [show IntKind.i64.wrap ((deepN 6 s.N par : Int) + 1) = ((deepN 6 s.N par : Int) + 1) by rw [w64 (by omega) (by omega)]]
    refine Xc (decide (((deepN 6 s.N par : Int) + 1) > 4)) (fun h4 => ?_) (fun h4 => ?_)
    ·skip
     have e := kgroup_12 hk hW hp hpt (by have := of_decide_eq_true h4; omega) h3'
     refine Xq (Xg 2 (Xe [(0,vp k), (1,vi par), (2,vi wt), (6,vi 0), (7,vi 12)] ?_ 2))
     refine Xv (blockV (thenV (Y0 (.tuple #[vi 0, vi 12]) (fun w hs => ?_))))
     exact ⟨(), by rw [e], by rw [e]; exact Sat.closeRk hk hT hZ hs⟩
    ·skip
     have h4' : deepN 6 s.N par < 4 := by have := of_decide_eq_false h4; omega
     have e := kgroup_is hk hW hp hpt h4' h3'
     have e2 := kgroup_ok hk par wt
     rw [e] at e2
     have hA := hT.add hw par s.nx wt false
     refine Xk (Xq (Xg 9 (Xl [(0,vp k), (1,vi par), (2,vi wt), (6,vi 0), (7,vi 0), (39,vi (IntKind.i64.wrap ((s.nx - 1) + 1))), (41,vq k 12)] [(⟨k, 12, none⟩, vi (s.nx - 1))] (hasC (ba 0) has0) ?_ 1 8)))
     refine Xs (Xz [(12,vi (IntKind.i64.wrap ((s.nx - 1) + 1)))]) (fun _ => ?_) 0
     refine endR ?_
     refine Xq (Xy0 0 [10] 11 ?_)
     refine Xt [0, 1, 2, 3, 4, 5, 6, 7, 8, 9] [(0,vp k), (6,vi 0), (7,vi 0), (45,vp t), (46,vi par), (50,vi (IntKind.i64.wrap ((s.nx - 1) + 1))), (51,vi wt)] [(⟨k, 0, none⟩, vp t), (⟨k, 12, none⟩, vi (IntKind.i64.wrap ((s.nx - 1) + 1)))] (hasC (ba 0) (hasC (ba 0) has0)) ?_
     rw [show IntKind.i64.wrap ((s.nx - 1) + 1) = ((s.nx - 1) + 1) by rw [w64 (by omega) (by omega)]]
     rw [show ((s.nx - 1) + 1) = s.nx by omega]
     refine Xo 10 (Xa (some 52) (fun _ => vi (raddN L par s.nx wt false).1) (chg_at 1 rfl (radd_walk _ t L hwL par s.nx wt false))) (fun _ => ?_)
     refine Xd (Xq (Xg 6 (Xm [(6,vi s.nx), (7,vi 0)] [(⟨k, 12, none⟩, vi s.nx)] (hasC (ba 0) has0) ?_ 6)))
     refine Xv (Y0 (.tuple #[vi s.nx, vi 0]) (fun w hs => ?_))
     exact ⟨(), by rw [e], by rw [e]; exact Sat.closeRl e2 hA.2 hZ (by simp only; omega) hs⟩
end Go.Proofs.YtlhjibkkkhgonaaGreatDoor
