/- Texts put together: The document's strides, Fair. Trees: what laws say of two in one group. Trees: waking, when nothing has run yet. A tree as one part of memory: its operations. Trees: threads in the root, by turns, by counting. Trees: threads of the root that are ready all along, whatever others do. Trees: numbers of nodes stay below a bound; the told nodes. Timers, plainly. A kernel's state, plainly: what its operations make of it; what holds of it all the time. Rings, boxes, purses, ledgers, latches, plainly. Labels: label.Leq, tontineref1.Leq. check: who may what. G: make of rows. A latch as one part of memory: its operations. slices.Insert, slices.Delete of one element at rows of api.Record. A ring as one part of memory: its operations. slices.Insert, slices.Delete of one element at rows of api.Letter. Conditions: none. -/
import Derived.Test.YtfhkgohokbkgiaaGreatDoorMgWb2
import Derived.Deep.OwnRows
set_option linter.unusedVariables false
set_option linter.unusedSimpArgs false
namespace Go.Proofs.YtfhkgohokbkgiaaGreatDoor
open Go.RowKit G
set_option maxRecDepth 100000 in
theorem rIsW_walk (H : List SP) (w_ : Int) : ∀ w, Sat w H → Calls Tryz.prog 146 #[vi w_] w (Ret (ι := Unit) (fun _ => .bool (isW w_)) fun _ => H) := by
 refine enterG (fn := Tryz.f146) 9 [vi w_] Tryz.func146 (by kernel_rfl) (by kernel_rfl) (by kernel_rfl) ?_
 refine Xq (Xg 1 (Xe [(0,vi w_), (2,.bool false)] ?_ 1))
 refine Xq (Xg 7 (Xr [(0,vi w_), (2,.bool false), (5,.bool (decide (w_ ≥ 1)))] ?_ 4 3))
 refine (Xs0 1 3 [(2,.bool false), (8,.bool ((decide (w_ ≥ 1)) && (decide (w_ ≤ 16))))] ?_ ?_ : RT _ _ _ _ _ _ 4 _)
 ·cases hg3 : (decide (w_ ≥ 1)) with
  | true =>
   refine Xe [(2,.bool false), (8,.bool (decide (w_ ≤ 16)))] ?_ 3
   refine Xp [(2,.bool false), (8,.bool (true && (decide (w_ ≤ 16))))] ?_
   exact midR () rfl rfl
  | false =>
   refine Xe [(2,.bool false), (8,.bool false)] ?_ 3
   refine Xp [(2,.bool false), (8,.bool (false && (decide (w_ ≤ 16))))] ?_
   exact midR () rfl rfl
 refine Xe [(2,.bool ((decide (w_ ≥ 1)) && (decide (w_ ≤ 16))))] ?_ 1
 refine Xv (Y0 (.bool ((decide (w_ ≥ 1)) && (decide (w_ ≤ 16)))) (fun w hs => ?_))
 exact ⟨(), rfl, hs⟩
set_option maxRecDepth 100000 in
theorem rOf_walk (H : List SP) (w_ : Int) : ∀ w, Sat w H → Calls Tryz.prog 106 #[vi w_] w (Ret (ι := Unit) (fun _ => vi (strd w_)) fun _ => H) := by
 refine enterG (fn := Tryz.f106) 8 [vi w_] Tryz.func106 (by kernel_rfl) (by kernel_rfl) (by kernel_rfl) ?_
 refine Xq (Xg 1 (Xe [(0,vi w_), (2,vi 0)] ?_ 1))
 refine Xq (Xq (Xg 3 (Xr [(0,vi w_), (2,vi 0), (3,vi w_)] ?_ 2 1)))
 refine Xs (Xa (some 4) (fun _ => .bool (isW w_)) (rIsW_walk _ w_)) (fun _ => ?_) 1
 refine Xe [(0,vi w_), (2,vi 0), (5,.bool (!(isW w_)))] ?_ 1
 refine Xc (!(isW w_)) (fun h1 => ?_) (fun h1 => ?_)
 ·skip
  refine Xq (Xg 1 (Xe [(0,vi w_), (2,vi 0)] ?_ 1))
  refine Xv (thenV (Y0 (vi 0) (fun w hs => ?_)))
  exact ⟨(), by rw [strd, if_neg (by simpa using h1)], hs⟩
 ·skip
  refine Xk (Xq (Xg 3 (Xr [(2,vi 0), (6,vi w_)] ?_ 2 1)))
  have hw : isW w_ = true := by simpa using h1
  refine Xs (yldS (binY .quo 3 3 (.const (.int .i64 720720)) (.tmp 6) (.int .i64 720720) (.int .i64 w_) (.int .i64 (IntKind.i64.wrap ((720720 : Int).tdiv w_))) (some 7) (fun _ => by kernel_rfl) (by kernel_rfl) (by kernel_rfl) (fun _ => by kernel_rfl) (fun _ => by kernel_rfl) (quoR (t' := 0) (by have := isW_cases hw; omega)))) (fun _ => ?_) 1
  refine Xe [(2,vi (IntKind.i64.wrap ((720720 : Int).tdiv w_)))] ?_ 1
  refine Xv (Y0 (vi (IntKind.i64.wrap ((720720 : Int).tdiv w_))) (fun w hs => ?_))
  exact ⟨(), by rw [show IntKind.i64.wrap ((720720 : Int).tdiv w_) = strd w_ from ?_]; rw [strd, if_pos hw]; have h2 := strd_pos hw; rw [strd, if_pos hw] at h2; exact w64 (by omega) (by omega), hs⟩
def fairB (n a m b : Int) : Bool := decide (n * strd a - m * strd b ≤ strd a + strd b) && decide (0 - (n * strd a - m * strd b) ≤ strd a + strd b)
end Go.Proofs.YtfhkgohokbkgiaaGreatDoor
set_option linter.unusedVariables false
set_option linter.unusedSimpArgs false
namespace Go.Proofs.YtfhkgohokbkgiaaGreatDoor
open Go.RowKit G
/-- What Run leaves of a node: who it is, what it weighs, whether it is ready. -/
def skr (x : Nr) : Int × Int × Int × Bool × Bool := (x.id, x.par, x.wt, x.thr, x.rdy)
theorem Still.skr {g : Nr → Nr} (h : Still g) (N : List Nr) : (N.map g).map skr = N.map skr := by
  rw [List.map_map]
  refine List.map_congr_left fun x _ => ?_
  simp only [Function.comp, Go.Proofs.YtfhkgohokbkgiaaGreatDoor.skr, h.sk.id, h.sk.par, h.sk.thr, h.rdy, h.wt]
theorem skr_mem {N : List Nr} {S : List (Int × Int × Int × Bool × Bool)} (h : N.map skr = S) {z : Nr} (hz : z ∈ N) : (z.id, z.par, z.wt, z.thr, z.rdy) ∈ S := h ▸ List.mem_map.2 ⟨z, hz, rfl⟩
theorem skr_get {N : List Nr} {S : List (Int × Int × Int × Bool × Bool)} (h : N.map skr = S) {i p w : Int} {t r : Bool} (hs : (i, p, w, t, r) ∈ S) : ∃ z ∈ N, z.id = i ∧ z.par = p ∧ z.wt = w ∧ z.thr = t ∧ z.rdy = r := by
  rw [← h] at hs
  obtain ⟨z, hz, e⟩ := List.mem_map.1 hs
  simp only [skr, Prod.mk.injEq] at e
  exact ⟨z, hz, e⟩
def ps (N : List Nr) (k : Int) : Int := ((gt N k).map (·.pass)).getD 0
theorem ps_of {N : List Nr} (hn : (N.map (·.id)).Nodup) {z : Nr} (hz : z ∈ N) : ps N z.id = z.pass := by rw [ps, gt_of hn hz]; rfl
theorem bel_leaf {N : List Nr} {k t : Int} (h : Bel N k t) (hn : ∀ z ∈ N, z.par ≠ k) : t = k := by
  cases h with
  | refl => rfl
  | step hy hp _ => exact absurd hp (hn _ hy)
/-- Two that are ready in one group: how far their passes lie apart. -/
theorem two_in {N : List Nr} (hw : WFN N) {a b p : Nr} (ha : a ∈ N) (hb : b ∈ N) (hp : p ∈ N) (hpa : p.id = a.par) (hpb : p.id = b.par) (hra : a.rdy = true) (hrb : b.rdy = true) : ps N a.id - ps N b.id ≤ strd a.wt ∧ ps N b.id - ps N a.id ≤ strd b.wt := by
  rw [ps_of hw.sk.nd ha, ps_of hw.sk.nd hb]
  have h1 := hw.pn a ha p hp hpa
  have h2 := hw.pn b hb p hp hpb
  have h3 := h1.2 hra
  have h4 := h2.2 hrb
  omega
/-- A run, of those in the root that are ready: the one that is chosen goes on by its stride. -/
theorem run_ps {N : List Nr} (hw : WFN N) {r : Nr} (hr : r ∈ N) (hri : r.id = 0) (hrd : r.rdy = true) : ∃ (y : Nr) (id : Int) (N' : List Nr), runN N = ((id, true), N') ∧ WFN N' ∧ N'.map skr = N.map skr ∧ y ∈ N ∧ y.par = 0 ∧ y.rdy = true ∧ (∃ t ∈ N, t.id = id ∧ t.thr = true ∧ t.rdy = true) ∧ Bel N y.id id ∧
    ∃ δ : Int, ∀ z ∈ N, z.par = 0 → z.rdy = true → ps N' z.id = ps N z.id + (if z.id = y.id then strd y.wt else 0) - δ := by
  obtain ⟨y, id, g, h1, h2, h3, h4, ⟨t, ht, hti, htt, htr, hb⟩, δ, hd⟩ := run_root hw (hri ▸ gt_of hw.sk.nd hr) hrd
  obtain ⟨hy, _⟩ := least_some h4
  obtain ⟨hyN, hyp, hyr⟩ := mem_kidR.1 hy
  refine ⟨y, id, N.map g, h1, h3, h2.skr N, hyN, hyp, hyr, ⟨t, ht, hti, htt, htr⟩, hb, δ, fun z hz hzp hzr => ?_⟩
  have e1 : ps (N.map g) z.id = (g z).pass := by
    have := ps_of h3.sk.nd (z := g z) (List.mem_map.2 ⟨z, hz, rfl⟩)
    rw [h2.sk.id] at this; exact this
  rw [e1, ps_of hw.sk.nd hz]
  exact hd z hz hzp hzr
def wOf (a : Int) : Int := a.tmod 16 + 1
theorem tmod_range {a m : Int} (h0 : 0 ≤ a) (hm : 0 < m) : 0 ≤ a.tmod m ∧ a.tmod m < m := by
  rw [Int.tmod_eq_emod_of_nonneg h0]
  exact ⟨Int.emod_nonneg _ (by omega), Int.emod_lt_of_pos _ hm⟩
theorem wOf_isW {a : Int} (h : 0 ≤ a) : isW (wOf a) = true := by
  have := tmod_range h (m := 16) (by omega)
  show (decide (a.tmod 16 + 1 ≥ 1) && decide (a.tmod 16 + 1 ≤ 16)) = true
  rw [decide_eq_true (by omega), decide_eq_true (by omega)]; rfl
theorem wOf_wrap {a : Int} (h : 0 ≤ a) : IntKind.i64.wrap ((IntKind.i64.wrap (Int.tmod a 16)) + 1) = wOf a := by
  have := tmod_range h (m := 16) (by omega)
  rw [w64 (n := Int.tmod a 16) (by omega) (by omega), w64 (n := Int.tmod a 16 + 1) (by omega) (by omega)]; rfl
/-- By counting: what is within the strides stays fair. -/
theorem fair_by {n m a b D E : Int} (h1 : D = E + (n * strd a - m * strd b)) (h2 : D ≤ strd a ∧ 0 - D ≤ strd b) (h3 : E ≤ strd a ∧ 0 - E ≤ strd b) : fairB n a m b = true := by
  simp only [fairB, Bool.and_eq_true, decide_eq_true_eq]
  omega
/-- No thread is ready: none runs. -/
theorem no_run {N : List Nr} (hw : WFN N) (h : ∀ t ∈ N, t.thr = true → t.rdy = false) : runN N = ((0, false), N) := by
  obtain ⟨r, hr, hr0⟩ := hw.sk.root
  have hg : gt N 0 = some r := hr0 ▸ gt_of hw.sk.nd hr
  cases hrd : r.rdy with
  | true =>
    obtain ⟨_, _, _, _, _, _, _, ⟨t, ht, _, htt, htr, _⟩, _⟩ := run_root hw hg hrd
    rw [h t ht htt] at htr; cases htr
  | false => rw [runN, hg]; simp only [hrd, Bool.false_eq_true, if_false]
theorem addN_is {N : List Nr} {par id wt : Int} {thr : Bool} {p : Nr} (hw : isW wt = true) (hid : 1 ≤ id) (hp : gt N par = some p) (hpt : p.thr = false) (hno : gt N id = none) (hd : thr = true ∨ deepN 6 N par < 4) (hl : N.length < 60) : addN N par id wt thr = (0, N ++ [⟨id, par, wt, p.now, thr, false, 0⟩]) := by
  rw [addN, if_neg (by rw [hw]; simp; omega), hp]
  simp only
  rw [if_neg (by rw [hpt]; simp), if_neg (by rw [hno]; simp), if_neg (by rintro ⟨h1, h2⟩; rcases hd with h | h; (rw [h1] at h; cases h); omega), if_neg (by omega)]
theorem wake_up {N : List Nr} {k : Int} {x p : Nr} (hg : gt N k = some x) (hr : x.rdy = false) (hp : gt N x.par = some p) (hpr : p.rdy = true) (hne : x.par ≠ k) : wakeN 6 N k = upN N k (wkF p.now) := by
  rw [wakeN, hg]
  simp only [hr, Bool.false_eq_true, if_false, hp]
  show wakeN 5 (upN N k (wkF p.now)) x.par = _
  rw [wakeN, gt_upN (f := wkF p.now) (fun _ => rfl), if_neg hne, hp]
  simp only [hpr, if_true]
theorem up_skr {N : List Nr} {k P : Int} : (upN N k (wkF P)).map skr = (N.map skr).map (fun s => if s.1 == k then (s.1, s.2.1, s.2.2.1, s.2.2.2.1, true) else s) := by
  rw [upN, List.map_map, List.map_map]
  refine List.map_congr_left fun x _ => ?_
  simp only [Function.comp, skr]
  split <;> simp_all [wkF, skr]
end Go.Proofs.YtfhkgohokbkgiaaGreatDoor
set_option linter.unusedVariables false
set_option linter.unusedSimpArgs false
namespace Go.Proofs.YtfhkgohokbkgiaaGreatDoor
open Go.RowKit G
/-- What waking leaves: who is ready stays so; passes that are none stay so. -/
structure Wk (N : List Nr) (g : Nr → Nr) : Prop where
  sk : Skel g
  wt : ∀ x, (g x).wt = x.wt ∧ (g x).now = x.now
  rdy : ∀ x, x.rdy = true → (g x).rdy = true
  zero : (∀ z ∈ N, z.pass = 0 ∧ z.now = 0) → ∀ z ∈ N, (g z).pass = 0
theorem Wk.same (N : List Nr) : Wk N (fun x => x) := ⟨Skel.same, fun _ => ⟨rfl, rfl⟩, fun _ h => h, fun h z hz => (h z hz).1⟩
theorem wake_wk : ∀ (f : Nat) (N : List Nr) (k : Int), ∃ g, Wk N g ∧ wakeN f N k = N.map g ∧ (0 < f → ∀ z ∈ N, (N.map (·.id)).Nodup → z.id = k → (g z).rdy = true)
  | 0, N, k => ⟨fun x => x, Wk.same N, by simp [wakeN], fun h => by omega⟩
  | f + 1, N, k => by
    rw [wakeN]
    cases hg : gt N k with
    | none => exact ⟨fun x => x, Wk.same N, by simp, fun _ z hz _ e => absurd e (gt_none.1 hg z hz)⟩
    | some x0 =>
      obtain ⟨hx0, hk0⟩ := gt_mem hg
      simp only
      by_cases hr : x0.rdy = true
      · rw [if_pos hr]
        exact ⟨fun x => x, Wk.same N, by simp, fun _ z hz hn e => by have := nd_eq hn hz hx0 (by rw [e, hk0]); subst this; exact hr⟩
      · rw [if_neg hr]
        cases hp : gt N x0.par with
        | none =>
          refine ⟨fun x => if x.id == k then { x with rdy := true } else x, ⟨skel_ite (f := fun x => { x with rdy := true }) skF, fun x => by by_cases c : (x.id == k) = true <;> simp [c], fun x h => by by_cases c : (x.id == k) = true <;> simp [c, h], fun h z hz => by have := (h z hz).1; by_cases c : (z.id == k) = true <;> simp [c, this]⟩, rfl, fun _ z hz _ e => by simp [e]⟩
        | some p =>
          obtain ⟨hpN, _⟩ := gt_mem hp
          simp only
          have w0 : Wk N (fun x => if x.id == k then wkF p.now x else x) := ⟨skel_ite (wkF_skel p.now), fun x => by by_cases c : (x.id == k) = true <;> simp [c, wkF], fun x h => by by_cases c : (x.id == k) = true <;> simp [c, wkF, h], fun h z hz => by
            have h1 := (h z hz).1
            have h2 := (h p hpN).2
            by_cases c : (z.id == k) = true
            · simp only [c, if_true, wkF, h1, h2]; rfl
            · simp [c, h1]⟩
          obtain ⟨g, hw, he, _⟩ := wake_wk f (upN N k (wkF p.now)) x0.par
          refine ⟨fun x => g (if x.id == k then wkF p.now x else x), ⟨w0.sk.comp hw.sk, fun x => by rw [(hw.wt _).1, (hw.wt _).2]; exact w0.wt x, fun x h => hw.rdy _ (w0.rdy x h), fun h z hz => ?_⟩, ?_, fun _ z hz _ e => ?_⟩
          · refine hw.zero (fun v hv => ?_) _ (List.mem_map.2 ⟨z, hz, rfl⟩)
            obtain ⟨u, hu, rfl⟩ := List.mem_map.1 hv
            exact ⟨w0.zero h u hu, by rw [(w0.wt u).2]; exact (h u hu).2⟩
          · have e : wakeN f (upN N k fun x => { x with rdy := true, pass := mxI x.pass p.now }) x0.par = _ := he
            rw [e, upN, List.map_map]; rfl
          · exact hw.rdy _ (by simp [e, wkF])
end Go.Proofs.YtfhkgohokbkgiaaGreatDoor
set_option linter.unusedVariables false
set_option linter.unusedSimpArgs false
namespace Go.Proofs.YtfhkgohokbkgiaaGreatDoor
open Go.RowKit G
namespace G
/-- Several parts as one. -/
def manyS : List SP → SP
 | [] => pureS True
 | P :: l => two P (manyS l)
theorem Sat.openMany : ∀ {l H : List SP} {w : World}, Sat w (manyS l :: H) → Sat w (l ++ H)
 | [], _, _, h => (Sat.openPure h).2
 | P :: l, H, w, h => Sat.perm (List.perm_middle (a := P) (l₁ := l) (l₂ := H)) (Sat.openMany (l := l) (H := P :: H) (Sat.perm (List.Perm.swap _ _ _) (Sat.openTwo h)))
theorem Sat.closeMany : ∀ {l H : List SP} {w : World}, Sat w (l ++ H) → Sat w (manyS l :: H)
 | [], _, _, h => Sat.closePure trivial h
 | P :: l, H, w, h => Sat.closeTwo (Sat.perm (List.Perm.swap _ _ _) (Sat.closeMany (l := l) (H := P :: H) (Sat.perm (List.perm_middle (a := P) (l₁ := l) (l₂ := H)).symm h)))
end G
/-- A tree at t, whose nodes are N. -/
def treeS (t : Nat) (N : List Nr) : SP := exS fun p : Nat × List Nd => two (pureS (OkT N p.2 ∧ WFN N)) (manyS (blk t 210 [.map (some p.1)] :: mapS p.1 (p.2.map kp) :: nodesL p.2))
theorem Sat.openTree {t : Nat} {N : List Nr} {H : List SP} {w : World} (h : Sat w (treeS t N :: H)) : ∃ mb T, OkT N T ∧ WFN N ∧ Sat w (blk t 210 [.map (some mb)] :: mapS mb (T.map kp) :: (nodesL T ++ H)) := by
 obtain ⟨⟨mb, T⟩, h⟩ := Sat.openEx h
 obtain ⟨⟨hT, hw⟩, h⟩ := Sat.openPure (Sat.openTwo h)
 exact ⟨mb, T, hT, hw, Sat.openMany h⟩
theorem Sat.closeTree {t mb : Nat} {N : List Nr} {T : List Nd} {H : List SP} {w : World} (hT : OkT N T) (hw : WFN N) (h : Sat w (blk t 210 [.map (some mb)] :: mapS mb (T.map kp) :: (nodesL T ++ H))) : Sat w (treeS t N :: H) :=
 Sat.closeEx (mb, T) (Sat.closeTwo (Sat.closePure ⟨hT, hw⟩ (Sat.closeMany (l := blk t 210 [.map (some mb)] :: mapS mb (T.map kp) :: nodesL T) h)))
theorem treeAt {t : Nat} {N : List Nr} {H : List SP} (i : Nat) (hi : H[i]? = some (treeS t N)) : ∀ w, Sat w H → WFN N := fun w hs => by
 obtain ⟨_, _, _, h, _⟩ := Sat.openTree (Sat.pick i hi hs)
 exact h
theorem rowCell {α : Type} {E : Enc α} {T : TypeId} {H : List SP} (i : Nat) {b o m k : Nat} {xs : List α} (hi : H[i]? = some (row E T (.slice (some ⟨b, o, none⟩) m k) xs)) {J j : Nat} {x : α} {u : Value} (hx : xs[J]? = some x) (hu : (E.enc x)[j]? = some u) : ∀ w, Sat w H → w.cell? ⟨b, o + J * E.k + j, none⟩ = some u := by
 intro w hs
 obtain ⟨G, hG⟩ := (Sat.pick i hi hs).head
 have hme : m = xs.length := hG.lenEq
 subst hme
 exact (rowKRat (A := some ⟨b, o, none⟩) (k := k) (E := E) (T := T) (xs := xs) i hi).cell rfl hx hu w hs
section
variable (H : List SP) (t : Nat) (N : List Nr)
theorem trNew : ∀ w, Sat w H → Calls Tryz.prog 77 #[] w (Ret (ι := Nat) (fun t => vp t) fun t => treeS t [rootN] :: H) := fun w hs =>
 (tnew_walk H w hs).mono fun e w' ⟨x, he, hx⟩ => ⟨x.1, he, Sat.closeTree (root_ok x.2.2.1 x.2.2.2) root_wf hx⟩
theorem trAdd (par id wt : Int) (thr : Bool) : ∀ w, Sat w (treeS t N :: H) → Calls Tryz.prog 173 #[vp t, vi par, vi id, vi wt, .bool thr] w (Ret (ι := Unit) (fun _ => pqErr (addN N par id wt thr).1) fun _ => treeS t (addN N par id wt thr).2 :: H) := fun w hs => by
 obtain ⟨mb, T, hT, hw, hs⟩ := Sat.openTree hs
 exact (add_walk hT hw.sk H t mb par id wt thr w hs).mono fun e w' ⟨⟨T', hT'⟩, he, hx⟩ => ⟨(), he, Sat.closeTree hT' (add_wf hw par id wt thr) hx⟩
theorem trReady (id : Int) (r : Bool) : ∀ w, Sat w (treeS t N :: H) → Calls Tryz.prog 60 #[vp t, vi id, .bool r] w (Ret (ι := Unit) (fun _ => pqErr (readyN N id r).1) fun _ => treeS t (readyN N id r).2 :: H) := fun w hs => by
 obtain ⟨mb, T, hT, hw, hs⟩ := Sat.openTree hs
 exact (ready_walk hT hw.sk hw.lb H t mb id r w hs).mono fun e w' ⟨⟨T', hT', _⟩, he, hx⟩ => ⟨(), he, Sat.closeTree hT' (ready_wf hw id r) hx⟩
theorem trWeight (id W : Int) : ∀ w, Sat w (treeS t N :: H) → Calls Tryz.prog 185 #[vp t, vi id, vi W] w (Ret (ι := Unit) (fun _ => pqErr (weightN N id W).1) fun _ => treeS t (weightN N id W).2 :: H) := fun w hs => by
 obtain ⟨mb, T, hT, hw, hs⟩ := Sat.openTree hs
 exact (weight_walk hT hw H t mb id W w hs).mono fun e w' ⟨⟨T', hT', _⟩, he, hx⟩ => ⟨(), he, Sat.closeTree hT' (weight_wf hw id W) hx⟩
theorem trRemove (id : Int) : ∀ w, Sat w (treeS t N :: H) → Calls Tryz.prog 181 #[vp t, vi id] w (Ret (ι := Unit) (fun _ => pqErr (removeN N id).1) fun _ => treeS t (removeN N id).2 :: H) := fun w hs => by
 obtain ⟨mb, T, hT, hw, hs⟩ := Sat.openTree hs
 exact (remove_walk hT hw.sk hw.lb H t mb id w hs).mono fun e w' ⟨⟨T', hT'⟩, he, hx⟩ => ⟨(), he, Sat.closeTree hT' (remove_wf hw id) hx⟩
theorem trRun : ∀ w, Sat w (treeS t N :: H) → Calls Tryz.prog 70 #[vp t] w (Ret (ι := Unit) (fun _ => .tuple #[vi (runN N).1.1, .bool (runN N).1.2]) fun _ => treeS t (runN N).2 :: H) := fun w hs => by
 obtain ⟨mb, T, hT, hw, hs⟩ := Sat.openTree hs
 exact (run_walk hT hw H t mb w hs).mono fun e w' ⟨⟨T', hT', _⟩, he, hx⟩ => ⟨(), he, Sat.closeTree hT' (run_wf hw) hx⟩
theorem trNodes (hid : ∀ x ∈ N, x.id ≤ 9223372036854775807) : ∀ w, Sat w (treeS t N :: H) → Calls Tryz.prog 57 #[vp t] w (Ret (ι := Option Addr × Nat) (fun x => .slice x.1 (nodesN N).length x.2) fun x => row nE 147 (.slice x.1 (nodesN N).length x.2) (nodesN N) :: treeS t N :: H) := fun w hs => by
 obtain ⟨mb, T, hT, hw, hs⟩ := Sat.openTree hs
 refine (nodes_walk hT hw.sk hid H t mb w hs).mono fun e w' ⟨x, he, hx⟩ => ⟨x, he, ?_⟩
 have h1 := Sat.perm (List.perm_middle (a := row nE 147 (.slice x.1 (nodesN N).length x.2) (nodesN N)) (l₁ := blk t 210 [.map (some mb)] :: mapS mb (T.map kp) :: nodesL T) (l₂ := H)).symm hx
 exact Sat.perm (List.Perm.swap _ _ _) (Sat.closeTree hT hw h1)
theorem trDeep (id : Int) : ∀ w, Sat w (treeS t N :: H) → Calls Tryz.prog 199 #[vp t, vi id] w (Ret (ι := Unit) (fun _ => vi (deepN 6 N id : Int)) fun _ => treeS t N :: H) := fun w hs => by
 obtain ⟨mb, T, hT, hw, hs⟩ := Sat.openTree hs
 exact (deep_walk hT hw.sk H t mb id w hs).mono fun e w' ⟨_, he, hx⟩ => ⟨(), he, Sat.closeTree hT hw hx⟩
theorem trNode (id : Int) : ∀ w, Sat w (treeS t N :: H) → Calls Tryz.prog 58 #[vp t, vi id] w (Ret (ι := Unit) (fun _ => .tuple #[ndV ((gt N id).getD zeroN), .bool (gt N id).isSome]) fun _ => treeS t N :: H) := fun w hs => by
 obtain ⟨mb, T, hT, hw, hs⟩ := Sat.openTree hs
 exact (node_walk hT hw.sk.nd H t mb id w hs).mono fun e w' ⟨_, he, hx⟩ => ⟨(), he, Sat.closeTree hT hw hx⟩
end
section
variable {N N' : List Nr} (H : List SP) (t : Nat)
theorem trAdd_ok {par id wt : Int} {thr : Bool} (h : addN N par id wt thr = (0, N')) : ∀ w, Sat w (treeS t N :: H) → Calls Tryz.prog 173 #[vp t, vi par, vi id, vi wt, .bool thr] w (Ret (ι := Unit) (fun _ => .nilIface) fun _ => treeS t N' :: H) := by
 have := trAdd H t N par id wt thr; rw [h] at this; exact this
theorem trAdd_no {par id wt : Int} {thr : Bool} {e : Int} (h : addN N par id wt thr = (e, N')) (he : e ≠ 0) : ∀ w, Sat w (treeS t N :: H) → Calls Tryz.prog 173 #[vp t, vi par, vi id, vi wt, .bool thr] w (Ret (ι := Unit) (fun _ => .iface 126 (vi e)) fun _ => treeS t N' :: H) := by
 have := trAdd H t N par id wt thr; rw [h] at this; simp only [pqErr, if_neg he] at this; exact this
theorem trReady_ok {id : Int} {r : Bool} (h : readyN N id r = (0, N')) : ∀ w, Sat w (treeS t N :: H) → Calls Tryz.prog 60 #[vp t, vi id, .bool r] w (Ret (ι := Unit) (fun _ => .nilIface) fun _ => treeS t N' :: H) := by
 have := trReady H t N id r; rw [h] at this; exact this
theorem trReady_no {id : Int} {r : Bool} {e : Int} (h : readyN N id r = (e, N')) (he : e ≠ 0) : ∀ w, Sat w (treeS t N :: H) → Calls Tryz.prog 60 #[vp t, vi id, .bool r] w (Ret (ι := Unit) (fun _ => .iface 126 (vi e)) fun _ => treeS t N' :: H) := by
 have := trReady H t N id r; rw [h] at this; simp only [pqErr, if_neg he] at this; exact this
theorem trWeight_ok {id W : Int} (h : weightN N id W = (0, N')) : ∀ w, Sat w (treeS t N :: H) → Calls Tryz.prog 185 #[vp t, vi id, vi W] w (Ret (ι := Unit) (fun _ => .nilIface) fun _ => treeS t N' :: H) := by
 have := trWeight H t N id W; rw [h] at this; exact this
theorem trRun_is {z : Int × Bool} (h : runN N = (z, N')) : ∀ w, Sat w (treeS t N :: H) → Calls Tryz.prog 70 #[vp t] w (Ret (ι := Unit) (fun _ => .tuple #[vi z.1, .bool z.2]) fun _ => treeS t N' :: H) := by
 have := trRun H t N; rw [h] at this; exact this
end
end Go.Proofs.YtfhkgohokbkgiaaGreatDoor
set_option linter.unusedVariables false
set_option linter.unusedSimpArgs false
namespace Go.Proofs.YtfhkgohokbkgiaaGreatDoor
open Go.RowKit G
/-- While threads come into the root: so many, of weights W; nothing has run. -/
structure ThI (W : Nat → Int) (u : Nat) (N : List Nr) : Prop where
  wf : WFN N
  all : ∀ z ∈ N, z.id = 0 ∨ ∃ j : Nat, j < u ∧ z.id = (j : Int) + 1 ∧ z.par = 0 ∧ z.wt = W j ∧ z.thr = true ∧ z.rdy = true
  has : ∀ j : Nat, j < u → ∃ z ∈ N, z.id = (j : Int) + 1
  zero : ∀ z ∈ N, z.pass = 0 ∧ z.now = 0
  len : N.length = 1 + u
theorem ThI.start (W : Nat → Int) : ThI W 0 [rootN] :=
  ⟨root_wf, fun z hz => by simp at hz; subst hz; exact .inl rfl, fun j hj => by omega, fun z hz => by simp at hz; subst hz; exact ⟨rfl, rfl⟩, rfl⟩
theorem ThI.add {W : Nat → Int} {u : Nat} {N : List Nr} (h : ThI W u N) (hu : u < 8) {w : Int} (hw : isW w = true) (hWu : W u = w) : ∃ N1 N2, addN N 0 ((u : Int) + 1) w true = (0, N1) ∧ readyN N1 ((u : Int) + 1) true = (0, N2) ∧ ThI W (u + 1) N2 := by
  obtain ⟨p, hp, hpi⟩ := h.wf.sk.root
  have hpt := (h.wf.sk.rt p hp hpi).2
  have hno : ∀ z ∈ N, z.id ≠ (u : Int) + 1 := fun z hz e => by
    rcases h.all z hz with h1 | ⟨j, hj, h1, _⟩ <;> omega
  have hA := addN_is (N := N) (par := 0) (id := (u : Int) + 1) (wt := w) (thr := true) (p := p) hw (by omega) (hpi ▸ gt_of h.wf.sk.nd hp) hpt (gt_none.2 hno) (.inl rfl) (by rw [h.len]; omega)
  rw [(h.zero p hp).2] at hA
  have hw1 : WFN (N ++ [⟨(u : Int) + 1, 0, w, 0, true, false, 0⟩]) := by
    have := add_wf h.wf 0 ((u : Int) + 1) w true
    rw [hA] at this; exact this
  have hm : ∀ z, z ∈ N ++ [⟨(u : Int) + 1, 0, w, 0, true, false, 0⟩] ↔ z ∈ N ∨ z = ⟨(u : Int) + 1, 0, w, 0, true, false, 0⟩ := fun z => by simp
  have hgn : gt (N ++ [⟨(u : Int) + 1, 0, w, 0, true, false, 0⟩]) ((u : Int) + 1) = some ⟨(u : Int) + 1, 0, w, 0, true, false, 0⟩ := gt_of hw1.sk.nd ((hm _).2 (.inr rfl))
  obtain ⟨g, hk, he, hr⟩ := wake_wk 6 (N ++ [⟨(u : Int) + 1, 0, w, 0, true, false, 0⟩]) ((u : Int) + 1)
  have hR : readyN (N ++ [⟨(u : Int) + 1, 0, w, 0, true, false, 0⟩]) ((u : Int) + 1) true = (0, List.map g (N ++ [⟨(u : Int) + 1, 0, w, 0, true, false, 0⟩] : List Nr)) := by
    rw [readyN, hgn]; simp only [if_true]; rw [he]
  have hw2 : WFN (List.map g (N ++ [⟨(u : Int) + 1, 0, w, 0, true, false, 0⟩] : List Nr)) := by
    have := ready_wf hw1 ((u : Int) + 1) true
    rw [hR] at this; exact this
  refine ⟨_, _, hA, hR, ?_⟩
  have hz0 : ∀ z ∈ N ++ [⟨(u : Int) + 1, 0, w, 0, true, false, 0⟩], z.pass = 0 ∧ z.now = 0 := fun z hz => by
    rcases (hm z).1 hz with hz | rfl
    · exact h.zero z hz
    · exact ⟨rfl, rfl⟩
  refine ⟨hw2, fun z hz => ?_, fun j hj => ?_, fun z hz => ?_, by rw [List.length_map, List.length_append, h.len]; simp; omega⟩
  · obtain ⟨v, hv, rfl⟩ := List.mem_map.1 hz
    rw [hk.sk.id, hk.sk.par, hk.sk.thr, (hk.wt v).1]
    rcases (hm v).1 hv with hv' | rfl
    · rcases h.all v hv' with h1 | ⟨j, hj, h1, h2, h3, h4, h5⟩
      · exact .inl h1
      · exact .inr ⟨j, by omega, h1, h2, h3, h4, hk.rdy v h5⟩
    · exact .inr ⟨u, by omega, rfl, rfl, hWu.symm, rfl, hr (by omega) _ hv hw1.sk.nd rfl⟩
  · by_cases c : j = u
    · subst c; exact ⟨_, List.mem_map.2 ⟨_, (hm _).2 (.inr rfl), rfl⟩, hk.sk.id _⟩
    · obtain ⟨z, hz, e⟩ := h.has j (by omega)
      exact ⟨g z, List.mem_map.2 ⟨z, (hm z).2 (.inl hz), rfl⟩, by rw [hk.sk.id, e]⟩
  · obtain ⟨v, hv, rfl⟩ := List.mem_map.1 hz
    exact ⟨hk.zero hz0 v hv, by rw [(hk.wt v).2]; exact (hz0 v hv).2⟩
/-- All are there, and ready. -/
structure ThJ (W : Nat → Int) (m : Nat) (S : List (Int × Int × Int × Bool × Bool)) : Prop where
  all : ∀ s ∈ S, (s.1 = 0 ∧ s.2.1 = -1 ∧ s.2.2.2.1 = false) ∨ ∃ j : Nat, j < m ∧ s = ((j : Int) + 1, 0, W j, true, true)
  has : ∀ j : Nat, j < m → ((j : Int) + 1, 0, W j, true, true) ∈ S
  r0 : ∃ w, (0, -1, w, false, true) ∈ S
theorem ThI.done {W : Nat → Int} {m : Nat} {N : List Nr} (h : ThI W m N) (hm : 1 ≤ m) : ThJ W m (N.map skr) := by
  have get : ∀ j : Nat, j < m → ∃ z ∈ N, z.id = (j : Int) + 1 ∧ z.par = 0 ∧ z.wt = W j ∧ z.thr = true ∧ z.rdy = true := fun j hj => by
    obtain ⟨z, hz, e⟩ := h.has j hj
    rcases h.all z hz with h1 | ⟨i, _, h1, h2⟩
    · omega
    · have : i = j := by omega
      subst this; exact ⟨z, hz, e, h2⟩
  obtain ⟨r, hr, e0⟩ := h.wf.sk.root
  have hrt := h.wf.sk.rt r hr e0
  have g0 : r.rdy = true := by
    obtain ⟨z, hz, h1, h2, _, _, h5⟩ := get 0 (by omega)
    exact (h.wf.rd r hr hrt.2).2 ⟨z, hz, by rw [h2, e0], h5⟩
  refine ⟨fun s hs => ?_, fun j hj => ?_, ⟨r.wt, List.mem_map.2 ⟨r, hr, by simp [skr, e0, hrt.1, hrt.2, g0]⟩⟩⟩
  · obtain ⟨z, hz, rfl⟩ := List.mem_map.1 hs
    rcases h.all z hz with h1 | ⟨j, hj, h1, h2, h3, h4, h5⟩
    · exact .inl ⟨h1, h.wf.sk.rt z hz h1⟩
    · exact .inr ⟨j, hj, by simp [skr, h1, h2, h3, h4, h5]⟩
  · obtain ⟨z, hz, h1, h2, h3, h4, h5⟩ := get j hj
    exact List.mem_map.2 ⟨z, hz, by simp [skr, h1, h2, h3, h4, h5]⟩
/-- A run, as the root sees it; the one that is chosen has the least pass. -/
theorem run_min {N : List Nr} (hw : WFN N) {r : Nr} (hr : r ∈ N) (hri : r.id = 0) (hrd : r.rdy = true) : ∃ (y : Nr) (id : Int) (N' : List Nr), runN N = ((id, true), N') ∧ WFN N' ∧ N'.map skr = N.map skr ∧ y ∈ N ∧ y.par = 0 ∧ y.rdy = true ∧ (∃ t ∈ N, t.id = id ∧ t.thr = true ∧ t.rdy = true) ∧ Bel N y.id id ∧
    (∀ z ∈ N, z.par = 0 → z.rdy = true → ps N y.id ≤ ps N z.id) ∧ ∃ δ : Int, ∀ z ∈ N, z.par = 0 → z.rdy = true → ps N' z.id = ps N z.id + (if z.id = y.id then strd y.wt else 0) - δ := by
  obtain ⟨y, id, g, h1, h2, h3, h4, ⟨t, ht, hti, htt, htr, hb⟩, δ, hd⟩ := run_root hw (hri ▸ gt_of hw.sk.nd hr) hrd
  obtain ⟨hy, hmin⟩ := least_some h4
  obtain ⟨hyN, hyp, hyr⟩ := mem_kidR.1 hy
  refine ⟨y, id, N.map g, h1, h3, h2.skr N, hyN, hyp, hyr, ⟨t, ht, hti, htt, htr⟩, hb, fun z hz hzp hzr => ?_, δ, fun z hz hzp hzr => ?_⟩
  · rw [ps_of hw.sk.nd hyN, ps_of hw.sk.nd hz]
    have h5 := hmin z (mem_kidR.2 ⟨hz, hzp, hzr⟩)
    have : ¬ z.pass < y.pass := fun c => by
      have : lessN z y = true := by simp [lessN, c]
      rw [this] at h5; cases h5
    omega
  · have e1 : ps (N.map g) z.id = (g z).pass := by
      have := ps_of h3.sk.nd (z := g z) (List.mem_map.2 ⟨z, hz, rfl⟩)
      rw [h2.sk.id] at this; exact this
    rw [e1, ps_of hw.sk.nd hz]
    exact hd z hz hzp hzr
theorem th_run {N : List Nr} {W : Nat → Int} {m : Nat} {S : List (Int × Int × Int × Bool × Bool)} (hw : WFN N) (h : N.map skr = S) (hJ : ThJ W m S) : ∃ (j : Nat) (N' : List Nr), j < m ∧ runN N = (((j : Int) + 1, true), N') ∧ WFN N' ∧ N'.map skr = S ∧
    (∀ i : Nat, i < m → ps N ((j : Int) + 1) ≤ ps N ((i : Int) + 1)) ∧ ∃ δ : Int, ∀ i : Nat, i < m → ps N' ((i : Int) + 1) = ps N ((i : Int) + 1) + (if i = j then strd (W j) else 0) - δ := by
  obtain ⟨w, h0⟩ := hJ.r0
  obtain ⟨r0, hr0, hr1, _, _, _, hr5⟩ := skr_get h h0
  obtain ⟨v, id, N', h1, h2, h3, hv, hvp, hvr, ⟨t, ht, hti, htt, _⟩, hb, hmin, δ, hd⟩ := run_min hw hr0 hr1 hr5
  obtain ⟨j, hj, hvj⟩ : ∃ j : Nat, j < m ∧ v.id = (j : Int) + 1 ∧ v.wt = W j := by
    rcases hJ.all _ (skr_mem h hv) with h4 | ⟨j, hj, h4⟩
    · simp only at h4; omega
    · simp only [Prod.mk.injEq] at h4; exact ⟨j, hj, h4.1, h4.2.2.1⟩
  have hid : id = v.id := bel_leaf hb fun z hz e => by
    rcases hJ.all _ (skr_mem h hz) with h4 | ⟨i, hi, h4⟩ <;> simp only [Prod.mk.injEq] at h4 <;> omega
  subst hid
  have get : ∀ i : Nat, i < m → ∃ z ∈ N, z.id = (i : Int) + 1 ∧ z.par = 0 ∧ z.rdy = true := fun i hi => by
    obtain ⟨z, hz, e1, e2, _, _, e5⟩ := skr_get h (hJ.has i hi)
    exact ⟨z, hz, e1, e2, e5⟩
  refine ⟨j, N', hj, by rw [h1, hvj.1], h2, h3.trans h, fun i hi => ?_, δ, fun i hi => ?_⟩
  · obtain ⟨z, hz, e1, e2, e3⟩ := get i hi
    have := hmin z hz e2 e3
    rw [hvj.1, e1] at this; exact this
  · obtain ⟨z, hz, e1, e2, e3⟩ := get i hi
    have := hd z hz e2 e3
    rw [e1, hvj.1, hvj.2] at this
    rw [this]
    by_cases c : i = j
    · subst c; simp
    · rw [if_neg (by omega), if_neg c]
/-! ## a round -/
def cntL (xs : List Int) (j : Nat) : Int := xs.getD (j + 1) 0
def totL (xs : List Int) : Nat → Int
  | 0 => 0
  | m + 1 => totL xs m + cntL xs m
def sumW (W : Nat → Int) : Nat → Int
  | 0 => 0
  | m + 1 => sumW W m + W m
theorem cnt_set {xs : List Int} {j i : Nat} {v : Int} (hj : j + 1 < xs.length) : cntL (xs.set (j + 1) v) i = if i = j then v else cntL xs i := by
  unfold cntL
  rw [List.getD_eq_getElem?_getD, List.getElem?_set, List.getD_eq_getElem?_getD]
  by_cases c : i = j
  · subst c; simp [hj]
  · rw [if_neg (by omega), if_neg c]
theorem cntL_at {xs : List Int} {j : Nat} (h : j + 1 < xs.length) : xs[j + 1]? = some (cntL xs j) := by
  unfold cntL
  rw [List.getD_eq_getElem?_getD, List.getElem?_eq_getElem h]; rfl
theorem tot_set {xs : List Int} {j : Nat} (hj : j + 1 < xs.length) : ∀ m, totL (xs.set (j + 1) (cntL xs j + 1)) m = totL xs m + if j < m then 1 else 0
  | 0 => by simp [totL]
  | m + 1 => by
    rw [totL, totL, tot_set hj m, cnt_set hj]
    by_cases c : m = j
    · subst c; simp; omega
    · rw [if_neg c]
      by_cases d : j < m
      · rw [if_pos d, if_pos (by omega)]; omega
      · rw [if_neg d, if_neg (by omega)]; omega
theorem tot_lt {xs : List Int} {W : Nat → Int} : ∀ {m : Nat}, (∀ j, j < m → cntL xs j ≤ W j) → totL xs m < sumW W m → ∃ j, j < m ∧ cntL xs j < W j
  | 0, _, h => by simp [totL, sumW] at h
  | m + 1, hc, h => by
    by_cases c : cntL xs m < W m
    · exact ⟨m, by omega, c⟩
    · have h1 := hc m (by omega)
      rw [totL, sumW] at h
      obtain ⟨j, hj, h2⟩ := tot_lt (m := m) (fun j hj => hc j (by omega)) (by omega)
      exact ⟨j, by omega, h2⟩
theorem tot_le {xs : List Int} {W : Nat → Int} : ∀ {m : Nat}, (∀ j, j < m → cntL xs j ≤ W j) → totL xs m ≤ sumW W m
  | 0, _ => by simp [totL, sumW]
  | m + 1, hc => by
    have h1 := hc m (by omega)
    have h2 := tot_le (m := m) (fun j hj => hc j (by omega))
    rw [totL, sumW]; omega
theorem tot_eq {xs : List Int} {W : Nat → Int} : ∀ {m : Nat}, (∀ j, j < m → cntL xs j ≤ W j) → totL xs m = sumW W m → ∀ j, j < m → cntL xs j = W j
  | 0, _, _, j, hj => by omega
  | m + 1, hc, h, j, hj => by
    have h1 := hc m (by omega)
    have h2 := tot_le (m := m) (fun j hj => hc j (by omega))
    rw [totL, sumW] at h
    by_cases c : j = m
    · subst c; omega
    · exact tot_eq (m := m) (fun j hj => hc j (by omega)) (by omega) j (by omega)
theorem strd_whole {w : Int} (h : isW w = true) : w * strd w = 720720 := by
  obtain ⟨h1, h2⟩ := isW_cases h
  have : w = 1 ∨ w = 2 ∨ w = 3 ∨ w = 4 ∨ w = 5 ∨ w = 6 ∨ w = 7 ∨ w = 8 ∨ w = 9 ∨ w = 10 ∨ w = 11 ∨ w = 12 ∨ w = 13 ∨ w = 14 ∨ w = 15 ∨ w = 16 := by omega
  rcases this with rfl | rfl | rfl | rfl | rfl | rfl | rfl | rfl | rfl | rfl | rfl | rfl | rfl | rfl | rfl | rfl <;> decide
/-- So far in a round: each has had no more than it weighs. -/
structure Rnd (W : Nat → Int) (m : Nat) (N : List Nr) (xs : List Int) : Prop where
  len : xs.length = 8
  le : ∀ j, j < m → 0 ≤ cntL xs j ∧ cntL xs j ≤ W j
  ps : ∃ Q : Int, ∀ j : Nat, j < m → ps N ((j : Int) + 1) = Q + cntL xs j * strd (W j)
theorem Rnd.step {W : Nat → Int} {m : Nat} {N N' : List Nr} {xs : List Int} (h : Rnd W m N xs) (hm : m ≤ 7) (hW : ∀ j, j < m → isW (W j) = true) (ht : totL xs m < sumW W m) {j : Nat} (hj : j < m)
    (hmin : ∀ i : Nat, i < m → Go.Proofs.YtfhkgohokbkgiaaGreatDoor.ps N ((j : Int) + 1) ≤ Go.Proofs.YtfhkgohokbkgiaaGreatDoor.ps N ((i : Int) + 1)) {δ : Int} (hd : ∀ i : Nat, i < m → Go.Proofs.YtfhkgohokbkgiaaGreatDoor.ps N' ((i : Int) + 1) = Go.Proofs.YtfhkgohokbkgiaaGreatDoor.ps N ((i : Int) + 1) + (if i = j then strd (W j) else 0) - δ) :
    Rnd W m N' (xs.set (j + 1) (cntL xs j + 1)) ∧ totL (xs.set (j + 1) (cntL xs j + 1)) m = totL xs m + 1 := by
  have hl := h.len
  obtain ⟨Q, hQ⟩ := h.ps
  obtain ⟨i, hi, hlt⟩ := tot_lt (fun j hj => (h.le j hj).2) ht
  have key : cntL xs j < W j := by
    have h1 := hmin i hi
    rw [hQ j hj, hQ i hi] at h1
    have h2 := strd_whole (hW i hi)
    have h3 := strd_whole (hW j hj)
    have h4 := (strd_pos (hW i hi)).1
    have h5 := (strd_pos (hW j hj)).1
    have h6 : (cntL xs i + 1) * strd (W i) ≤ W i * strd (W i) := Int.mul_le_mul_of_nonneg_right (by omega) (by omega)
    rw [Int.add_mul] at h6
    have h7 : ¬ W j ≤ cntL xs j := fun c => by
      have := Int.mul_le_mul_of_nonneg_right (c := strd (W j)) c (by omega)
      omega
    omega
  refine ⟨⟨by rw [List.length_set]; exact hl, fun k hk => ?_, Q - δ, fun k hk => ?_⟩, by rw [tot_set (by omega), if_pos hj]⟩
  · rw [cnt_set (by omega)]
    by_cases c : k = j
    · subst c; rw [if_pos rfl]; have := h.le k hk; omega
    · rw [if_neg c]; exact h.le k hk
  · rw [hd k hk, hQ k hk, cnt_set (by omega)]
    by_cases c : k = j
    · subst c; rw [if_pos rfl, if_pos rfl, Int.add_mul]; omega
    · rw [if_neg c, if_neg c]; omega
theorem Rnd.done {W : Nat → Int} {m : Nat} {N : List Nr} {xs : List Int} (h : Rnd W m N xs) (hW : ∀ j, j < m → isW (W j) = true) (ht : totL xs m = sumW W m) : (∀ j, j < m → cntL xs j = W j) ∧ ∃ Q, ∀ j : Nat, j < m → Go.Proofs.YtfhkgohokbkgiaaGreatDoor.ps N ((j : Int) + 1) = Q := by
  have hc := tot_eq (fun j hj => (h.le j hj).2) ht
  obtain ⟨Q, hQ⟩ := h.ps
  exact ⟨hc, Q + 720720, fun j hj => by rw [hQ j hj, hc j hj, strd_whole (hW j hj)]⟩
theorem Rnd.fresh {W : Nat → Int} {m : Nat} {N : List Nr} (hm : m ≤ 7) (hW : ∀ j, j < m → isW (W j) = true) {Q : Int} (h : ∀ j : Nat, j < m → Go.Proofs.YtfhkgohokbkgiaaGreatDoor.ps N ((j : Int) + 1) = Q) : Rnd W m N [0, 0, 0, 0, 0, 0, 0, 0] ∧ totL [0, 0, 0, 0, 0, 0, 0, 0] m = 0 := by
  have z : ∀ j, j < 7 → cntL [0, 0, 0, 0, 0, 0, 0, 0] j = 0 := fun j hj => by
    have : j = 0 ∨ j = 1 ∨ j = 2 ∨ j = 3 ∨ j = 4 ∨ j = 5 ∨ j = 6 := by omega
    rcases this with rfl | rfl | rfl | rfl | rfl | rfl | rfl <;> rfl
  refine ⟨⟨rfl, fun j hj => ?_, Q, fun j hj => by rw [h j hj, z j (by omega)]; simp⟩, ?_⟩
  · rw [z j (by omega)]; have := isW_cases (hW j hj); omega
  · have : ∀ k, k ≤ m → totL [0, 0, 0, 0, 0, 0, 0, 0] k = 0 := fun k => by
      induction k with
      | zero => intro _; rfl
      | succ k ih => intro hk; rw [totL, ih (by omega), z k (by omega)]; rfl
    exact this m (Nat.le_refl _)
theorem sumW_pos {W : Nat → Int} : ∀ {m : Nat}, (∀ j, j < m → isW (W j) = true) → 0 ≤ sumW W m ∧ sumW W m ≤ 16 * m
  | 0, _ => by simp [sumW]
  | m + 1, h => by
    have h1 := sumW_pos (m := m) fun j hj => h j (by omega)
    have h2 := isW_cases (h m (by omega))
    rw [sumW]; omega
end Go.Proofs.YtfhkgohokbkgiaaGreatDoor
set_option linter.unusedVariables false
set_option linter.unusedSimpArgs false
namespace Go.Proofs.YtfhkgohokbkgiaaGreatDoor
open Go.RowKit G
theorem wake_same : ∀ (f : Nat) (N : List Nr) (k : Int), (N.map (·.id)).Nodup → ∃ g, Skel g ∧ (∀ x ∈ N, x.rdy = true → g x = x) ∧ wakeN f N k = N.map g
  | 0, N, k, _ => ⟨fun x => x, Skel.same, fun _ _ _ => rfl, by simp [wakeN]⟩
  | f + 1, N, k, hn => by
    rw [wakeN]
    cases hg : gt N k with
    | none => exact ⟨fun x => x, Skel.same, fun _ _ _ => rfl, by simp⟩
    | some x0 =>
      obtain ⟨hx0, hk0⟩ := gt_mem hg
      simp only
      by_cases hr : x0.rdy = true
      · rw [if_pos hr]; exact ⟨fun x => x, Skel.same, fun _ _ _ => rfl, by simp⟩
      · rw [if_neg hr]
        have hne : ∀ x ∈ N, x.rdy = true → x.id ≠ k := fun x hx h e => hr (by rw [← nd_eq hn hx hx0 (by rw [e, hk0])]; exact h)
        cases hp : gt N x0.par with
        | none => exact ⟨fun x => if x.id == k then { x with rdy := true } else x, skel_ite (f := fun x => { x with rdy := true }) skF, fun x hx h => by simp [hne x hx h], rfl⟩
        | some p =>
          simp only
          obtain ⟨g, h1, h2, h3⟩ := wake_same f (upN N k (wkF p.now)) x0.par (by rw [upN_id (f := wkF p.now) (fun _ => rfl)]; exact hn)
          refine ⟨fun x => g (if x.id == k then wkF p.now x else x), (skel_ite (wkF_skel p.now)).comp h1, fun x hx h => ?_, ?_⟩
          · have e : (if x.id == k then wkF p.now x else x) = x := by simp [hne x hx h]
            show g (if x.id == k then wkF p.now x else x) = x
            rw [e]
            exact h2 x (List.mem_map.2 ⟨x, hx, e⟩) h
          · have e : wakeN f (upN N k fun x => { x with rdy := true, pass := mxI x.pass p.now }) x0.par = _ := h3
            rw [e, upN, List.map_map]; rfl
theorem par_thr {N : List Nr} (hs : SK N) {x p : Nr} (hx : x ∈ N) (hp : p ∈ N) (e : p.id = x.par) : p.thr = false := by
  by_cases c : x.id = 0
  · have h1 := (hs.rt x hx c).1
    have h2 := hs.neg (k := p.id) (by omega)
    rw [gt_of hs.nd hp] at h2; cases h2
  · obtain ⟨_, p', hp', h1, h2⟩ := hs.pa x hx c
    rw [nd_eq hs.nd hp hp' (by rw [e, h1])]; exact h2
theorem rest_same : ∀ (f : Nat) (N : List Nr) (k : Int), SK N → ∃ g, Skel g ∧ (∀ x ∈ N, x.thr = true → x.id ≠ k → g x = x) ∧ restN f N k = N.map g
  | 0, N, k, _ => ⟨fun x => x, Skel.same, fun _ _ _ _ => rfl, by simp [restN]⟩
  | f + 1, N, k, hs => by
    rw [restN]
    cases hg : gt N k with
    | none => exact ⟨fun x => x, Skel.same, fun _ _ _ _ => rfl, by simp⟩
    | some x0 =>
      obtain ⟨hx0, hk0⟩ := gt_mem hg
      simp only
      by_cases hr : x0.rdy = false ∨ kidR N k ≠ []
      · rw [if_pos hr]; exact ⟨fun x => x, Skel.same, fun _ _ _ _ => rfl, by simp⟩
      · rw [if_neg hr]
        cases hp : gt N x0.par with
        | none => exact ⟨fun x => if x.id == k then { x with rdy := false } else x, skel_ite (f := fun x => { x with rdy := false }) skF, fun x hx _ h => by simp [h], rfl⟩
        | some p =>
          obtain ⟨hpN, hpi⟩ := gt_mem hp
          have hpt := par_thr hs hx0 hpN hpi
          simp only
          obtain ⟨g, h1, h2, h3⟩ := rest_same f (upN N k rsF) x0.par (hs.upN rsF_skel)
          refine ⟨fun x => g (if x.id == k then rsF x else x), (skel_ite rsF_skel).comp h1, fun x hx ht h => ?_, ?_⟩
          · have e : (if x.id == k then rsF x else x) = x := by simp [h]
            show g (if x.id == k then rsF x else x) = x
            rw [e]
            refine h2 x (List.mem_map.2 ⟨x, hx, e⟩) ht fun e2 => ?_
            have := nd_eq hs.nd hx hpN (by rw [e2, hpi])
            subst this; rw [hpt] at ht; cases ht
          · have e : restN f (upN N k fun x => { x with rdy := false }) x0.par = _ := h3
            rw [e, upN, List.map_map]; rfl
/-- Who else is made ready, or not: threads that are ready stay as they are. -/
theorem ready_keep {N : List Nr} (hs : SK N) (k : Int) (r : Bool) : (∀ z ∈ N, z.thr = true → z.rdy = true → z.id ≠ k → z ∈ (readyN N k r).2) ∧ ∀ z ∈ (readyN N k r).2, ∃ v ∈ N, v.id = z.id ∧ v.thr = z.thr := by
  have same : (∀ z ∈ N, z.thr = true → z.rdy = true → z.id ≠ k → z ∈ N) ∧ ∀ z ∈ N, ∃ v ∈ N, v.id = z.id ∧ v.thr = z.thr := ⟨fun z h _ _ _ => h, fun z h => ⟨z, h, rfl, rfl⟩⟩
  have mp : ∀ g, Skel g → (∀ x ∈ N, x.thr = true → x.rdy = true → x.id ≠ k → g x = x) → (∀ z ∈ N, z.thr = true → z.rdy = true → z.id ≠ k → z ∈ N.map g) ∧ ∀ z ∈ N.map g, ∃ v ∈ N, v.id = z.id ∧ v.thr = z.thr := fun g hg h =>
    ⟨fun z hz h1 h2 h3 => List.mem_map.2 ⟨z, hz, h z hz h1 h2 h3⟩, fun z hz => by obtain ⟨v, hv, rfl⟩ := List.mem_map.1 hz; exact ⟨v, hv, (hg.id v).symm, (hg.thr v).symm⟩⟩
  rw [readyN]
  cases gt N k with
  | none => exact same
  | some x =>
    simp only
    split
    · split
      · obtain ⟨g, h1, h2, h3⟩ := wake_same 6 N k hs.nd
        simp only [h3]; exact mp g h1 fun x hx _ hr _ => h2 x hx hr
      · obtain ⟨g, h1, h2, h3⟩ := rest_same 6 N k hs
        simp only [h3]; exact mp g h1 fun x hx ht _ hk => h2 x hx ht hk
    · exact same
theorem weight_keep {N : List Nr} (k W : Int) : (∀ z ∈ N, z.id ≠ k → z ∈ (weightN N k W).2) ∧ ∀ z ∈ (weightN N k W).2, ∃ v ∈ N, v.id = z.id ∧ v.thr = z.thr := by
  have same : (∀ z ∈ N, z.id ≠ k → z ∈ N) ∧ ∀ z ∈ N, ∃ v ∈ N, v.id = z.id ∧ v.thr = z.thr := ⟨fun z h _ => h, fun z h => ⟨z, h, rfl, rfl⟩⟩
  rw [weightN]
  split
  · exact same
  · split
    · exact same
    · split
      · exact same
      · split
        · exact same
        · refine ⟨fun z hz h => mem_upN.2 ⟨z, hz, .inr ⟨h, rfl⟩⟩, fun z hz => ?_⟩
          obtain ⟨v, hv, ⟨_, rfl⟩ | ⟨_, rfl⟩⟩ := mem_upN.1 hz
          · exact ⟨v, hv, rfl, rfl⟩
          · exact ⟨z, hv, rfl, rfl⟩
theorem thr_leaf {N : List Nr} (hs : SK N) {y : Nr} (hy : y ∈ N) (ht : y.thr = true) : ∀ z ∈ N, z.par ≠ y.id := fun z hz e => by
  have := par_thr hs hz hy e.symm
  rw [ht] at this; cases this
theorem bel_par0 {N : List Nr} (hs : SK N) {z : Nr} (hz : z ∈ N) (hzp : z.par = 0) {k t : Int} (h : Bel N k t) : 1 ≤ k → z.id = t → k = t := by
  induction h with
  | refl k => intro _ _; rfl
  | step hy hp hb ih =>
    rename_i k t y
    intro h1 h2
    have hy0 : y.id ≠ 0 := fun e => by have := (hs.rt y hy e).1; omega
    have h3 := ih (hs.pa y hy hy0).1 h2
    have h4 := nd_eq hs.nd hy hz (by rw [h3, h2])
    subst h4
    omega
/-- Threads 1 to m of the root, ready all along; of other threads there are 20, 22 alone. -/
structure FaI (W : Nat → Int) (m : Nat) (N : List Nr) : Prop where
  wf : WFN N
  has : ∀ j : Nat, j < m → ∃ z ∈ N, z.id = (j : Int) + 1 ∧ z.par = 0 ∧ z.wt = W j ∧ z.thr = true ∧ z.rdy = true
  thr : ∀ z ∈ N, z.thr = true → (∃ j : Nat, j < m ∧ z.id = (j : Int) + 1) ∨ z.id = 20 ∨ z.id = 22
/-- What each has had, as passes tell. -/
structure FaR (W : Nat → Int) (m : Nat) (N : List Nr) (xs : List Int) (n : Int) : Prop where
  len : xs.length = 8
  le : ∀ j, j < m → 0 ≤ cntL xs j ∧ cntL xs j ≤ n
  ps : ∃ Q : Int, ∀ j : Nat, j < m → ps N ((j : Int) + 1) = Q + cntL xs j * strd (W j)
theorem FaI.keep {W : Nat → Int} {m : Nat} {N N' : List Nr} (h : FaI W m N) (hw : WFN N') {k : Int} (hk : k = 20 ∨ k = 22) (hm : m ≤ 8) (h1 : ∀ z ∈ N, z.thr = true → z.rdy = true → z.id ≠ k → z ∈ N') (h2 : ∀ z ∈ N', ∃ v ∈ N, v.id = z.id ∧ v.thr = z.thr) :
    FaI W m N' ∧ ∀ j : Nat, j < m → ps N' ((j : Int) + 1) = ps N ((j : Int) + 1) := by
  have g : ∀ j : Nat, j < m → ∃ z ∈ N, z ∈ N' ∧ z.id = (j : Int) + 1 ∧ z.par = 0 ∧ z.wt = W j ∧ z.thr = true ∧ z.rdy = true := fun j hj => by
    obtain ⟨z, hz, e1, e2, e3, e4, e5⟩ := h.has j hj
    exact ⟨z, hz, h1 z hz e4 e5 (by omega), e1, e2, e3, e4, e5⟩
  refine ⟨⟨hw, fun j hj => ?_, fun z hz ht => ?_⟩, fun j hj => ?_⟩
  · obtain ⟨z, _, hz', e⟩ := g j hj; exact ⟨z, hz', e⟩
  · obtain ⟨v, hv, e1, e2⟩ := h2 z hz
    rw [← e1]; exact h.thr v hv (by rw [e2, ht])
  · obtain ⟨z, hz, hz', e, _⟩ := g j hj
    rw [← e, ps_of hw.sk.nd hz', ps_of h.wf.sk.nd hz]
theorem FaI.ready {W : Nat → Int} {m : Nat} {N : List Nr} (h : FaI W m N) (hm : m ≤ 8) {k : Int} (hk : k = 20 ∨ k = 22) (r : Bool) : FaI W m (readyN N k r).2 ∧ ∀ j : Nat, j < m → ps (readyN N k r).2 ((j : Int) + 1) = ps N ((j : Int) + 1) :=
  h.keep (ready_wf h.wf k r) hk hm (ready_keep h.wf.sk k r).1 (ready_keep h.wf.sk k r).2
theorem FaI.weight {W : Nat → Int} {m : Nat} {N : List Nr} (h : FaI W m N) (hm : m ≤ 8) (V : Int) : FaI W m (weightN N 20 V).2 ∧ ∀ j : Nat, j < m → ps (weightN N 20 V).2 ((j : Int) + 1) = ps N ((j : Int) + 1) :=
  h.keep (weight_wf h.wf 20 V) (.inl rfl) hm (fun z hz _ _ hk => (weight_keep 20 V).1 z hz hk) (weight_keep 20 V).2
theorem fa_run {W : Nat → Int} {m : Nat} {N : List Nr} (h : FaI W m N) (hm : 1 ≤ m ∧ m ≤ 8) : ∃ (id : Int) (N' : List Nr), runN N = ((id, true), N') ∧ FaI W m N' ∧
    ((∃ j : Nat, j < m ∧ id = ((j + 1 : Nat) : Int) ∧ ∃ δ : Int, ∀ i : Nat, i < m → ps N' ((i : Int) + 1) = ps N ((i : Int) + 1) + (if i = j then strd (W j) else 0) - δ) ∨ ((m : Int) < id ∧ ∃ δ : Int, ∀ i : Nat, i < m → ps N' ((i : Int) + 1) = ps N ((i : Int) + 1) - δ)) := by
  obtain ⟨r, hr, e0⟩ := h.wf.sk.root
  have hrt := h.wf.sk.rt r hr e0
  have g0 : r.rdy = true := by
    obtain ⟨z, hz, h1, h2, _, _, h5⟩ := h.has 0 (by omega)
    exact (h.wf.rd r hr hrt.2).2 ⟨z, hz, by rw [h2, e0], h5⟩
  obtain ⟨v, id, N', h1, h2, h3, hv, hvp, hvr, ⟨t, ht, hti, htt, _⟩, hb, δ, hd⟩ := run_ps h.wf hr e0 g0
  have hv0 : v.id ≠ 0 := fun e => by have := (h.wf.sk.rt v hv e).1; omega
  have hv1 := (h.wf.sk.pa v hv hv0).1
  refine ⟨id, N', h1, ⟨h2, fun j hj => ?_, fun z hz hzt => ?_⟩, ?_⟩
  · obtain ⟨z, hz, e1, e2, e3, e4, e5⟩ := h.has j hj
    exact skr_get h3 (by rw [← e1, ← e3, ← e2]; have := skr_mem (N := N) rfl hz; rw [e4, e5] at this; exact this)
  · obtain ⟨u, hu, e1, _, _, e4, _⟩ := skr_get (N := N) rfl (by rw [← h3]; exact skr_mem rfl hz)
    rw [← e1]; exact h.thr u hu (by rw [e4, hzt])
  · rcases h.thr t ht htt with ⟨j, hj, hjt⟩ | hjt
    · obtain ⟨z, hz, e1, e2, e3, e4, e5⟩ := h.has j hj
      have hvi := bel_par0 h.wf.sk hz e2 hb hv1 (by omega)
      have hvz := nd_eq h.wf.sk.nd hv hz (by omega)
      subst hvz
      refine .inl ⟨j, hj, by omega, δ, fun i hi => ?_⟩
      obtain ⟨u, hu, f1, f2, _, _, f5⟩ := h.has i hi
      have := hd u hu f2 f5
      rw [f1, e1, e3] at this
      rw [this]
      by_cases c : i = j
      · subst c; simp
      · rw [if_neg (by omega), if_neg c]
    · refine .inr ⟨by omega, δ, fun i hi => ?_⟩
      obtain ⟨u, hu, f1, f2, _, f4, f5⟩ := h.has i hi
      have := hd u hu f2 f5
      rw [f1] at this
      rw [this, if_neg, Int.add_zero]
      intro e
      have hvu := nd_eq h.wf.sk.nd hv hu (by omega)
      subst hvu
      have := bel_leaf hb (thr_leaf h.wf.sk hv f4)
      omega
theorem FaR.step {W : Nat → Int} {m : Nat} {N N' : List Nr} {xs : List Int} {n : Int} (h : FaR W m N xs n) (hm : m ≤ 7) {j : Nat} (hj : j < m) {δ : Int} (hd : ∀ i : Nat, i < m → Go.Proofs.YtfhkgohokbkgiaaGreatDoor.ps N' ((i : Int) + 1) = Go.Proofs.YtfhkgohokbkgiaaGreatDoor.ps N ((i : Int) + 1) + (if i = j then strd (W j) else 0) - δ) : FaR W m N' (xs.set (j + 1) (cntL xs j + 1)) (n + 1) := by
  have hl := h.len
  obtain ⟨Q, hQ⟩ := h.ps
  refine ⟨by rw [List.length_set]; exact hl, fun k hk => ?_, Q - δ, fun k hk => ?_⟩
  · rw [cnt_set (by omega)]
    have := h.le k hk
    by_cases c : k = j
    · subst c; rw [if_pos rfl]; omega
    · rw [if_neg c]; omega
  · rw [hd k hk, hQ k hk, cnt_set (by omega)]
    by_cases c : k = j
    · subst c; rw [if_pos rfl, if_pos rfl, Int.add_mul]; omega
    · rw [if_neg c, if_neg c]; omega
theorem FaR.more {W : Nat → Int} {m : Nat} {N N' : List Nr} {xs : List Int} {n : Int} (h : FaR W m N xs n) {δ : Int} (hd : ∀ i : Nat, i < m → Go.Proofs.YtfhkgohokbkgiaaGreatDoor.ps N' ((i : Int) + 1) = Go.Proofs.YtfhkgohokbkgiaaGreatDoor.ps N ((i : Int) + 1) - δ) : FaR W m N' xs (n + 1) := by
  obtain ⟨Q, hQ⟩ := h.ps
  exact ⟨h.len, fun k hk => by have := h.le k hk; omega, Q - δ, fun k hk => by rw [hd k hk, hQ k hk]; omega⟩
theorem FaR.same {W : Nat → Int} {m : Nat} {N N' : List Nr} {xs : List Int} {n : Int} (h : FaR W m N xs n) (hd : ∀ i : Nat, i < m → Go.Proofs.YtfhkgohokbkgiaaGreatDoor.ps N' ((i : Int) + 1) = Go.Proofs.YtfhkgohokbkgiaaGreatDoor.ps N ((i : Int) + 1)) : FaR W m N' xs n := by
  obtain ⟨Q, hQ⟩ := h.ps
  exact ⟨h.len, h.le, Q, fun k hk => by rw [hd k hk, hQ k hk]⟩
theorem FaR.fair {W : Nat → Int} {m : Nat} {N : List Nr} {xs : List Int} {n : Int} (h : FaR W m N xs n) (hI : FaI W m N) {a b : Nat} (ha : a < m) (hb : b < m) : fairB (cntL xs a) (W a) (cntL xs b) (W b) = true := by
  obtain ⟨x, hx, x1, x2, x3, _, x5⟩ := hI.has a ha
  obtain ⟨y, hy, y1, y2, y3, _, y5⟩ := hI.has b hb
  obtain ⟨r, hr, r0⟩ := hI.wf.sk.root
  have h1 := two_in hI.wf hx hy hr (by omega) (by omega) x5 y5
  obtain ⟨Q, hQ⟩ := h.ps
  rw [x1, y1, x3, y3, hQ a ha, hQ b hb] at h1
  have h3 := strd_pos (hI.wf.wt x hx)
  have h4 := strd_pos (hI.wf.wt y hy)
  rw [x3] at h3
  rw [y3] at h4
  simp only [fairB, Bool.and_eq_true, decide_eq_true_eq]
  omega
theorem fa_start {W : Nat → Int} {m : Nat} {N : List Nr} (h : ThI W m N) (hm : m ≤ 6) : ∃ N1 N2 N3, addN N 0 20 7 true = (0, N1) ∧ addN N1 0 21 3 false = (0, N2) ∧ addN N2 21 22 5 true = (0, N3) ∧ FaI W m N3 ∧ FaR W m N3 [0, 0, 0, 0, 0, 0, 0, 0] 0 := by
  obtain ⟨r, hr, r0⟩ := h.wf.sk.root
  have hrt := (h.wf.sk.rt r hr r0).2
  have no : ∀ k : Int, 20 ≤ k → ∀ z ∈ N, z.id ≠ k := fun k hk z hz e => by
    rcases h.all z hz with h1 | ⟨j, hj, h1, _⟩ <;> omega
  have hA := addN_is (N := N) (par := 0) (id := 20) (wt := 7) (thr := true) (p := r) rfl (by omega) (r0 ▸ gt_of h.wf.sk.nd hr) hrt (gt_none.2 (no 20 (by omega))) (.inl rfl) (by rw [h.len]; omega)
  rw [(h.zero r hr).2] at hA
  have w1 := add_wf h.wf 0 20 7 true
  rw [hA] at w1
  have m1 : ∀ z, z ∈ N ++ [⟨20, 0, 7, 0, true, false, 0⟩] ↔ z ∈ N ∨ z = ⟨20, 0, 7, 0, true, false, 0⟩ := fun z => by simp
  have hr1 := (m1 r).2 (.inl hr)
  have no1 : ∀ k : Int, 21 ≤ k → ∀ z ∈ N ++ [⟨20, 0, 7, 0, true, false, 0⟩], z.id ≠ k := fun k hk z hz e => by
    rcases (m1 z).1 hz with h1 | rfl
    · exact no k (by omega) z h1 e
    · simp only at e; omega
  have hd1 : deepN 6 (N ++ [⟨20, 0, 7, 0, true, false, 0⟩]) 0 < 4 := by
    have hg : gt (N ++ [⟨20, 0, 7, 0, true, false, 0⟩]) 0 = some r := r0 ▸ gt_of w1.sk.nd hr1
    have hg2 : gt (N ++ [⟨20, 0, 7, 0, true, false, 0⟩]) r.par = none := by rw [(h.wf.sk.rt r hr r0).1]; exact w1.sk.neg (by omega)
    rw [deepN, hg]; simp only; rw [deepN, hg2]; simp
  have hB := addN_is (N := N ++ [⟨20, 0, 7, 0, true, false, 0⟩]) (par := 0) (id := 21) (wt := 3) (thr := false) (p := r) rfl (by omega) (r0 ▸ gt_of w1.sk.nd hr1) hrt (gt_none.2 (no1 21 (by omega))) (.inr hd1) (by rw [List.length_append, h.len]; simp; omega)
  rw [(h.zero r hr).2] at hB
  have w2 := add_wf w1 0 21 3 false
  rw [hB] at w2
  have m2 : ∀ z, z ∈ (N ++ [⟨20, 0, 7, 0, true, false, 0⟩]) ++ [⟨21, 0, 3, 0, false, false, 0⟩] ↔ (z ∈ N ∨ z = ⟨20, 0, 7, 0, true, false, 0⟩) ∨ z = ⟨21, 0, 3, 0, false, false, 0⟩ := fun z => by rw [List.mem_append, m1]; simp
  have hC := addN_is (N := (N ++ [⟨20, 0, 7, 0, true, false, 0⟩]) ++ [⟨21, 0, 3, 0, false, false, 0⟩]) (par := 21) (id := 22) (wt := 5) (thr := true) (p := ⟨21, 0, 3, 0, false, false, 0⟩) rfl (by omega) (gt_of w2.sk.nd ((m2 _).2 (.inr rfl))) rfl (gt_none.2 fun z hz e => by
    rcases (m2 z).1 hz with (h1 | rfl) | rfl
    · exact no 22 (by omega) z h1 e
    · simp only at e; omega
    · simp only at e; omega) (.inl rfl) (by rw [List.length_append, List.length_append, h.len]; simp; omega)
  have w3 := add_wf w2 21 22 5 true
  rw [hC] at w3
  have m3 : ∀ z, z ∈ ((N ++ [⟨20, 0, 7, 0, true, false, 0⟩]) ++ [⟨21, 0, 3, 0, false, false, 0⟩]) ++ [⟨22, 21, 5, 0, true, false, 0⟩] ↔ ((z ∈ N ∨ z = ⟨20, 0, 7, 0, true, false, 0⟩) ∨ z = ⟨21, 0, 3, 0, false, false, 0⟩) ∨ z = ⟨22, 21, 5, 0, true, false, 0⟩ := fun z => by rw [List.mem_append, m2]; simp
  have get : ∀ j : Nat, j < m → ∃ z ∈ N, z.id = (j : Int) + 1 ∧ z.par = 0 ∧ z.wt = W j ∧ z.thr = true ∧ z.rdy = true := fun j hj => by
    obtain ⟨z, hz, e⟩ := h.has j hj
    rcases h.all z hz with h1 | ⟨i, _, h1, h2⟩
    · omega
    · have : i = j := by omega
      subst this; exact ⟨z, hz, e, h2⟩
  have zc : ∀ j, j < 7 → cntL [0, 0, 0, 0, 0, 0, 0, 0] j = 0 := fun j hj => by
    have : j = 0 ∨ j = 1 ∨ j = 2 ∨ j = 3 ∨ j = 4 ∨ j = 5 ∨ j = 6 := by omega
    rcases this with rfl | rfl | rfl | rfl | rfl | rfl | rfl <;> rfl
  refine ⟨_, _, _, hA, hB, hC, ⟨w3, fun j hj => ?_, fun z hz ht => ?_⟩, rfl, fun j hj => by rw [zc j (by omega)]; omega, 0, fun j hj => ?_⟩
  · obtain ⟨z, hz, e⟩ := get j hj
    exact ⟨z, (m3 z).2 (.inl (.inl (.inl hz))), e⟩
  · rcases (m3 z).1 hz with ((h1 | rfl) | rfl) | rfl
    · rcases h.all z h1 with h2 | ⟨j, hj, h2, _⟩
      · have := (h.wf.sk.rt z h1 h2).2; rw [ht] at this; cases this
      · exact .inl ⟨j, hj, h2⟩
    · exact .inr (.inl rfl)
    · cases ht
    · exact .inr (.inr rfl)
  · obtain ⟨z, hz, e, _⟩ := get j hj
    rw [zc j (by omega), ← e, ps_of w3.sk.nd ((m3 z).2 (.inl (.inl (.inl hz)))), (h.zero z hz).1]; simp
end Go.Proofs.YtfhkgohokbkgiaaGreatDoor
set_option linter.unusedVariables false
set_option linter.unusedSimpArgs false
namespace Go.Proofs.YtfhkgohokbkgiaaGreatDoor
open Go.RowKit G
def IdB (N : List Nr) : Prop := ∀ x ∈ N, x.id ≤ 9223372036854775807
theorem IdB.map {N : List Nr} (h : IdB N) {g : Nr → Nr} (hg : Skel g) : IdB (N.map g) := fun x hx => by
  obtain ⟨y, hy, rfl⟩ := List.mem_map.1 hx
  rw [hg.id]; exact h y hy
theorem readyN_map (N : List Nr) (k : Int) (r : Bool) : ∃ g, Skel g ∧ (readyN N k r).2 = N.map g := by
  have same : ∃ g, Skel g ∧ N = N.map g := ⟨fun x => x, Skel.same, by simp⟩
  rw [readyN]
  cases gt N k with
  | none => exact same
  | some x =>
    simp only
    split
    · split
      · obtain ⟨g, h1, _, h3⟩ := wakeN_map 6 N k; exact ⟨g, h1, h3⟩
      · obtain ⟨g, h1, _, h3⟩ := restN_map 6 N k; exact ⟨g, h1, h3⟩
    · exact same
theorem IdB.ready {N : List Nr} (h : IdB N) (k : Int) (r : Bool) : IdB (readyN N k r).2 := by
  obtain ⟨g, h1, h2⟩ := readyN_map N k r
  rw [h2]; exact h.map h1
theorem IdB.add {N : List Nr} (h : IdB N) (par id wt : Int) (thr : Bool) (hi : id ≤ 9223372036854775807) : IdB (addN N par id wt thr).2 := by
  rw [addN]
  split
  · exact h
  · split
    · exact h
    · split
      · exact h
      · split
        · exact h
        · split
          · exact h
          · split
            · exact h
            · intro x hx
              rcases List.mem_append.1 hx with hx | hx
              · exact h x hx
              · simp at hx; subst hx; exact hi
theorem IdB.remove {N : List Nr} (h : IdB N) (k : Int) : IdB (removeN N k).2 := by
  rw [removeN]
  split
  · exact h
  · split
    · exact h
    · obtain ⟨g, h1, _, h3⟩ := restN_map 6 N k
      intro x hx
      have hx := (List.mem_filter.1 hx).1
      rw [h3] at hx
      exact h.map h1 x hx
theorem IdB.weight {N : List Nr} (h : IdB N) (k W : Int) : IdB (weightN N k W).2 := by
  rw [weightN]
  split
  · exact h
  · split
    · exact h
    · split
      · exact h
      · split
        · exact h
        · exact h.map (skel_ite ⟨fun _ => rfl, fun _ => rfl, fun _ => rfl⟩)
theorem IdB.run {N : List Nr} (h : IdB N) (hw : WFN N) : IdB (runN N).2 := by
  cases hg : gt N 0 with
  | none => rw [runN, hg]; exact h
  | some r =>
    cases hr : r.rdy with
    | true => obtain ⟨y, id, g, h1, h2, _⟩ := run_root hw hg hr; rw [h1]; exact h.map h2.sk
    | false => rw [runN, hg]; simp only [hr, Bool.false_eq_true, if_false]; exact h
theorem nodesN_mem {N : List Nr} (hn : (N.map (·.id)).Nodup) {u : Nat} {y : Nr} (h : (nodesN N)[u]? = some y) : y ∈ N := by
  have hm := List.mem_of_getElem? h
  rw [nodesN] at hm
  obtain ⟨k, hk, rfl⟩ := List.mem_map.1 hm
  obtain ⟨z, hz, rfl⟩ := List.mem_map.1 (sortI_mem.1 hk)
  rw [gt_of hn hz]; exact hz
theorem two_pass {N : List Nr} (hw : WFN N) {x y : Nr} (hx : x ∈ N) (hy : y ∈ N) (h0 : x.id ≠ 0) (hp : x.par = y.par) (hrx : x.rdy = true) (hry : y.rdy = true) : x.pass - y.pass ≤ strd x.wt ∧ y.pass - x.pass ≤ strd y.wt ∧ (0 ≤ x.pass ∧ x.pass ≤ 33554432) ∧ 0 ≤ y.pass ∧ y.pass ≤ 33554432 := by
  obtain ⟨_, p, hpm, hpi, _⟩ := hw.sk.pa x hx h0
  have h1 := hw.pn x hx p hpm hpi
  have h2 := hw.pn y hy p hpm (by rw [hpi, hp])
  have h3 := h1.2 hrx
  have h4 := h2.2 hry
  have h5 := hw.pass x hx
  have h6 := hw.pass y hy
  omega
end Go.Proofs.YtfhkgohokbkgiaaGreatDoor
set_option linter.unusedVariables false
set_option linter.unusedSimpArgs false
namespace Go.Proofs.YtfhkgohokbkgiaaGreatDoor
open Go.RowKit
def tmPlace (id : Int) : List (Int × Int) → Nat × Bool
  | [] => (0, false)
  | x :: r => if id < x.1 then (0, false) else if x.1 = id then (0, true) else ((tmPlace id r).1 + 1, (tmPlace id r).2)
def tmSet (id u : Int) : List (Int × Int) → List (Int × Int)
  | [] => [(id, u)]
  | x :: r => if id < x.1 then (id, u) :: x :: r else if x.1 = id then (id, u) :: r else x :: tmSet id u r
def tmDrop (id : Int) : List (Int × Int) → List (Int × Int)
  | [] => []
  | x :: r => if id < x.1 then x :: r else if x.1 = id then r else x :: tmDrop id r

theorem tmPlace_le (id : Int) : ∀ l, (tmPlace id l).1 ≤ l.length
  | [] => Nat.le_refl _
  | x :: r => by
    have := tmPlace_le id r
    simp only [tmPlace]; split
    · simp
    · split
      · simp
      · simp; omega
theorem tmPlace_there (id u : Int) : ∀ l, (tmPlace id l).2 = true → ∃ x, l[(tmPlace id l).1]? = some x ∧ x.1 = id ∧ tmSet id u l = l.set (tmPlace id l).1 (id, u) ∧ tmDrop id l = l.take (tmPlace id l).1 ++ l.drop ((tmPlace id l).1 + 1)
  | [], h => by simp [tmPlace] at h
  | x :: r, h => by
    simp only [tmPlace] at h ⊢
    by_cases h1 : id < x.1
    · simp [h1] at h
    · by_cases h2 : x.1 = id
      · simp only [if_neg h1, if_pos h2, tmSet, tmDrop]
        exact ⟨x, by simp, h2, by simp, by simp⟩
      · simp only [if_neg h1, if_neg h2, tmSet, tmDrop] at h ⊢
        obtain ⟨y, hy, he, hs, hd⟩ := tmPlace_there id u r h
        exact ⟨y, by simpa using hy, he, by simp [hs], by simp [hd]⟩
theorem tmPlace_not (id u : Int) : ∀ l, (tmPlace id l).2 = false → tmSet id u l = l.take (tmPlace id l).1 ++ (id, u) :: l.drop (tmPlace id l).1 ∧ tmDrop id l = l
  | [], h => by simp [tmPlace, tmSet, tmDrop]
  | x :: r, h => by
    simp only [tmPlace] at h ⊢
    by_cases h1 : id < x.1
    · simp [h1, tmSet, tmDrop]
    · by_cases h2 : x.1 = id
      · simp [h1, h2] at h
      · simp only [if_neg h1, if_neg h2, tmSet, tmDrop] at h ⊢
        obtain ⟨hs, hd⟩ := tmPlace_not id u r h
        exact ⟨by simp [hs], by rw [hd]⟩

def dueOf (t : Int) (l : List (Int × Int)) : List Int := (l.filter (fun p => decide (p.2 ≤ t))).map (·.1)
def restOf (t : Int) (l : List (Int × Int)) : List (Int × Int) := l.filter (fun p => !decide (p.2 ≤ t))
theorem due_take (t : Int) (l : List (Int × Int)) (k : Nat) (y : Int × Int) (hy : l[k]? = some y) : (y.2 ≤ t → dueOf t (l.take (k + 1)) = dueOf t (l.take k) ++ [y.1] ∧ restOf t (l.take (k + 1)) = restOf t (l.take k)) ∧ (t < y.2 → dueOf t (l.take (k + 1)) = dueOf t (l.take k) ∧ restOf t (l.take (k + 1)) = restOf t (l.take k) ++ [y]) := by
  have ht : l.take (k + 1) = l.take k ++ [y] := by rw [List.take_add_one, hy]; rfl
  rw [ht]
  constructor
  · intro h; simp [dueOf, restOf, List.filter_append, h]
  · intro h
    have : ¬ y.2 ≤ t := by omega
    simp [dueOf, restOf, List.filter_append, this]

theorem due_len (t : Int) (l : List (Int × Int)) (k : Nat) : (dueOf t (l.take k)).length ≤ k ∧ (restOf t (l.take k)).length ≤ k := by
  have := List.length_take_le k l
  constructor
  · simp only [dueOf, List.length_map]; exact Nat.le_trans (List.length_filter_le _ _) this
  · exact Nat.le_trans (List.length_filter_le _ _) this

def Srt (l : List (Int × Int)) : Prop := l.Pairwise (fun a b => a.1 < b.1)
theorem Srt.nil : Srt [] := List.Pairwise.nil
theorem mem_tmSet (id u : Int) : ∀ (l : List (Int × Int)), Srt l → ∀ x, x ∈ tmSet id u l ↔ x = (id, u) ∨ (x.1 ≠ id ∧ x ∈ l)
  | [], _, x => by simp [tmSet]
  | y :: r, h, x => by
    have h1 := List.pairwise_cons.1 h
    unfold tmSet
    by_cases hlt : id < y.1
    · rw [if_pos hlt]
      constructor
      · intro hx
        rcases List.mem_cons.1 hx with h | h
        · exact .inl h
        · refine .inr ⟨?_, h⟩
          rcases List.mem_cons.1 h with rfl | h
          · omega
          · have := h1.1 x h; omega
      · rintro (h | ⟨_, h⟩)
        · simp [h]
        · simp [List.mem_cons.1 h]
    · rw [if_neg hlt]
      by_cases he : y.1 = id
      · rw [if_pos he]
        constructor
        · intro hx
          rcases List.mem_cons.1 hx with h | h
          · exact .inl h
          · exact .inr ⟨by have := h1.1 x h; omega, by simp [h]⟩
        · rintro (h | ⟨hn, h⟩)
          · simp [h]
          · rcases List.mem_cons.1 h with rfl | h
            · exact absurd he hn
            · simp [h]
      · rw [if_neg he, List.mem_cons, mem_tmSet id u r h1.2 x, List.mem_cons]
        constructor
        · rintro (rfl | h | ⟨h1, h2⟩)
          · exact .inr ⟨he, .inl rfl⟩
          · exact .inl h
          · exact .inr ⟨h1, .inr h2⟩
        · rintro (h | ⟨h1, rfl | h2⟩)
          · exact .inr (.inl h)
          · exact .inl rfl
          · exact .inr (.inr ⟨h1, h2⟩)
theorem Srt.set {l : List (Int × Int)} (id u : Int) (h : Srt l) : Srt (tmSet id u l) := by
  induction l with
  | nil => exact List.pairwise_singleton _ _
  | cons y r ih =>
    have h1 := List.pairwise_cons.1 h
    unfold tmSet
    by_cases hlt : id < y.1
    · rw [if_pos hlt]
      exact List.pairwise_cons.2 ⟨fun x hx => by
        rcases List.mem_cons.1 hx with rfl | hx
        · exact hlt
        · have := h1.1 x hx; show id < x.1; omega, h⟩
    · rw [if_neg hlt]
      by_cases he : y.1 = id
      · rw [if_pos he]
        exact List.pairwise_cons.2 ⟨fun x hx => by have := h1.1 x hx; show id < x.1; omega, h1.2⟩
      · rw [if_neg he]
        refine List.pairwise_cons.2 ⟨fun x hx => ?_, ih h1.2⟩
        rcases (mem_tmSet id u r h1.2 x).1 hx with rfl | ⟨_, hx⟩
        · show y.1 < id; omega
        · exact h1.1 x hx
theorem tmSet_len (id u : Int) (l : List (Int × Int)) : (tmSet id u l).length ≤ l.length + 1 := by
  induction l with
  | nil => simp [tmSet]
  | cons y r ih => unfold tmSet; split <;> (try split) <;> simp_all
theorem Srt.rest {l : List (Int × Int)} (t : Int) (h : Srt l) : Srt (restOf t l) := List.Pairwise.filter _ h
theorem Srt.due {l : List (Int × Int)} (t : Int) (h : Srt l) : (dueOf t l).Pairwise (· < ·) := by
  unfold dueOf
  exact List.pairwise_map.2 (List.Pairwise.filter _ h)
theorem mem_due {l : List (Int × Int)} (t id : Int) : id ∈ dueOf t l ↔ ∃ u, (id, u) ∈ l ∧ u ≤ t := by
  simp [dueOf]
theorem mem_rest {l : List (Int × Int)} (t : Int) (x : Int × Int) : x ∈ restOf t l ↔ x ∈ l ∧ t < x.2 := by
  simp [restOf]
theorem due_set {l : List (Int × Int)} (h : Srt l) (id u t : Int) : id ∈ dueOf t (tmSet id u l) ↔ u ≤ t := by
  rw [mem_due]
  constructor
  · rintro ⟨v, hv, ht⟩
    rcases (mem_tmSet id u l h _).1 hv with e | ⟨e, _⟩
    · cases e; exact ht
    · exact absurd rfl e
  · intro ht
    exact ⟨u, (mem_tmSet id u l h _).2 (.inl rfl), ht⟩
theorem due_length (t : Int) (l : List (Int × Int)) : (dueOf t l).length + (restOf t l).length = l.length := by
  unfold dueOf restOf
  rw [List.length_map]
  induction l with
  | nil => rfl
  | cons x r ih =>
    rw [List.filter_cons, List.filter_cons]
    cases hd : decide (x.2 ≤ t) <;> simp <;> omega

end Go.Proofs.YtfhkgohokbkgiaaGreatDoor
set_option linter.unusedVariables false
set_option linter.unusedSimpArgs false
namespace Go.Proofs.YtfhkgohokbkgiaaGreatDoor
open Go.RowKit G
/-! ## nodes: who else is made ready, or not -/
theorem wake_thr : ∀ (f : Nat) (N : List Nr) (k : Int), SK N → ∃ g, Skel g ∧ (∀ x ∈ N, x.thr = true → x.id ≠ k → g x = x) ∧ wakeN f N k = N.map g
  | 0, N, k, _ => ⟨fun x => x, Skel.same, fun _ _ _ _ => rfl, by simp [wakeN]⟩
  | f + 1, N, k, hs => by
    rw [wakeN]
    cases hg : gt N k with
    | none => exact ⟨fun x => x, Skel.same, fun _ _ _ _ => rfl, by simp⟩
    | some x0 =>
      obtain ⟨hx0, hk0⟩ := gt_mem hg
      simp only
      by_cases hr : x0.rdy = true
      · rw [if_pos hr]; exact ⟨fun x => x, Skel.same, fun _ _ _ _ => rfl, by simp⟩
      · rw [if_neg hr]
        cases hp : gt N x0.par with
        | none => exact ⟨fun x => if x.id == k then { x with rdy := true } else x, skel_ite (f := fun x => { x with rdy := true }) skF, fun x hx _ h => by simp [h], rfl⟩
        | some p =>
          obtain ⟨hpN, hpi⟩ := gt_mem hp
          have hpt := par_thr hs hx0 hpN hpi
          simp only
          obtain ⟨g, h1, h2, h3⟩ := wake_thr f (upN N k (wkF p.now)) x0.par (hs.upN (wkF_skel _))
          refine ⟨fun x => g (if x.id == k then wkF p.now x else x), (skel_ite (wkF_skel _)).comp h1, fun x hx ht h => ?_, ?_⟩
          · have e : (if x.id == k then wkF p.now x else x) = x := by simp [h]
            show g (if x.id == k then wkF p.now x else x) = x
            rw [e]
            refine h2 x (List.mem_map.2 ⟨x, hx, e⟩) ht fun e2 => ?_
            have := nd_eq hs.nd hx hpN (by rw [e2, hpi])
            subst this; rw [hpt] at ht; cases ht
          · have e : wakeN f (upN N k fun x => { x with rdy := true, pass := mxI x.pass p.now }) x0.par = _ := h3
            rw [e, upN, List.map_map]; rfl
/-- A thread is made ready, or not: it alone of all threads. -/
theorem ready_thr {N : List Nr} (hs : SK N) {k : Int} {x : Nr} (hx : gt N k = some x) (ht : x.thr = true) (r : Bool) :
    ∃ g, readyN N k r = (0, N.map g) ∧ Skel g ∧ (∀ z ∈ N, z.thr = true → z.id ≠ k → g z = z) ∧ ∀ z ∈ N, z.id = k → (g z).rdy = r := by
  rw [readyN, hx]
  simp only [ht, if_true]
  obtain ⟨hxN, hxk⟩ := gt_mem hx
  cases r with
  | false =>
    obtain ⟨g, h1, h2, h3⟩ := rest_same 6 N k hs
    refine ⟨g, by simp [h3], h1, h2, fun z hz hk => ?_⟩
    refine rest_off hs hx ?_ (g z) (by rw [h3]; exact List.mem_map.2 ⟨z, hz, rfl⟩) (by rw [h1.id, hk])
    rw [kidR, List.filter_eq_nil_iff]
    intro a ha
    have := thr_leaf hs hxN ht a ha
    rw [hxk] at this
    simp [this]
  | true =>
    obtain ⟨g, h1, h2, h3⟩ := wake_thr 6 N k hs
    obtain ⟨g', w1, w2, w3⟩ := wake_wk 6 N k
    refine ⟨g, by simp [h3], h1, h2, fun z hz hk => ?_⟩
    have e : g z = g' z := List.map_inj_left.1 (h3.symm.trans w2) z hz
    rw [e]
    exact w3 (by omega) z hz hs.nd hk
/-- A thread that isn't ready. -/
def Off (N : List Nr) (i : Int) : Prop := ∃ x ∈ N, x.id = i ∧ x.thr = true ∧ x.rdy = false
/-- Of N's numbers alone. -/
def Sub (N' N : List Nr) : Prop := ∀ z ∈ N', ∃ v ∈ N, v.id = z.id ∧ v.thr = z.thr
theorem Sub.refl (N : List Nr) : Sub N N := fun z h => ⟨z, h, rfl, rfl⟩
theorem Sub.trans {A B C : List Nr} (h : Sub A B) (k : Sub B C) : Sub A C := fun z hz => by
  obtain ⟨v, hv, e1, e2⟩ := h z hz
  obtain ⟨u, hu, e3, e4⟩ := k v hv
  exact ⟨u, hu, e3.trans e1, e4.trans e2⟩
theorem Sub.map {N : List Nr} {g : Nr → Nr} (hg : Skel g) : Sub (N.map g) N := fun z hz => by
  obtain ⟨v, hv, rfl⟩ := List.mem_map.1 hz
  exact ⟨v, hv, (hg.id v).symm, (hg.thr v).symm⟩
theorem Off.get {N : List Nr} (hs : SK N) {i : Int} (h : Off N i) : ∃ x, gt N i = some x ∧ x.thr = true ∧ x.rdy = false := by
  obtain ⟨x, hx, rfl, h1, h2⟩ := h
  exact ⟨x, gt_of hs.nd hx, h1, h2⟩
theorem ready_sub {N : List Nr} (k : Int) (r : Bool) : Sub (readyN N k r).2 N := by
  obtain ⟨g, hg, e⟩ := readyN_map N k r
  rw [e]; exact Sub.map hg
theorem Off.ready {N : List Nr} (hs : SK N) {i k : Int} {r : Bool} (h : Off N i) (hne : i ≠ k) : Off (readyN N k r).2 i := by
  cases hg : gt N k with
  | none => rw [readyN, hg]; exact h
  | some x =>
    cases ht : x.thr with
    | false => rw [readyN, hg]; simp only [ht]; exact h
    | true =>
      obtain ⟨g, e, hsk, h1, _⟩ := ready_thr hs hg ht r
      obtain ⟨z, hz, rfl, h2, h3⟩ := h
      rw [e]
      refine ⟨z, List.mem_map.2 ⟨z, hz, h1 z hz h2 hne⟩, rfl, h2, h3⟩
theorem Off.self {N : List Nr} (hs : SK N) {k : Int} {x : Nr} (hx : gt N k = some x) (ht : x.thr = true) : Off (readyN N k false).2 k := by
  obtain ⟨g, e, hsk, _, h1⟩ := ready_thr hs hx ht false
  obtain ⟨hxN, hxk⟩ := gt_mem hx
  rw [e]
  exact ⟨g x, List.mem_map.2 ⟨x, hxN, rfl⟩, by rw [hsk.id, hxk], by rw [hsk.thr, ht], h1 x hxN hxk⟩
theorem add_cases (N : List Nr) (par id wt : Int) (thr : Bool) : (∃ e, e ≠ 0 ∧ addN N par id wt thr = (e, N)) ∨ ∃ p, gt N par = some p ∧ gt N id = none ∧ addN N par id wt thr = (0, N ++ [{ id, par, wt, pass := p.now, thr, rdy := false, now := 0 }]) := by
  unfold addN
  split
  · exact .inl ⟨10, by decide, rfl⟩
  · split
    · exact .inl ⟨13, by decide, rfl⟩
    · rename_i p hp
      split
      · exact .inl ⟨13, by decide, rfl⟩
      · split
        · exact .inl ⟨20, by decide, rfl⟩
        · rename_i hn
          split
          · exact .inl ⟨12, by decide, rfl⟩
          · split
            · exact .inl ⟨14, by decide, rfl⟩
            · exact .inr ⟨p, hp, by cases hc : gt N id with | none => rfl | some y => exact absurd (by rw [hc]; rfl) hn, rfl⟩
theorem Off.add {N : List Nr} {i : Int} (h : Off N i) (par id wt : Int) (thr : Bool) : Off (addN N par id wt thr).2 i := by
  rcases add_cases N par id wt thr with ⟨e, _, h1⟩ | ⟨p, _, _, h1⟩
  · rw [h1]; exact h
  · rw [h1]
    obtain ⟨x, hx, r⟩ := h
    exact ⟨x, List.mem_append_left _ hx, r⟩
theorem remove_sub {N : List Nr} (k : Int) : Sub (removeN N k).2 N := by
  unfold removeN
  split
  · exact Sub.refl N
  · split
    · exact Sub.refl N
    · obtain ⟨g, hg1, _, hg3⟩ := restN_map 6 N k
      rw [hg3]
      exact fun z hz => Sub.map hg1 z (List.mem_filter.1 hz).1
theorem Off.remove {N : List Nr} (hs : SK N) {i : Int} (h : Off N i) {k : Int} (hne : i ≠ k) : Off (removeN N k).2 i := by
  unfold removeN
  split
  · exact h
  · split
    · exact h
    · obtain ⟨g, h1, h2, h3⟩ := rest_same 6 N k hs
      obtain ⟨x, hx, rfl, h4, h5⟩ := h
      rw [h3]
      exact ⟨x, List.mem_filter.2 ⟨List.mem_map.2 ⟨x, hx, h2 x hx h4 hne⟩, by simpa using hne⟩, rfl, h4, h5⟩
theorem weight_sub {N : List Nr} (k W : Int) : Sub (weightN N k W).2 N := (weight_keep k W).2
theorem Off.weight {N : List Nr} {i : Int} (h : Off N i) (k W : Int) : Off (weightN N k W).2 i := by
  obtain ⟨x, hx, rfl, h1, h2⟩ := h
  rw [weightN]
  split
  · exact ⟨x, hx, rfl, h1, h2⟩
  · split
    · exact ⟨x, hx, rfl, h1, h2⟩
    · split
      · exact ⟨x, hx, rfl, h1, h2⟩
      · split
        · exact ⟨x, hx, rfl, h1, h2⟩
        · by_cases c : x.id = k
          · exact ⟨_, mem_upN.2 ⟨x, hx, .inl ⟨c, rfl⟩⟩, rfl, h1, h2⟩
          · exact ⟨_, mem_upN.2 ⟨x, hx, .inr ⟨c, rfl⟩⟩, rfl, h1, h2⟩
theorem run_still {N : List Nr} (hw : WFN N) : ∃ g, Still g ∧ (runN N).2 = N.map g := by
  cases hg : gt N 0 with
  | none => exact ⟨fun x => x, Still.same, by rw [runN, hg]; simp⟩
  | some r =>
    cases hr : r.rdy with
    | true => obtain ⟨y, id, g, h1, h2, _⟩ := run_root hw hg hr; exact ⟨g, h2, by rw [h1]⟩
    | false => exact ⟨fun x => x, Still.same, by rw [runN, hg]; simp [hr]⟩
theorem Off.still {N : List Nr} {i : Int} (h : Off N i) {g : Nr → Nr} (hg : Still g) : Off (N.map g) i := by
  obtain ⟨x, hx, rfl, h1, h2⟩ := h
  exact ⟨g x, List.mem_map.2 ⟨x, hx, rfl⟩, hg.sk.id x, (hg.sk.thr x).trans h1, (hg.rdy x).trans h2⟩
/-! ## timers -/
theorem mem_tmDrop (id : Int) : ∀ (l : List (Int × Int)), Srt l → ∀ x, x ∈ tmDrop id l ↔ x.1 ≠ id ∧ x ∈ l
  | [], _, x => by simp [tmDrop]
  | y :: r, h, x => by
    have h1 := List.pairwise_cons.1 h
    unfold tmDrop
    by_cases hlt : id < y.1
    · rw [if_pos hlt]
      refine ⟨fun hx => ⟨?_, hx⟩, fun hx => hx.2⟩
      rcases List.mem_cons.1 hx with rfl | hx
      · omega
      · have := h1.1 x hx; omega
    · rw [if_neg hlt]
      by_cases he : y.1 = id
      · rw [if_pos he]
        refine ⟨fun hx => ⟨by have := h1.1 x hx; omega, by simp [hx]⟩, fun ⟨h2, h3⟩ => ?_⟩
        rcases List.mem_cons.1 h3 with rfl | h3
        · exact absurd he h2
        · exact h3
      · rw [if_neg he, List.mem_cons, mem_tmDrop id r h1.2 x, List.mem_cons]
        constructor
        · rintro (rfl | ⟨h2, h3⟩)
          · exact ⟨he, .inl rfl⟩
          · exact ⟨h2, .inr h3⟩
        · rintro ⟨h2, rfl | h3⟩
          · exact .inl rfl
          · exact .inr ⟨h2, h3⟩
theorem tmDrop_sub (id : Int) : ∀ (l : List (Int × Int)), (tmDrop id l).Sublist l
  | [] => List.Sublist.refl _
  | y :: r => by
    unfold tmDrop
    split
    · exact List.Sublist.refl _
    · split
      · exact List.sublist_cons_self _ _
      · exact (tmDrop_sub id r).cons_cons _
theorem Srt.drop {l : List (Int × Int)} (id : Int) (h : Srt l) : Srt (tmDrop id l) := List.Pairwise.sublist (tmDrop_sub id l) h
/-! ## objects -/
abbrev Ob := Int × List Int
def isOb (j : Int) : Bool := decide (j ≥ 0) && decide (j < 4)
def obHas (O : List Ob) (id : Int) : Bool := O.any fun o => o.2.contains id
def obAt (O : List Ob) (j : Int) : Ob := O.getD j.toNat (0, [])
def obWait (O : List Ob) (id j : Int) : (Bool × Int) × List Ob :=
  if isOb j = false then ((false, 10), O) else if obHas O id then ((false, 20), O)
  else if (obAt O j).1 > 0 then ((true, 0), O.set j.toNat ((obAt O j).1 - 1, (obAt O j).2)) else ((false, 0), O.set j.toNat ((obAt O j).1, (obAt O j).2 ++ [id]))
def obSig (O : List Ob) (j : Int) : (Int × Bool × Int) × List Ob :=
  if isOb j = false then ((0, false, 10), O) else match (obAt O j).2 with
    | [] => ((0, false, 0), O.set j.toNat (mnI ((obAt O j).1 + 1) 255, []))
    | x :: r => ((x, true, 0), O.set j.toNat ((obAt O j).1, r))
def obCut (O : List Ob) (id : Int) : List Ob := O.map fun o => (o.1, o.2.filter fun n => !(n == id))
/-! ## a kernel -/
structure KS where
  N : List Nr
  tm : List (Int × Int)
  ob : List Ob
  mt : Int
  mg : Int
  nx : Int
def isT (N : List Nr) (k : Int) : Bool := (gt N k).isSome && ((gt N k).getD zeroN).thr
def isR (N : List Nr) (k : Int) : Bool := (gt N k).isSome && ((gt N k).getD zeroN).thr && ((gt N k).getD zeroN).rdy
def kcnt (N : List Nr) (thr : Bool) : Int := ((N.filter fun x => x.thr == thr && !(x.id == 0)).length : Int)
def kadds (s : KS) (par wt most : Int) (thr : Bool) : (Int × Int) × KS :=
  if isW wt = false then ((0, 10), s) else if (gt s.N par).isNone ∨ ((gt s.N par).getD zeroN).thr = true then ((0, 13), s) else if kcnt s.N thr ≥ most then ((0, 14), s)
  else if (addN s.N par s.nx wt thr).1 ≠ 0 then ((0, (addN s.N par s.nx wt thr).1), s) else ((s.nx, 0), { s with N := (addN s.N par s.nx wt thr).2, nx := s.nx + 1 })
def kspawn (s : KS) (par wt : Int) : (Int × Int) × KS :=
  if (kadds s par wt s.mt true).1.2 ≠ 0 then ((0, (kadds s par wt s.mt true).1.2), (kadds s par wt s.mt true).2)
  else (((kadds s par wt s.mt true).1.1, (readyN (kadds s par wt s.mt true).2.N (kadds s par wt s.mt true).1.1 true).1), { (kadds s par wt s.mt true).2 with N := (readyN (kadds s par wt s.mt true).2.N (kadds s par wt s.mt true).1.1 true).2 })
def kgroup (s : KS) (par wt : Int) : (Int × Int) × KS := kadds s par wt s.mg false
def kexit (s : KS) (id : Int) : Int × KS := if isT s.N id = false then (13, s) else ((removeN s.N id).1, { s with N := (removeN s.N id).2, tm := tmDrop id s.tm, ob := obCut s.ob id })
def ksleep (s : KS) (id u : Int) : Int × KS := if isR s.N id = false then (13, s) else ((readyN s.N id false).1, { s with N := (readyN s.N id false).2, tm := tmSet id u s.tm })
def kwait (s : KS) (id j : Int) : (Bool × Int) × KS :=
  if isR s.N id = false then ((false, 13), s) else if (obWait s.ob id j).1.2 ≠ 0 ∨ (obWait s.ob id j).1.1 = true then ((obWait s.ob id j).1, { s with ob := (obWait s.ob id j).2 })
  else ((false, (readyN s.N id false).1), { s with N := (readyN s.N id false).2, ob := (obWait s.ob id j).2 })
def ksignal (s : KS) (j : Int) : Int × KS :=
  if (obSig s.ob j).1.2.2 ≠ 0 ∨ (obSig s.ob j).1.2.1 = false then ((obSig s.ob j).1.2.2, { s with ob := (obSig s.ob j).2 })
  else ((readyN s.N (obSig s.ob j).1.1 true).1, { s with N := (readyN s.N (obSig s.ob j).1.1 true).2, ob := (obSig s.ob j).2 })
def kweight (s : KS) (id W : Int) : Int × KS := ((weightN s.N id W).1, { s with N := (weightN s.N id W).2 })
def wakeL (N : List Nr) (l : List Int) : List Nr := l.foldl (fun N i => (readyN N i true).2) N
def kwake (s : KS) (t : Int) : List Int × KS := (dueOf t s.tm, { s with N := wakeL s.N (dueOf t s.tm), tm := restOf t s.tm })
def krun (s : KS) : (Int × Bool) × KS := ((runN s.N).1, { s with N := (runN s.N).2 })
def krunnable (s : KS) : Bool := ((gt s.N 0).getD zeroN).rdy
def kthreads (s : KS) : List Int := ((nodesN s.N).filter (·.thr)).map (·.id)
/-- What holds of a kernel all the time. -/
structure KOk (s : KS) : Prop where
  wf : WFN s.N
  ids : ∀ x ∈ s.N, x.id < s.nx
  nx : 1 ≤ s.nx
  mt : 1 ≤ s.mt ∧ s.mt ≤ 8
  mg : 0 ≤ s.mg ∧ s.mg ≤ 4
  ct : kcnt s.N true ≤ s.mt ∧ kcnt s.N false ≤ s.mg
  tm : Srt s.tm
  tmo : ∀ p ∈ s.tm, Off s.N p.1
  ob : s.ob.length = 4
  obc : ∀ o ∈ s.ob, 0 ≤ o.1 ∧ o.1 ≤ 255
  obo : ∀ o ∈ s.ob, ∀ i ∈ o.2, Off s.N i
  obn : ∀ o ∈ s.ob, o.2.Nodup
  obd : ∀ (i j : Nat) (a b : Ob), i ≠ j → s.ob[i]? = some a → s.ob[j]? = some b → ∀ x ∈ a.2, x ∉ b.2
  dis : ∀ p ∈ s.tm, ∀ o ∈ s.ob, p.1 ∉ o.2
theorem isT_iff {N : List Nr} {k : Int} : isT N k = true ↔ ∃ x, gt N k = some x ∧ x.thr = true := by
  unfold isT
  cases gt N k with
  | none => simp
  | some x => simp
theorem isR_iff {N : List Nr} {k : Int} : isR N k = true ↔ ∃ x, gt N k = some x ∧ x.thr = true ∧ x.rdy = true := by
  unfold isR
  cases gt N k with
  | none => simp
  | some x => simp
theorem Off.ne {N : List Nr} (hs : SK N) {i k : Int} (h : Off N i) (hk : isR N k = true) : i ≠ k := by
  rintro rfl
  obtain ⟨x, h1, _, h2⟩ := h.get hs
  obtain ⟨y, h3, _, h4⟩ := isR_iff.1 hk
  rw [h1] at h3; cases h3; rw [h2] at h4; cases h4
theorem ids_sub {N' N : List Nr} {n : Int} (h : Sub N' N) (hi : ∀ x ∈ N, x.id < n) : ∀ x ∈ N', x.id < n := fun x hx => by
  obtain ⟨v, hv, e, _⟩ := h x hx
  have := hi v hv
  omega
def CtLe (N' N : List Nr) : Prop := ∀ b, kcnt N' b ≤ kcnt N b
theorem CtLe.le {N' N : List Nr} (h : CtLe N' N) {a b : Int} (k : kcnt N true ≤ a ∧ kcnt N false ≤ b) : kcnt N' true ≤ a ∧ kcnt N' false ≤ b := ⟨Int.le_trans (h true) k.1, Int.le_trans (h false) k.2⟩
theorem kcnt_skel {g : Nr → Nr} (hg : Skel g) (N : List Nr) (b : Bool) : kcnt (N.map g) b = kcnt N b := by
  unfold kcnt
  rw [List.filter_map, List.length_map]
  congr 2
  exact List.filter_congr fun x _ => by simp [Function.comp, hg.thr, hg.id]
theorem CtLe.map {g : Nr → Nr} (hg : Skel g) (N : List Nr) : CtLe (N.map g) N := fun b => Int.le_of_eq (kcnt_skel hg N b)
theorem kcnt_add (N : List Nr) (n : Nr) (hn : n.id ≠ 0) (b : Bool) : kcnt (N ++ [n]) b = kcnt N b + if n.thr = b then 1 else 0 := by
  unfold kcnt
  rw [List.filter_append, List.length_append]
  have h0 : (n.id == 0) = false := by simpa using hn
  by_cases c : n.thr = b
  · have : (n.thr == b) = true := by simpa using c
    simp [this, h0, c]
  · have : (n.thr == b) = false := by simpa using c
    simp [this, c]
theorem ready_ct {N : List Nr} (k : Int) (r : Bool) : CtLe (readyN N k r).2 N := by
  obtain ⟨g, hg, e⟩ := readyN_map N k r
  rw [e]; exact CtLe.map hg N
theorem remove_ct {N : List Nr} (k : Int) : CtLe (removeN N k).2 N := by
  unfold removeN
  split
  · exact fun b => Int.le_refl _
  · split
    · exact fun b => Int.le_refl _
    · obtain ⟨g, hg1, _, hg3⟩ := restN_map 6 N k
      rw [hg3]
      intro b
      rw [← kcnt_skel hg1 N b]
      unfold kcnt
      exact Int.ofNat_le.2 ((List.filter_sublist.filter _).length_le)
theorem weight_ct {N : List Nr} (k W : Int) : CtLe (weightN N k W).2 N := by
  rw [weightN]
  split
  · exact fun b => Int.le_refl _
  · split
    · exact fun b => Int.le_refl _
    · split
      · exact fun b => Int.le_refl _
      · split
        · exact fun b => Int.le_refl _
        · rename_i x _ _ p _
          exact CtLe.map (skel_ite (k := k) (f := fun x => { x with pass := scaleN x.pass p.now x.wt W, wt := W }) ⟨fun _ => rfl, fun _ => rfl, fun _ => rfl⟩) N
theorem wakeL_ct : ∀ (l : List Int) (N : List Nr), CtLe (wakeL N l) N
  | [], N => fun b => Int.le_refl _
  | k :: l, N => fun b => Int.le_trans (wakeL_ct l _ b) (ready_ct k true b)
theorem kcnt_len (N : List Nr) (hs : SK N) : (N.length : Int) = 1 + kcnt N true + kcnt N false := by
  have h1 : N.length = (N.filter fun x => x.id == 0).length + (N.filter fun x => !(x.id == 0)).length := by
    rw [← List.countP_eq_length_filter, ← List.countP_eq_length_filter]
    have h0 := List.length_eq_countP_add_countP (fun x : Nr => x.id == 0) (l := N)
    rw [h0]; congr 2; funext a; cases c : (a.id == 0) <;> simp_all
  have h2 : (N.filter fun x => !(x.id == 0)).length = (N.filter fun x => x.thr == true && !(x.id == 0)).length + (N.filter fun x => x.thr == false && !(x.id == 0)).length := by
    have h3 := List.length_eq_countP_add_countP (fun x : Nr => x.thr == true) (l := N.filter fun x => !(x.id == 0))
    rw [h3, List.countP_eq_length_filter, List.countP_eq_length_filter, List.filter_filter, List.filter_filter]
    congr 2
    exact List.filter_congr fun x _ => by cases x.thr <;> simp
  have h4 : (N.filter fun x => x.id == 0).length = 1 := by
    obtain ⟨r, hr, hr0⟩ := hs.root
    have hn : ((N.filter fun x => x.id == 0).map (·.id)).Nodup := (List.filter_sublist.map _).nodup hs.nd
    cases hl : N.filter fun x => x.id == 0 with
    | nil => exact absurd (List.mem_filter (p := fun x : Nr => x.id == 0).2 ⟨hr, by simpa using hr0⟩) (by rw [hl]; simp)
    | cons a t =>
      cases t with
      | nil => rfl
      | cons b t =>
        exfalso
        have ha : a.id = 0 := by have : a ∈ N.filter fun x => x.id == 0 := by rw [hl]; simp
                                 simpa using (List.mem_filter.1 this).2
        have hb : b.id = 0 := by have : b ∈ N.filter fun x => x.id == 0 := by rw [hl]; simp
                                 simpa using (List.mem_filter.1 this).2
        rw [hl] at hn
        simp [ha, hb] at hn
  unfold kcnt
  omega
/-- Other nodes, where those who aren't ready still aren't. -/
theorem KOk.node {s : KS} (h : KOk s) {N' : List Nr} {n : Int} (hw : WFN N') (hn : s.nx ≤ n) (hi : ∀ x ∈ N', x.id < n) (hc : kcnt N' true ≤ s.mt ∧ kcnt N' false ≤ s.mg) (ho : ∀ i, Off s.N i → Off N' i) : KOk { s with N := N', nx := n } :=
  ⟨hw, hi, by have := h.nx; show 1 ≤ n; omega, h.mt, h.mg, hc, h.tm, fun p hp => ho _ (h.tmo p hp), h.ob, h.obc, fun o hx i hi => ho _ (h.obo o hx i hi), h.obn, h.obd, h.dis⟩
theorem kadds_ok {s : KS} (h : KOk s) (par wt most : Int) (thr : Bool) (hm : most = if thr then s.mt else s.mg) : KOk (kadds s par wt most thr).2 ∧ ∀ i, Off s.N i → Off (kadds s par wt most thr).2.N i ∧ i < s.nx := by
  have hlt : ∀ i, Off s.N i → i < s.nx := fun i hi => by obtain ⟨x, hx, e, _⟩ := hi; rw [← e]; exact h.ids x hx
  have same : KOk s ∧ ∀ i, Off s.N i → Off s.N i ∧ i < s.nx := ⟨h, fun i hi => ⟨hi, hlt i hi⟩⟩
  unfold kadds
  split
  · exact same
  · split
    · exact same
    · split
      · exact same
      · rename_i hct
        split
        · exact same
        · rename_i hz
          rcases add_cases s.N par s.nx wt thr with ⟨e, he, h1⟩ | ⟨p, _, _, h1⟩
          · exact absurd (by rw [h1]; exact he) hz
          · have h1' : (addN s.N par s.nx wt thr).2 = _ := congrArg Prod.snd h1
            refine ⟨h.node (add_wf h.wf _ _ _ _) (by omega) ?_ ?_ (fun i hi => hi.add _ _ _ _), fun i hi => ⟨hi.add _ _ _ _, hlt i hi⟩⟩
            · rw [h1']
              intro x hx
              rcases List.mem_append.1 hx with hx | hx
              · have := h.ids x hx; omega
              · simp at hx; subst hx; show s.nx < s.nx + 1; omega
            · have hnx := h.nx
              have hc1 := h.ct.1
              have hc2 := h.ct.2
              rw [h1', kcnt_add _ _ (by show s.nx ≠ 0; omega), kcnt_add _ _ (by show s.nx ≠ 0; omega)]
              cases thr with
              | true => simp at hm ⊢; omega
              | false => simp at hm ⊢; omega
theorem kadds_id {s : KS} {par wt most : Int} {thr : Bool} (h : (kadds s par wt most thr).1.2 = 0) : (kadds s par wt most thr).1.1 = s.nx ∧ (kadds s par wt most thr).2 = { s with N := (addN s.N par s.nx wt thr).2, nx := s.nx + 1 } ∧ (addN s.N par s.nx wt thr).1 = 0 ∧ isW wt = true ∧ kcnt s.N thr < most := by
  unfold kadds at h ⊢
  split at h
  · cases h
  · split at h
    · cases h
    · split at h
      · cases h
      · split at h
        · rename_i c; exact absurd h c
        · rename_i c1 c2 c3 c4
          rw [if_neg c1, if_neg c2, if_neg c3, if_neg c4]
          exact ⟨rfl, rfl, by simpa using c4, by simpa using c1, by omega⟩
theorem kspawn_ok {s : KS} (h : KOk s) (par wt : Int) : KOk (kspawn s par wt).2 := by
  obtain ⟨h1, h2⟩ := kadds_ok h par wt s.mt true rfl
  unfold kspawn
  split
  · exact h1
  · rename_i c
    obtain ⟨e1, e2, _⟩ := kadds_id (by simpa using c : (kadds s par wt s.mt true).1.2 = 0)
    rw [e1]
    rw [e2] at h1 ⊢
    refine ⟨ready_wf h1.wf _ _, ids_sub (ready_sub _ _) h1.ids, h1.nx, h1.mt, h1.mg, (ready_ct _ _).le h1.ct, h1.tm, fun p hp => ?_, h1.ob, h1.obc, fun o ho i hi => ?_, h1.obn, h1.obd, h1.dis⟩
    · have h3 := h2 _ (h.tmo p hp)
      exact (h1.tmo p hp).ready h1.wf.sk (by have := h3.2; omega)
    · have h3 := h2 _ (h.obo o ho i hi)
      exact (h1.obo o ho i hi).ready h1.wf.sk (by have := h3.2; omega)
theorem kgroup_ok {s : KS} (h : KOk s) (par wt : Int) : KOk (kgroup s par wt).2 := (kadds_ok h par wt s.mg false rfl).1
theorem mem_obCut {O : List Ob} {id : Int} {o : Ob} : o ∈ obCut O id → ∃ a ∈ O, o = (a.1, a.2.filter fun n => !(n == id)) := fun h => by
  obtain ⟨a, ha, rfl⟩ := List.mem_map.1 h
  exact ⟨a, ha, rfl⟩
theorem kexit_ok {s : KS} (h : KOk s) (id : Int) : KOk (kexit s id).2 := by
  unfold kexit
  split
  · exact h
  · refine ⟨remove_wf h.wf id, ids_sub (remove_sub id) h.ids, h.nx, h.mt, h.mg, (remove_ct _).le h.ct, h.tm.drop id, fun p hp => ?_, by show (obCut s.ob id).length = 4; rw [obCut, List.length_map]; exact h.ob, fun o ho => ?_, fun o ho i hi => ?_, fun o ho => ?_, fun i j a b hij ha hb x hxa hxb => ?_, fun p hp o ho hx => ?_⟩
    · obtain ⟨h1, h2⟩ := (mem_tmDrop id s.tm h.tm p).1 hp
      exact (h.tmo p h2).remove h.wf.sk h1
    · obtain ⟨a, ha, rfl⟩ := mem_obCut ho
      exact h.obc a ha
    · obtain ⟨a, ha, rfl⟩ := mem_obCut ho
      obtain ⟨h1, h2⟩ := List.mem_filter.1 hi
      exact (h.obo a ha i h1).remove h.wf.sk (by simpa using h2)
    · obtain ⟨a, ha, rfl⟩ := mem_obCut ho
      exact (h.obn a ha).filter _
    · simp only [obCut, List.getElem?_map, Option.map_eq_some_iff] at ha hb
      obtain ⟨a', ha', rfl⟩ := ha
      obtain ⟨b', hb', rfl⟩ := hb
      exact h.obd i j a' b' hij ha' hb' x (List.mem_filter.1 hxa).1 (List.mem_filter.1 hxb).1
    · obtain ⟨a, ha, rfl⟩ := mem_obCut ho
      exact h.dis p ((mem_tmDrop id s.tm h.tm p).1 hp).2 a ha (List.mem_filter.1 hx).1
theorem ksleep_ok {s : KS} (h : KOk s) (id u : Int) : KOk (ksleep s id u).2 := by
  unfold ksleep
  split
  · exact h
  · rename_i c
    have hr : isR s.N id = true := by simpa using c
    obtain ⟨x, hx, ht, _⟩ := isR_iff.1 hr
    refine ⟨ready_wf h.wf _ _, ids_sub (ready_sub _ _) h.ids, h.nx, h.mt, h.mg, (ready_ct _ _).le h.ct, h.tm.set id u, fun p hp => ?_, h.ob, h.obc, fun o ho i hi => ?_, h.obn, h.obd, fun p hp o ho hx => ?_⟩
    · rcases (mem_tmSet id u s.tm h.tm p).1 hp with rfl | ⟨h1, h2⟩
      · exact Off.self h.wf.sk hx ht
      · exact (h.tmo p h2).ready h.wf.sk h1
    · have := h.obo o ho i hi
      exact this.ready h.wf.sk (this.ne h.wf.sk hr)
    · rcases (mem_tmSet id u s.tm h.tm p).1 hp with rfl | ⟨h1, h2⟩
      · exact (h.obo o ho id hx).ne h.wf.sk hr rfl
      · exact h.dis p h2 o ho hx
theorem obAt_some {O : List Ob} (hl : O.length = 4) {j : Int} (hj : isOb j = true) : O[j.toNat]? = some (obAt O j) ∧ (obAt O j) ∈ O ∧ j.toNat < O.length := by
  simp [isOb] at hj
  have h : j.toNat < O.length := by omega
  have e : O[j.toNat]? = some (obAt O j) := by rw [obAt, List.getD_eq_getElem?_getD, List.getElem?_eq_getElem h]; rfl
  exact ⟨e, List.mem_of_getElem? e, h⟩
theorem mem_set {O : List Ob} {j : Nat} {o a : Ob} (h : o ∈ O.set j a) : o = a ∨ o ∈ O := by
  rcases List.mem_or_eq_of_mem_set h with h | h
  · exact .inr h
  · exact .inl h
/-- Another object, of whose waiters none waits elsewhere. -/
theorem obd_set {O : List Ob} (hd : ∀ (i j : Nat) (a b : Ob), i ≠ j → O[i]? = some a → O[j]? = some b → ∀ x ∈ a.2, x ∉ b.2) {j : Nat} {o : Ob} (hn : ∀ (i : Nat) (a : Ob), i ≠ j → O[i]? = some a → ∀ x ∈ a.2, x ∉ o.2) :
    ∀ (i k : Nat) (a b : Ob), i ≠ k → (O.set j o)[i]? = some a → (O.set j o)[k]? = some b → ∀ x ∈ a.2, x ∉ b.2 := by
  intro i k a b hik ha hb x hxa hxb
  rw [List.getElem?_set] at ha hb
  by_cases ci : j = i
  · by_cases ck : j = k
    · exact hik (ci.symm.trans ck)
    · rw [if_pos ci] at ha
      rw [if_neg ck] at hb
      split at ha
      · cases ha
        exact hn k b (fun e => ck e.symm) hb x hxb hxa
      · cases ha
  · rw [if_neg ci] at ha
    by_cases ck : j = k
    · rw [if_pos ck] at hb
      split at hb
      · cases hb
        exact hn i a (fun e => ci e.symm) ha x hxa hxb
      · cases hb
    · rw [if_neg ck] at hb
      exact hd i k a b hik ha hb x hxa hxb
theorem obHas_no {O : List Ob} {id : Int} (h : ¬ obHas O id = true) : ∀ o ∈ O, id ∉ o.2 := fun o ho hi => h (by
  rw [obHas, List.any_eq_true]; exact ⟨o, ho, by simpa using hi⟩)
theorem kwait_ok {s : KS} (h : KOk s) (id j : Int) : KOk (kwait s id j).2 := by
  have put : ∀ o : Ob, isOb j = true → 0 ≤ o.1 → o.1 ≤ 255 → o.2 = (obAt s.ob j).2 → KOk { s with ob := s.ob.set j.toNat o } := fun o hj h0 h1 he => by
    obtain ⟨a1, a2, a3⟩ := obAt_some h.ob hj
    refine ⟨h.wf, h.ids, h.nx, h.mt, h.mg, h.ct, h.tm, h.tmo, by simp [h.ob], fun p hp => ?_, fun p hp i hi => ?_, fun p hp => ?_, obd_set h.obd fun i a hi ha x hx hxo => ?_, fun p hp q hq => ?_⟩
    · rcases mem_set hp with rfl | hp
      · exact ⟨h0, h1⟩
      · exact h.obc p hp
    · rcases mem_set hp with rfl | hp
      · exact h.obo _ a2 i (he ▸ hi)
      · exact h.obo p hp i hi
    · rcases mem_set hp with rfl | hp
      · rw [he]; exact h.obn _ a2
      · exact h.obn p hp
    · exact h.obd i _ a _ hi ha a1 x hx (he ▸ hxo)
    · rcases mem_set hq with rfl | hq
      · rw [he]; exact h.dis p hp _ a2
      · exact h.dis p hp q hq
  unfold kwait
  split
  · exact h
  · rename_i c
    have hr : isR s.N id = true := by simpa using c
    obtain ⟨x, hx, ht, _⟩ := isR_iff.1 hr
    unfold obWait
    by_cases hj : isOb j = false
    · rw [if_pos hj]; simp; exact h
    · rw [if_neg hj]
      have hj : isOb j = true := by simpa using hj
      obtain ⟨a1, a2, a3⟩ := obAt_some h.ob hj
      by_cases hh : obHas s.ob id = true
      · rw [if_pos hh]; simp; exact h
      · rw [if_neg hh]
        by_cases hc : (obAt s.ob j).1 > 0
        · rw [if_pos hc]; simp only [or_true, if_true]
          exact put _ hj (by have := h.obc _ a2; simp only; omega) (by have := h.obc _ a2; simp only; omega) rfl
        · rw [if_neg hc]; simp
          have hno := obHas_no hh
          refine ⟨ready_wf h.wf _ _, ids_sub (ready_sub _ _) h.ids, h.nx, h.mt, h.mg, (ready_ct _ _).le h.ct, h.tm, fun p hp => ?_, by simp [h.ob], fun p hp => ?_, fun p hp i hi => ?_, fun p hp => ?_, obd_set h.obd fun i a hi ha y hy hxo => ?_, fun p hp q hq => ?_⟩
          · have := h.tmo p hp
            exact this.ready h.wf.sk (this.ne h.wf.sk hr)
          · rcases mem_set hp with rfl | hp
            · show 0 ≤ (obAt s.ob j).1 ∧ (obAt s.ob j).1 ≤ 255; exact h.obc _ a2
            · exact h.obc p hp
          · rcases mem_set hp with rfl | hp
            · rcases List.mem_append.1 hi with hi | hi
              · have := h.obo _ a2 i hi
                exact this.ready h.wf.sk (this.ne h.wf.sk hr)
              · simp at hi; subst hi; exact Off.self h.wf.sk hx ht
            · have := h.obo p hp i hi
              exact this.ready h.wf.sk (this.ne h.wf.sk hr)
          · rcases mem_set hp with rfl | hp
            · refine List.nodup_append.2 ⟨h.obn _ a2, by simp, fun a ha b hb => ?_⟩
              simp at hb; subst hb
              rintro rfl; exact hno _ a2 ha
            · exact h.obn p hp
          · rcases List.mem_append.1 hxo with hxo | hxo
            · exact h.obd i _ a _ hi ha a1 y hy hxo
            · simp at hxo; subst hxo; exact hno _ (List.mem_of_getElem? ha) hy
          · rcases mem_set hq with rfl | hq
            · intro hm
              rcases List.mem_append.1 hm with hm | hm
              · exact h.dis p hp _ a2 hm
              · simp at hm; exact (h.tmo p hp).ne h.wf.sk hr hm
            · exact h.dis p hp q hq
theorem mnI_le (a : Int) : mnI a 255 ≤ 255 ∧ (0 ≤ a → 0 ≤ mnI a 255) := by
  unfold mnI; split <;> constructor <;> omega
theorem ksignal_ok {s : KS} (h : KOk s) (j : Int) : KOk (ksignal s j).2 := by
  unfold ksignal obSig
  by_cases hj : isOb j = false
  · rw [if_pos hj]; simp; exact h
  · rw [if_neg hj]
    have hj : isOb j = true := by simpa using hj
    obtain ⟨a1, a2, a3⟩ := obAt_some h.ob hj
    cases hl : (obAt s.ob j).2 with
    | nil =>
      simp
      refine ⟨h.wf, h.ids, h.nx, h.mt, h.mg, h.ct, h.tm, h.tmo, by simp [h.ob], fun p hp => ?_, fun p hp i hi => ?_, fun p hp => ?_, obd_set h.obd fun i a hi ha x hx hxo => by simp at hxo, fun p hp q hq => ?_⟩
      · rcases mem_set hp with rfl | hp
        · exact ⟨(mnI_le _).2 (by have := h.obc _ a2; omega), (mnI_le _).1⟩
        · exact h.obc p hp
      · rcases mem_set hp with rfl | hp
        · simp at hi
        · exact h.obo p hp i hi
      · rcases mem_set hp with rfl | hp
        · simp
        · exact h.obn p hp
      · rcases mem_set hq with rfl | hq
        · simp
        · exact h.dis p hp q hq
    | cons x r =>
      simp
      have hxr := h.obn _ a2
      rw [hl] at hxr
      obtain ⟨hx, hr⟩ := List.nodup_cons.1 hxr
      have hm : ∀ y ∈ r, y ∈ (obAt s.ob j).2 := fun y hy => by rw [hl]; simp [hy]
      have hxm : x ∈ (obAt s.ob j).2 := by rw [hl]; simp
      refine ⟨ready_wf h.wf _ _, ids_sub (ready_sub _ _) h.ids, h.nx, h.mt, h.mg, (ready_ct _ _).le h.ct, h.tm, fun p hp => ?_, by simp [h.ob], fun p hp => ?_, fun p hp i hi => ?_, fun p hp => ?_, obd_set h.obd fun i a hi ha y hy hyo => ?_, fun p hp q hq => ?_⟩
      · exact (h.tmo p hp).ready h.wf.sk (fun e => h.dis p hp _ a2 (e ▸ hxm))
      · rcases mem_set hp with rfl | hp
        · show 0 ≤ (obAt s.ob j).1 ∧ (obAt s.ob j).1 ≤ 255; exact h.obc _ a2
        · exact h.obc p hp
      · obtain ⟨m, hmm, he⟩ := List.mem_iff_getElem.1 hp
        have hg : (s.ob.set j.toNat ((obAt s.ob j).1, r))[m]? = some p := by rw [← he]; exact List.getElem?_eq_getElem hmm
        rw [List.getElem?_set] at hg
        by_cases c : j.toNat = m
        · rw [if_pos c, if_pos a3] at hg
          cases hg
          exact (h.obo _ a2 i (hm i hi)).ready h.wf.sk (by rintro rfl; exact hx hi)
        · rw [if_neg c] at hg
          exact (h.obo p (List.mem_of_getElem? hg) i hi).ready h.wf.sk (by rintro rfl; exact h.obd m _ p _ (fun e => c e.symm) hg a1 i hi hxm)
      · rcases mem_set hp with rfl | hp
        · exact hr
        · exact h.obn p hp
      · exact h.obd i _ a _ hi ha a1 y hy (hm y hyo)
      · rcases mem_set hq with rfl | hq
        · exact fun hmm => h.dis p hp _ a2 (hm _ hmm)
        · exact h.dis p hp q hq
theorem kweight_ok {s : KS} (h : KOk s) (id W : Int) : KOk (kweight s id W).2 := h.node (weight_wf h.wf id W) (Int.le_refl _) (ids_sub (weight_sub id W) h.ids) ((weight_ct _ _).le h.ct) fun i hi => hi.weight id W
theorem krun_ok {s : KS} (h : KOk s) : KOk (krun s).2 := by
  obtain ⟨g, hg, e⟩ := run_still h.wf
  exact h.node (run_wf h.wf) (Int.le_refl _) (by rw [e]; exact ids_sub (Sub.map hg.sk) h.ids) (by rw [e]; exact (CtLe.map hg.sk s.N).le h.ct) fun i hi => by rw [e]; exact hi.still hg
theorem wakeL_ok : ∀ (l : List Int) {N : List Nr}, WFN N → WFN (wakeL N l) ∧ Sub (wakeL N l) N ∧ ∀ i, i ∉ l → Off N i → Off (wakeL N l) i
  | [], N, h => ⟨h, Sub.refl N, fun _ _ h => h⟩
  | k :: l, N, h => by
    obtain ⟨h1, h2, h3⟩ := wakeL_ok l (ready_wf h k true)
    exact ⟨h1, h2.trans (ready_sub k true), fun i hi ho => h3 i (fun e => hi (by simp [e])) (ho.ready h.sk (fun e => hi (by simp [e])))⟩
theorem kwake_ok {s : KS} (h : KOk s) (t : Int) : KOk (kwake s t).2 := by
  obtain ⟨h1, h2, h3⟩ := wakeL_ok (dueOf t s.tm) h.wf
  have hin : ∀ i ∈ dueOf t s.tm, ∃ p ∈ s.tm, p.1 = i ∧ p.2 ≤ t := fun i hi => by
    obtain ⟨u, hu, ht⟩ := (mem_due t i).1 hi
    exact ⟨_, hu, rfl, ht⟩
  refine ⟨h1, ids_sub h2 h.ids, h.nx, h.mt, h.mg, (wakeL_ct _ _).le h.ct, h.tm.rest t, fun p hp => ?_, h.ob, h.obc, fun o ho i hi => ?_, h.obn, h.obd, fun p hp o ho => h.dis p ((mem_rest t p).1 hp).1 o ho⟩
  · obtain ⟨hp1, hp2⟩ := (mem_rest t p).1 hp
    refine h3 _ (fun e => ?_) (h.tmo p hp1)
    obtain ⟨q, hq, he, hqt⟩ := hin _ e
    have : q = p := by
      by_cases c : q = p
      · exact c
      · have hpw := h.tm
        exact absurd he (fun e => by
          have hd : s.tm.Pairwise (fun a b => a.1 ≠ b.1) := hpw.imp (fun hab => by omega)
          exact (List.Pairwise.forall_of_forall_of_flip (R := fun a b : Int × Int => a = b ∨ a.1 ≠ b.1) (fun x _ => .inl rfl) (hd.imp fun hab => .inr hab) (hd.imp fun hab => .inr fun e => hab e.symm) hq hp1).elim c (fun hne => hne e))
    subst this; omega
  · refine h3 _ (fun e => ?_) (h.obo o ho i hi)
    obtain ⟨q, hq, he, _⟩ := hin _ e
    exact h.dis q hq o ho (he ▸ hi)
def k0 (mt mg : Int) : KS := (kspawn ⟨[rootN], [], [(0, []), (0, []), (0, []), (0, [])], mt, mg, 1⟩ 0 1).2
theorem k00_ok {mt mg : Int} (h1 : 1 ≤ mt ∧ mt ≤ 8) (h2 : 0 ≤ mg ∧ mg ≤ 4) : KOk ⟨[rootN], [], [(0, []), (0, []), (0, []), (0, [])], mt, mg, 1⟩ := by
  have hob : ∀ o ∈ ([(0, []), (0, []), (0, []), (0, [])] : List Ob), o = (0, []) := fun o ho => by simpa using ho
  refine ⟨root_wf, fun x hx => ?_, Int.le_refl _, h1, h2, ⟨by rw [show kcnt [rootN] true = 0 by decide]; show (0 : Int) ≤ mt; omega, by rw [show kcnt [rootN] false = 0 by decide]; show (0 : Int) ≤ mg; omega⟩, List.Pairwise.nil, fun _ h => absurd h List.not_mem_nil, rfl, fun o ho => ?_, fun o ho i hi => ?_, fun o ho => ?_, fun i j a b hij ha hb x hxa => ?_, fun _ h => absurd h List.not_mem_nil⟩
  · rcases List.mem_singleton.1 hx with rfl; show (0 : Int) < 1; omega
  · rw [hob o ho]; exact ⟨by decide, by decide⟩
  · rw [hob o ho] at hi; cases hi
  · rw [hob o ho]; exact List.nodup_nil
  · rw [hob a (List.mem_of_getElem? ha)] at hxa; cases hxa
theorem k0_ok {mt mg : Int} (h1 : 1 ≤ mt ∧ mt ≤ 8) (h2 : 0 ≤ mg ∧ mg ≤ 4) : KOk (k0 mt mg) := kspawn_ok (k00_ok h1 h2) 0 1
end Go.Proofs.YtfhkgohokbkgiaaGreatDoor
set_option linter.unusedVariables false
set_option linter.unusedSimpArgs false
namespace Go.Proofs.YtfhkgohokbkgiaaGreatDoor
open Go.RowKit G
/-! ## a ring -/
abbrev Rec := Int × Int × Int × Int
structure RgS where
  l : List Rec
  room : Int
  last : Int
def rg0 (room : Int) : RgS := ⟨[], mnI (mxI room 1) 16, 0⟩
def rgIn (r : RgS) (t op c : Int) : List Rec := r.l ++ [(IntKind.i64.wrap (r.last + 1), t, op, c)]
def rgAdd (r : RgS) (t op c : Int) : RgS := ⟨if r.room < ((rgIn r t op c).length : Int) then (rgIn r t op c).drop 1 else rgIn r t op c, r.room, IntKind.i64.wrap (r.last + 1)⟩
def rgFrom (r : RgS) (seq : Int) : Option Rec := r.l.find? fun x => decide (seq ≤ x.1)
structure RgOk (r : RgS) : Prop where
  room : 1 ≤ r.room ∧ r.room ≤ 16
  len : (r.l.length : Int) ≤ r.room
theorem rg0_ok (room : Int) : RgOk (rg0 room) := ⟨by unfold rg0 mnI mxI; simp only; repeat' split <;> omega, by unfold rg0 mnI mxI; simp only [List.length_nil]; repeat' split <;> omega⟩
theorem rgAdd_ok {r : RgS} (h : RgOk r) (t op c : Int) : RgOk (rgAdd r t op c) := by
  have h1 := h.room
  have h2 := h.len
  have h3 : ((rgIn r t op c).length : Int) = r.l.length + 1 := by simp [rgIn]
  refine ⟨h1, ?_⟩
  show ((if r.room < ((rgIn r t op c).length : Int) then (rgIn r t op c).drop 1 else rgIn r t op c).length : Int) ≤ r.room
  split
  · rw [List.length_drop]; omega
  · omega
/-! ## a box, a purse -/
structure BxS where
  l : List (Int × Int)
  room : Int
def bx0 (room : Int) : BxS := ⟨[], mnI (mxI room 1) 8⟩
def bxCnt (b : BxS) (d : Int) : Int := ((b.l.filter fun x => x.1 == d).length : Int)
def bxPut (b : BxS) (d x : Int) : BxS := if b.room ≤ bxCnt b d then b else ⟨b.l ++ [(d, x)], b.room⟩
def bxTake (b : BxS) : BxS := ⟨b.l.drop 1, b.room⟩
def sends (n : Int) : Int := mnI (mxI n 0) 8
theorem sends_in (n : Int) : 0 ≤ sends n ∧ sends n ≤ 8 := by unfold sends mnI mxI; repeat' split <;> omega
/-! ## a ledger -/
structure Acc where
  own : Int
  got : Int
  idle : Int
  freed : Int
def ldIs (l : List Acc) (d : Int) : Bool := decide (0 ≤ d) && decide (d < (l.length : Int))
def accP (a b : Acc) : Acc := ⟨a.own + b.own, a.got + b.got, a.idle + b.idle, a.freed + b.freed⟩
def ldAdd (l : List Acc) (d : Int) (x : Acc) : List Acc := if ldIs l d then l.set d.toNat (accP (l.getD d.toNat ⟨0, 0, 0, 0⟩) x) else l
def ldAt (l : List Acc) (d : Int) : Acc := if ldIs l d then l.getD d.toNat ⟨0, 0, 0, 0⟩ else ⟨0, 0, 0, 0⟩
def ldMid (l : List Acc) (o w : Int) : List Acc := if w = o then ldAdd l o ⟨1, 0, 0, 0⟩ else ldAdd (ldAdd l w ⟨0, 1, 0, 0⟩) o ⟨0, 0, 1, 0⟩
def ldCount (l : List Acc) (o f w : Int) : List Acc := if ldIs l o = false then l else ldAdd (ldMid l o w) f ⟨0, 0, 0, 1⟩
/-- A sum from 0 up to so many. -/
def AccIn (a m : Acc) : Prop := (0 ≤ a.own ∧ a.own ≤ m.own) ∧ (0 ≤ a.got ∧ a.got ≤ m.got) ∧ (0 ≤ a.idle ∧ a.idle ≤ m.idle) ∧ (0 ≤ a.freed ∧ a.freed ≤ m.freed)
def LdIn (l : List Acc) (m : Acc) : Prop := ∀ a ∈ l, AccIn a m
def acK (m : Int) : Acc := ⟨m, m, m, m⟩
def LdOk (l : List Acc) (m : Int) : Prop := LdIn l (acK m)
theorem AccIn.zero {m : Acc} (h1 : 0 ≤ m.own) (h2 : 0 ≤ m.got) (h3 : 0 ≤ m.idle) (h4 : 0 ≤ m.freed) : AccIn ⟨0, 0, 0, 0⟩ m := ⟨⟨Int.le_refl _, h1⟩, ⟨Int.le_refl _, h2⟩, ⟨Int.le_refl _, h3⟩, ⟨Int.le_refl _, h4⟩⟩
theorem AccIn.le {a m n : Acc} (h : AccIn a m) (h1 : m.own ≤ n.own) (h2 : m.got ≤ n.got) (h3 : m.idle ≤ n.idle) (h4 : m.freed ≤ n.freed) : AccIn a n := by
  unfold AccIn at *; omega
theorem LdIn.le {l : List Acc} {m n : Acc} (h : LdIn l m) (h1 : m.own ≤ n.own) (h2 : m.got ≤ n.got) (h3 : m.idle ≤ n.idle) (h4 : m.freed ≤ n.freed) : LdIn l n := fun a ha => (h a ha).le h1 h2 h3 h4
theorem LdIn.add {l : List Acc} {m x : Acc} (h : LdIn l m) (d : Int) (h1 : 0 ≤ x.own) (h2 : 0 ≤ x.got) (h3 : 0 ≤ x.idle) (h4 : 0 ≤ x.freed) : LdIn (ldAdd l d x) (accP m x) := by
  unfold ldAdd
  split
  · rename_i hd
    intro a ha
    rcases List.mem_or_eq_of_mem_set ha with ha | rfl
    · have := h a ha
      unfold AccIn accP at *; simp only; omega
    · have hl : d.toNat < l.length := by simp [ldIs] at hd; omega
      have := h _ (List.getElem_mem hl)
      rw [List.getD_eq_getElem?_getD, List.getElem?_eq_getElem hl]
      unfold AccIn accP at *; simp only [Option.getD_some]; omega
  · intro a ha
    have := h a ha
    unfold AccIn accP at *; simp only; omega
theorem ldAdd_len (l : List Acc) (d : Int) (x : Acc) : (ldAdd l d x).length = l.length := by unfold ldAdd; split <;> simp
theorem ldMid_len (l : List Acc) (o w : Int) : (ldMid l o w).length = l.length := by unfold ldMid; split <;> simp [ldAdd_len]
theorem ldCount_len (l : List Acc) (o f w : Int) : (ldCount l o f w).length = l.length := by
  unfold ldCount
  split
  · rfl
  · rw [ldAdd_len, ldMid_len]
theorem LdOk.count {l : List Acc} {m : Int} (h : LdOk l m) (o f w : Int) : LdOk (ldCount l o f w) (m + 1) := by
  have h0 : LdOk l (m + 1) := h.le (by show m ≤ m + 1; omega) (by show m ≤ m + 1; omega) (by show m ≤ m + 1; omega) (by show m ≤ m + 1; omega)
  unfold ldCount
  split
  · exact h0
  · have hm : LdIn (ldMid l o w) ⟨m + 1, m + 1, m + 1, m⟩ := by
      unfold ldMid
      split
      · exact (LdIn.add h o (x := ⟨1, 0, 0, 0⟩) (by decide) (by decide) (by decide) (by decide)).le (by show m + 1 ≤ m + 1; omega) (by show m + 0 ≤ m + 1; omega) (by show m + 0 ≤ m + 1; omega) (by show m + 0 ≤ m; omega)
      · exact ((LdIn.add h w (x := ⟨0, 1, 0, 0⟩) (by decide) (by decide) (by decide) (by decide)).add o (x := ⟨0, 0, 1, 0⟩) (by decide) (by decide) (by decide) (by decide)).le (by show m + 0 + 0 ≤ m + 1; omega) (by show m + 1 + 0 ≤ m + 1; omega) (by show m + 0 + 1 ≤ m + 1; omega) (by show m + 0 + 0 ≤ m; omega)
    exact (hm.add f (x := ⟨0, 0, 0, 1⟩) (by decide) (by decide) (by decide) (by decide)).le (by show m + 1 + 0 ≤ m + 1; omega) (by show m + 1 + 0 ≤ m + 1; omega) (by show m + 1 + 0 ≤ m + 1; omega) (by show m + 1 ≤ m + 1; omega)
theorem LdOk.mono {l : List Acc} {m n : Int} (h : LdOk l m) (hmn : m ≤ n) : LdOk l n := LdIn.le h hmn hmn hmn hmn
def ldSum (l : List Acc) : Acc := l.foldl accP ⟨0, 0, 0, 0⟩
/-! ## a latch -/
structure LtS where
  plan : Int
  lv : List Int
  askp : Int
  ask : List Int
def lt0 (n : Nat) : LtS := ⟨0, List.replicate n 0, 0, List.replicate n 0⟩
def ltTurn (s : LtS) : LtS := { s with plan := s.askp, lv := s.ask }
def ltAskP (s : LtS) (plans : Nat) (i : Int) : Int × LtS := if i < 0 ∨ (plans : Int) ≤ i then (10, s) else (0, { s with askp := i })
end Go.Proofs.YtfhkgohokbkgiaaGreatDoor
set_option linter.unusedVariables false
set_option linter.unusedSimpArgs false
namespace Go.Proofs.YtfhkgohokbkgiaaGreatDoor
open Go.RowKit G
def catsIn (a b : Int) : Bool := IntKind.u64.wrap ((BitVec.ofInt 64 a &&& ~~~ BitVec.ofInt 64 b).toNat : Int) == 0
def labLeq (a b : LabV) : Bool := decide (a.level ≤ b.level) && catsIn a.cats b.cats
set_option maxRecDepth 100000 in
theorem labLeq_walk (H : List SP) (a b : LabV) : ∀ w, Sat w H → Calls Tryz.prog 200 #[.agg #[vi a.level, .int .u64 a.cats], .agg #[vi b.level, .int .u64 b.cats]] w (Ret (ι := Unit) (fun _ => .bool (labLeq a b)) fun _ => H) := by
 refine enterG (fn := Tryz.f200) 18 [.agg #[vi a.level, .int .u64 a.cats], .agg #[vi b.level, .int .u64 b.cats]] Tryz.func200 (by kernel_rfl) (by kernel_rfl) (by kernel_rfl) ?_
 refine Xq (Xg 3 (Xs (Xn 41 [vi a.level, .int .u64 a.cats] (some 2) (fun b => vp b)) (fun b1 => ?_) 2))
 refine Xs (Xn 41 [vi b.level, .int .u64 b.cats] (some 3) (fun b => vp b)) (fun b2 => ?_) 1
 refine Xe [(3,vp b2), (2,vp b1), (4,.bool false)] ?_ 1
 refine Xq (Xg 14 (Xl [(3,vp b2), (2,vp b1), (4,.bool false), (10,.bool (decide (a.level ≤ b.level)))] [(⟨b1, 0, none⟩, vi a.level), (⟨b2, 0, none⟩, vi b.level)] (hasC (ba 1) (hasC (ba 0) has0)) ?_ 8 6))
 refine (Xs0 1 7 [(4,.bool false), (17,.bool ((decide (a.level ≤ b.level)) && ((IntKind.u64.wrap ((BitVec.ofInt 64 a.cats &&& ~~~ BitVec.ofInt 64 b.cats).toNat : Int)) == 0)))] ?_ ?_ : RT _ _ _ _ _ _ 8 _)
 ·cases hg6 : (decide (a.level ≤ b.level)) with
  | true =>
   refine Xm [(4,.bool false), (17,.bool ((IntKind.u64.wrap ((BitVec.ofInt 64 a.cats &&& ~~~ BitVec.ofInt 64 b.cats).toNat : Int)) == 0))] [(⟨b1, 1, none⟩, .int .u64 a.cats), (⟨b2, 1, none⟩, .int .u64 b.cats)] (hasC (ba 1) (hasC (ba 0) has0)) ?_ 7
   refine Xp [(4,.bool false), (17,.bool (true && ((IntKind.u64.wrap ((BitVec.ofInt 64 a.cats &&& ~~~ BitVec.ofInt 64 b.cats).toNat : Int)) == 0)))] ?_
   exact midR () rfl rfl
  | false =>
   refine Xe [(4,.bool false), (17,.bool false)] ?_ 7
   refine Xp [(4,.bool false), (17,.bool (false && ((IntKind.u64.wrap ((BitVec.ofInt 64 a.cats &&& ~~~ BitVec.ofInt 64 b.cats).toNat : Int)) == 0)))] ?_
   exact midR () rfl rfl
 refine Xe [(4,.bool ((decide (a.level ≤ b.level)) && ((IntKind.u64.wrap ((BitVec.ofInt 64 a.cats &&& ~~~ BitVec.ofInt 64 b.cats).toNat : Int)) == 0)))] ?_ 1
 refine Xv (Y0 (.bool ((decide (a.level ≤ b.level)) && ((IntKind.u64.wrap ((BitVec.ofInt 64 a.cats &&& ~~~ BitVec.ofInt 64 b.cats).toNat : Int)) == 0))) (fun w hs => ?_))
 exact ⟨(), rfl, hs.tail.tail⟩
set_option maxRecDepth 100000 in
theorem rlabLeq_walk (H : List SP) (a b : LabV) : ∀ w, Sat w H → Calls Tryz.prog 16 #[.agg #[vi a.level, .int .u64 a.cats], .agg #[vi b.level, .int .u64 b.cats]] w (Ret (ι := Unit) (fun _ => .bool (labLeq a b)) fun _ => H) := by
 refine enterG (fn := Tryz.f16) 18 [.agg #[vi a.level, .int .u64 a.cats], .agg #[vi b.level, .int .u64 b.cats]] Tryz.func16 (by kernel_rfl) (by kernel_rfl) (by kernel_rfl) ?_
 refine Xq (Xg 3 (Xs (Xn 41 [vi a.level, .int .u64 a.cats] (some 2) (fun b => vp b)) (fun b1 => ?_) 2))
 refine Xs (Xn 41 [vi b.level, .int .u64 b.cats] (some 3) (fun b => vp b)) (fun b2 => ?_) 1
 refine Xe [(3,vp b2), (2,vp b1), (4,.bool false)] ?_ 1
 refine Xq (Xg 14 (Xl [(3,vp b2), (2,vp b1), (4,.bool false), (10,.bool (decide (a.level ≤ b.level)))] [(⟨b1, 0, none⟩, vi a.level), (⟨b2, 0, none⟩, vi b.level)] (hasC (ba 1) (hasC (ba 0) has0)) ?_ 8 6))
 refine (Xs0 1 7 [(4,.bool false), (17,.bool ((decide (a.level ≤ b.level)) && ((IntKind.u64.wrap ((BitVec.ofInt 64 a.cats &&& ~~~ BitVec.ofInt 64 b.cats).toNat : Int)) == 0)))] ?_ ?_ : RT _ _ _ _ _ _ 8 _)
 ·cases hg6 : (decide (a.level ≤ b.level)) with
  | true =>
   refine Xm [(4,.bool false), (17,.bool ((IntKind.u64.wrap ((BitVec.ofInt 64 a.cats &&& ~~~ BitVec.ofInt 64 b.cats).toNat : Int)) == 0))] [(⟨b1, 1, none⟩, .int .u64 a.cats), (⟨b2, 1, none⟩, .int .u64 b.cats)] (hasC (ba 1) (hasC (ba 0) has0)) ?_ 7
   refine Xp [(4,.bool false), (17,.bool (true && ((IntKind.u64.wrap ((BitVec.ofInt 64 a.cats &&& ~~~ BitVec.ofInt 64 b.cats).toNat : Int)) == 0)))] ?_
   exact midR () rfl rfl
  | false =>
   refine Xe [(4,.bool false), (17,.bool false)] ?_ 7
   refine Xp [(4,.bool false), (17,.bool (false && ((IntKind.u64.wrap ((BitVec.ofInt 64 a.cats &&& ~~~ BitVec.ofInt 64 b.cats).toNat : Int)) == 0)))] ?_
   exact midR () rfl rfl
 refine Xe [(4,.bool ((decide (a.level ≤ b.level)) && ((IntKind.u64.wrap ((BitVec.ofInt 64 a.cats &&& ~~~ BitVec.ofInt 64 b.cats).toNat : Int)) == 0)))] ?_ 1
 refine Xv (Y0 (.bool ((decide (a.level ≤ b.level)) && ((IntKind.u64.wrap ((BitVec.ofInt 64 a.cats &&& ~~~ BitVec.ofInt 64 b.cats).toNat : Int)) == 0))) (fun w hs => ?_))
 exact ⟨(), rfl, hs.tail.tail⟩
end Go.Proofs.YtfhkgohokbkgiaaGreatDoor
set_option linter.unusedVariables false
set_option linter.unusedSimpArgs false
namespace Go.Proofs.YtfhkgohokbkgiaaGreatDoor
open Go.RowKit G
theorem thenJ {n l : Nat} {L : List (Nat × Value)} {H : List SP} {f : Act → World → Prop} {Q : Exit → Act → World → Prop} (h : PT n L H (Q (.goto l))) : PT n L H (Exit.then f Q (.goto l)) := h
def domIs (c : ConfV) (d : Int) : Bool := decide (d ≥ 0) && decide (d < (c.domains.l.length : Int))
def labOf (c : ConfV) (d : Int) : LabV := ((c.domains.l[d.toNat]?).map (·.lab)).getD ⟨0, 0⟩
def relLen (c : ConfV) (d : Int) : Int := (((c.domains.l[d.toNat]?).map (·.release.l.length)).getD 0 : Nat)
def chkFlow (c : ConfV) (a b : Int) : Int := if (domIs c a && domIs c b) = true then (if labLeq (labOf c a) (labOf c b) = true then 0 else 15) else 13
def chkPlan (c : ConfV) (d i : Int) : Int := if ((List.range c.domains.l.length).all fun (k : Nat) => chkFlow c d (k : Int) == 0) = true then (if i < 0 ∨ (c.plans.l.length : Int) ≤ i then 10 else 0) else 15
def chkLevel (c : ConfV) (d v : Int) : Int := if domIs c d = true ∧ 0 ≤ v ∧ v < relLen c d then 0 else 10
theorem domIs_nat {c : ConfV} {d : Int} (h : domIs c d = true) : ∃ i y, d = ((i : Nat) : Int) ∧ c.domains.l[i]? = some y := by
 simp [domIs] at h
 have hl : d.toNat < c.domains.l.length := by omega
 exact ⟨d.toNat, _, by omega, List.getElem?_eq_getElem hl⟩
set_option maxRecDepth 100000 in
theorem ckdom_walk (H : List SP) (c : ConfV) (d : Int) : ∀ w, Sat w H → Calls Tryz.prog 177 #[.agg #[vi c.frame, vi c.epoch, .slice c.plans.a c.plans.l.length c.plans.c, .slice c.domains.a c.domains.l.length c.domains.c], vi d] w (Ret (ι := Unit) (fun _ => .bool (domIs c d)) fun _ => H) := by
 refine enterG (fn := Tryz.f177) 14 [.agg #[vi c.frame, vi c.epoch, .slice c.plans.a c.plans.l.length c.plans.c, .slice c.domains.a c.domains.l.length c.domains.c], vi d] Tryz.func177 (by kernel_rfl) (by kernel_rfl) (by kernel_rfl) ?_
 refine Xq (Xg 2 (Xs (Xn 26 [vi c.frame, vi c.epoch, .slice c.plans.a c.plans.l.length c.plans.c, .slice c.domains.a c.domains.l.length c.domains.c] (some 2) (fun b => vp b)) (fun b1 => ?_) 1))
 refine Xe [(2,vp b1), (1,vi d), (4,.bool false)] ?_ 1
 refine Xq (Xg 10 (Xr [(2,vp b1), (1,vi d), (4,.bool false), (7,.bool (decide (d ≥ 0)))] ?_ 7 3))
 refine (Xs0 1 6 [(4,.bool false), (13,.bool ((decide (d ≥ 0)) && (decide (d < (c.domains.l.length : Int)))))] ?_ ?_ : RT _ _ _ _ _ _ 7 _)
 ·cases hg3 : (decide (d ≥ 0)) with
  | true =>
   refine Xm [(4,.bool false), (13,.bool (decide (d < (c.domains.l.length : Int))))] [(⟨b1, 3, none⟩, .slice c.domains.a c.domains.l.length c.domains.c)] (hasC (ba 0) has0) ?_ 6
   refine Xp [(4,.bool false), (13,.bool (true && (decide (d < (c.domains.l.length : Int)))))] ?_
   exact midR () rfl rfl
  | false =>
   refine Xe [(4,.bool false), (13,.bool false)] ?_ 6
   refine Xp [(4,.bool false), (13,.bool (false && (decide (d < (c.domains.l.length : Int)))))] ?_
   exact midR () rfl rfl
 refine Xe [(4,.bool ((decide (d ≥ 0)) && (decide (d < (c.domains.l.length : Int)))))] ?_ 1
 refine Xv (Y0 (.bool ((decide (d ≥ 0)) && (decide (d < (c.domains.l.length : Int))))) (fun w hs => ?_))
 exact ⟨(), rfl, hs.tail⟩
theorem ckdom_is {H : List SP} {c : ConfV} {d : Int} {v : Bool} (h : domIs c d = v) : ∀ w, Sat w H → Calls Tryz.prog 177 #[.agg #[vi c.frame, vi c.epoch, .slice c.plans.a c.plans.l.length c.plans.c, .slice c.domains.a c.domains.l.length c.domains.c], vi d] w (Ret (ι := Unit) (fun _ => .bool v) fun _ => H) := h ▸ ckdom_walk H c d
set_option maxRecDepth 100000 in
theorem ckflow_walk (H : List SP) (c : ConfV) (hk : KC H c) (a b : Int) : ∀ w, Sat w H → Calls Tryz.prog 174 #[.agg #[vi c.frame, vi c.epoch, .slice c.plans.a c.plans.l.length c.plans.c, .slice c.domains.a c.domains.l.length c.domains.c], vi a, vi b] w (Ret (ι := Unit) (fun _ => pqErr (chkFlow c a b)) fun _ => H) := by
 refine enterG (fn := Tryz.f174) 33 [.agg #[vi c.frame, vi c.epoch, .slice c.plans.a c.plans.l.length c.plans.c, .slice c.domains.a c.domains.l.length c.domains.c], vi a, vi b] Tryz.func174 (by kernel_rfl) (by kernel_rfl) (by kernel_rfl) ?_
 rcases Bool.eq_false_or_eq_true (domIs c a) with h0 | h0
 ·skip
  refine Xq (Xg 2 (Xs (Xn 26 [vi c.frame, vi c.epoch, .slice c.plans.a c.plans.l.length c.plans.c, .slice c.domains.a c.domains.l.length c.domains.c] (some 3) (fun b => vp b)) (fun b1 => ?_) 1))
  refine Xe [(3,vp b1), (1,vi a), (2,vi b), (6,.nilIface)] ?_ 1
  refine Xq (Xq (Xg 10 (Xl [(3,vp b1), (1,vi a), (2,vi b), (6,.nilIface), (7,.agg #[vi c.frame, vi c.epoch, .slice c.plans.a c.plans.l.length c.plans.c, .slice c.domains.a c.domains.l.length c.domains.c]), (8,vi a)] [(⟨b1, 0, none⟩, vi c.frame), (⟨b1, 1, none⟩, vi c.epoch), (⟨b1, 2, none⟩, .slice c.plans.a c.plans.l.length c.plans.c), (⟨b1, 3, none⟩, .slice c.domains.a c.domains.l.length c.domains.c)] (hasC (ba 0) (hasC (ba 0) (hasC (ba 0) (hasC (ba 0) has0)))) ?_ 8 2)))
  refine Xs (Xa (some 9) (fun _ => .bool true) (ckdom_is h0)) (fun _ => ?_) 7
  refine Xl [(3,vp b1), (1,vi a), (2,vi b), (6,.nilIface), (11,.bool false), (12,.agg #[vi c.frame, vi c.epoch, .slice c.plans.a c.plans.l.length c.plans.c, .slice c.domains.a c.domains.l.length c.domains.c]), (13,vi b)] [(⟨b1, 0, none⟩, vi c.frame), (⟨b1, 1, none⟩, vi c.epoch), (⟨b1, 2, none⟩, .slice c.plans.a c.plans.l.length c.plans.c), (⟨b1, 3, none⟩, .slice c.domains.a c.domains.l.length c.domains.c)] (hasC (ba 0) (hasC (ba 0) (hasC (ba 0) (hasC (ba 0) has0)))) ?_ 3 4
  refine Xs (Xa (some 14) (fun _ => .bool (domIs c b)) (ckdom_walk _ c b)) (fun _ => ?_) 2
  refine Xe [(3,vp b1), (1,vi a), (2,vi b), (6,.nilIface), (16,.bool (!(domIs c b)))] ?_ 2
  cases h1 : (domIs c b) with
  | true =>
   have hne : (domIs c a && domIs c b) = true := by rw [h0, h1]; rfl
   refine Xc false (fun h => by cases h) (fun _ => ?_)
   refine Xk (Xq (Xq (Xy0 0 [] 14 ?_)))
   refine Xt [0, 1, 2, 6, 7, 8] [(6,.nilIface), (19,.slice c.domains.a c.domains.l.length c.domains.c), (20,vi a), (25,.slice c.domains.a c.domains.l.length c.domains.c), (26,vi b)] [(⟨b1, 3, none⟩, .slice c.domains.a c.domains.l.length c.domains.c), (⟨b1, 3, none⟩, .slice c.domains.a c.domains.l.length c.domains.c)] (hasC (ba 0) (hasC (ba 0) has0)) ?_
   obtain ⟨i, x, rfl, hx⟩ := domIs_nat (c := c) (d := a) h0
   obtain ⟨j, y, rfl, hy⟩ := domIs_nat (c := c) (d := b) h1
   have hlx : labOf c (i : Int) = x.lab := by rw [labOf, Int.toNat_natCast, hx]; rfl
   have hly : labOf c (j : Int) = y.lab := by rw [labOf, Int.toNat_natCast, hy]; rfl
   have hil := (List.getElem?_eq_some_iff.1 hx).1
   have hjl := (List.getElem?_eq_some_iff.1 hy).1
   refine PT.know ((hk.domains).up.isSome ((by intro h9; rw [h9] at hil; simp at hil))) ?_
   rintro ⟨db, dd, hA⟩
   try rw [hA]
   refine Xu 3 (Xi 24 (.tmp 19) (.tmp 20) db dd c.domains.l.length c.domains.c i 10 44 (i : Int) 21 Tryz.underlying24) ?_
   refine Xt [4, 5] [(6,.nilIface), (25,.slice (some ⟨db, dd, none⟩) c.domains.l.length c.domains.c), (26,vi j), (23,.agg #[vi x.lab.level, .int .u64 x.lab.cats])] [(⟨db, dd + i * 10, none⟩, vi x.lab.level), (⟨db, dd + i * 10 + 1, none⟩, .int .u64 x.lab.cats)] (hasC (up (hk.domains.cell hA (i := i) (x := x) hx (j := 0) rfl)) (hasC (up (hk.domains.cell hA (i := i) (x := x) hx (j := 1) rfl)) has0)) ?_
   refine Xu 9 (Xi 24 (.tmp 25) (.tmp 26) db dd c.domains.l.length c.domains.c j 10 44 (j : Int) 27 Tryz.underlying24) ?_
   refine Xt [10, 11] [(6,.nilIface), (23,.agg #[vi x.lab.level, .int .u64 x.lab.cats]), (29,.agg #[vi y.lab.level, .int .u64 y.lab.cats])] [(⟨db, dd + j * 10, none⟩, vi y.lab.level), (⟨db, dd + j * 10 + 1, none⟩, .int .u64 y.lab.cats)] (hasC (up (hk.domains.cell hA (i := j) (x := y) hy (j := 0) rfl)) (hasC (up (hk.domains.cell hA (i := j) (x := y) hy (j := 1) rfl)) has0)) ?_
   refine Xo 12 (Xa (some 30) (fun _ => .bool (labLeq x.lab y.lab)) (labLeq_walk _ x.lab y.lab)) (fun _ => ?_)
   refine Xt [13] [(6,.nilIface), (31,.bool (!(labLeq x.lab y.lab)))] [] has0 ?_
   refine Xd ?_
   cases h2 : (labLeq x.lab y.lab) with
   | true =>
    refine Xc false (fun h => by cases h) (fun _ => ?_)
    refine Xk (Xq (Xg 1 (Xe [(6,.nilIface)] ?_ 1)))
    refine Xv (Y0 (.nilIface) (fun w hs => ?_))
    exact ⟨(), by rw [chkFlow, if_pos hne, hlx, hly, if_pos h2]; rfl, hs.tail⟩
   | false =>
    refine Xc true (fun _ => ?_) (fun h => by cases h)
    refine Xq (Xg 2 (Xe [(6,.iface 126 (vi 15))] ?_ 2))
    refine Xv (thenV (Y0 (.iface 126 (vi 15)) (fun w hs => ?_)))
    exact ⟨(), by rw [chkFlow, if_pos hne, hlx, hly, if_neg (by rw [h2]; simp)]; rfl, hs.tail⟩
  | false =>
   have hne : (domIs c a && domIs c b) = false := by rw [h0, h1]; rfl
   refine Xc true (fun _ => ?_) (fun h => by cases h)
   refine Xq (Xg 2 (Xe [(3,vp b1), (1,vi a), (2,vi b), (6,.iface 126 (vi 13))] ?_ 2))
   refine Xv (thenV (Y0 (.iface 126 (vi 13)) (fun w hs => ?_)))
   exact ⟨(), by rw [chkFlow, if_neg (by rw [hne]; simp)]; rfl, hs.tail⟩
 ·skip
  have hne : (domIs c a && domIs c b) = false := by rw [h0]; rfl
  refine Xq (Xg 2 (Xs (Xn 26 [vi c.frame, vi c.epoch, .slice c.plans.a c.plans.l.length c.plans.c, .slice c.domains.a c.domains.l.length c.domains.c] (some 3) (fun b => vp b)) (fun b1 => ?_) 1))
  refine Xe [(3,vp b1), (1,vi a), (2,vi b), (6,.nilIface)] ?_ 1
  refine Xq (Xq (Xg 10 (Xl [(3,vp b1), (1,vi a), (2,vi b), (6,.nilIface), (7,.agg #[vi c.frame, vi c.epoch, .slice c.plans.a c.plans.l.length c.plans.c, .slice c.domains.a c.domains.l.length c.domains.c]), (8,vi a)] [(⟨b1, 0, none⟩, vi c.frame), (⟨b1, 1, none⟩, vi c.epoch), (⟨b1, 2, none⟩, .slice c.plans.a c.plans.l.length c.plans.c), (⟨b1, 3, none⟩, .slice c.domains.a c.domains.l.length c.domains.c)] (hasC (ba 0) (hasC (ba 0) (hasC (ba 0) (hasC (ba 0) has0)))) ?_ 8 2)))
  refine Xs (Xa (some 9) (fun _ => .bool false) (ckdom_is h0)) (fun _ => ?_) 7
  refine Xe [(3,vp b1), (1,vi a), (2,vi b), (6,.nilIface), (16,.bool true)] ?_ 7
  refine Xc true (fun _ => ?_) (fun h => by cases h)
  refine Xq (Xg 2 (Xe [(3,vp b1), (1,vi a), (2,vi b), (6,.iface 126 (vi 13))] ?_ 2))
  refine Xv (thenV (Y0 (.iface 126 (vi 13)) (fun w hs => ?_)))
  exact ⟨(), by rw [chkFlow, if_neg (by rw [hne]; simp)]; rfl, hs.tail⟩
theorem ckflow_ok {H : List SP} {c : ConfV} (hk : KC H c) {a b : Int} (h : chkFlow c a b = 0) : ∀ w, Sat w H → Calls Tryz.prog 174 #[.agg #[vi c.frame, vi c.epoch, .slice c.plans.a c.plans.l.length c.plans.c, .slice c.domains.a c.domains.l.length c.domains.c], vi a, vi b] w (Ret (ι := Unit) (fun _ => .nilIface) fun _ => H) := by
 have := ckflow_walk H c hk a b; rw [h] at this; exact this
theorem ckflow_no {H : List SP} {c : ConfV} (hk : KC H c) {a b : Int} (h : chkFlow c a b ≠ 0) : ∀ w, Sat w H → Calls Tryz.prog 174 #[.agg #[vi c.frame, vi c.epoch, .slice c.plans.a c.plans.l.length c.plans.c, .slice c.domains.a c.domains.l.length c.domains.c], vi a, vi b] w (Ret (ι := Unit) (fun _ => .iface 126 (vi (chkFlow c a b))) fun _ => H) := by
 have := ckflow_walk H c hk a b; simp only [pqErr, if_neg h] at this; exact this
set_option maxRecDepth 100000 in
theorem cklevel_walk (H : List SP) (c : ConfV) (hk : KC H c) (d v : Int) : ∀ w, Sat w H → Calls Tryz.prog 125 #[.agg #[vi c.frame, vi c.epoch, .slice c.plans.a c.plans.l.length c.plans.c, .slice c.domains.a c.domains.l.length c.domains.c], vi d, vi v] w (Ret (ι := Unit) (fun _ => pqErr (chkLevel c d v)) fun _ => H) := by
 refine enterG (fn := Tryz.f125) 27 [.agg #[vi c.frame, vi c.epoch, .slice c.plans.a c.plans.l.length c.plans.c, .slice c.domains.a c.domains.l.length c.domains.c], vi d, vi v] Tryz.func125 (by kernel_rfl) (by kernel_rfl) (by kernel_rfl) ?_
 rcases Bool.eq_false_or_eq_true (domIs c d) with hd | hd
 ·skip
  obtain ⟨i, x, rfl, hx⟩ := domIs_nat hd
  have hil := (List.getElem?_eq_some_iff.1 hx).1
  have hrl : relLen c (i : Int) = (x.release.l.length : Int) := by rw [relLen, Int.toNat_natCast, hx]; rfl
  have he : chkLevel c (i : Int) v = if 0 ≤ v ∧ v < (x.release.l.length : Int) then 0 else 10 := by rw [chkLevel, hrl]; simp only [hd, true_and]
  refine PT.know ((hk.domains).isSome ((by intro h0; rw [h0] at hil; simp at hil))) ?_
  rintro ⟨db, dd, hA⟩
  try rw [hA]
  refine Xq (Xg 2 (Xs (Xn 26 [vi c.frame, vi c.epoch, .slice c.plans.a c.plans.l.length c.plans.c, .slice (some ⟨db, dd, none⟩) c.domains.l.length c.domains.c] (some 3) (fun b => vp b)) (fun b1 => ?_) 1))
  refine Xe [(3,vp b1), (1,vi i), (2,vi v), (6,.nilIface)] ?_ 1
  refine Xq (Xq (Xg 19 (Xl [(3,vp b1), (1,vi i), (2,vi v), (6,.nilIface), (7,.agg #[vi c.frame, vi c.epoch, .slice c.plans.a c.plans.l.length c.plans.c, .slice (some ⟨db, dd, none⟩) c.domains.l.length c.domains.c]), (8,vi i)] [(⟨b1, 0, none⟩, vi c.frame), (⟨b1, 1, none⟩, vi c.epoch), (⟨b1, 2, none⟩, .slice c.plans.a c.plans.l.length c.plans.c), (⟨b1, 3, none⟩, .slice (some ⟨db, dd, none⟩) c.domains.l.length c.domains.c)] (hasC (ba 0) (hasC (ba 0) (hasC (ba 0) (hasC (ba 0) has0)))) ?_ 17 2)))
  refine Xs (Xa (some 9) (fun _ => .bool true) ((by have h9 := ckdom_is (H := (blk b1 26 [.int .i64 c.frame, .int .i64 c.epoch, .slice c.plans.a c.plans.l.length c.plans.c, .slice (some ⟨db, dd, none⟩) c.domains.l.length c.domains.c] :: H)) hd; rw [hA] at h9; exact h9))) (fun _ => ?_) 16
  refine Xr [(3,vp b1), (1,vi i), (2,vi v), (6,.nilIface), (15,.bool (decide (v < 0)))] ?_ 10 6
  refine (Xs0 0 10 [(6,.nilIface), (25,.bool ((decide (v < 0)) || (decide (v ≥ (x.release.l.length : Int)))))] ?_ ?_ : RT _ _ _ _ _ _ 10 _)
  ·cases hg9 : (decide (v < 0)) with
   | true =>
    refine Xe [(6,.nilIface), (25,.bool true)] ?_ 10
    refine Xp [(6,.nilIface), (25,.bool (true || (decide (v ≥ (x.release.l.length : Int)))))] ?_
    exact midR () rfl rfl
   | false =>
    refine Xl [(6,.nilIface), (15,.bool false), (16,vi v), (18,.slice (some ⟨db, dd, none⟩) c.domains.l.length c.domains.c), (19,vi i)] [(⟨b1, 3, none⟩, .slice (some ⟨db, dd, none⟩) c.domains.l.length c.domains.c)] (hasC (ba 0) has0) ?_ 6 4
    refine Xs (yldS (Xi 24 (.tmp 18) (.tmp 19) db dd c.domains.l.length c.domains.c i 10 44 (i : Int) 20 Tryz.underlying24)) (fun _ => ?_) 5
    refine Xm [(6,.nilIface), (25,.bool (decide (v ≥ (x.release.l.length : Int))))] [(⟨db, dd + i * 10 + 3, none⟩, .slice x.release.a x.release.l.length x.release.c)] (hasC (up (hk.domains.cell hA (i := i) (x := x) hx (j := 3) rfl)) has0) ?_ 5
    refine Xp [(6,.nilIface), (25,.bool (false || (decide (v ≥ (x.release.l.length : Int)))))] ?_
    exact midR () rfl rfl
  refine endR ?_
  cases hv : ((decide (v < 0)) || (decide (v ≥ (x.release.l.length : Int)))) with
  | true =>
   rw [if_neg (by simp at hv; omega)] at he
   refine Xc true (fun _ => ?_) (fun h => by cases h)
   refine Xq (Xg 2 (Xe [(6,.iface 126 (vi 10))] ?_ 2))
   refine Xv (thenV (Y0 (.iface 126 (vi 10)) (fun w hs => ?_)))
   exact ⟨(), by rw [he]; rfl, hs.tail⟩
  | false =>
   rw [if_pos (by simp at hv; omega)] at he
   refine Xc false (fun h => by cases h) (fun _ => ?_)
   refine Xk (Xq (Xg 1 (Xe [(6,.nilIface)] ?_ 1)))
   refine Xv (Y0 (.nilIface) (fun w hs => ?_))
   exact ⟨(), by rw [he]; rfl, hs.tail⟩
 ·skip
  have he : chkLevel c d v = 10 := by rw [chkLevel, if_neg (by rw [hd]; simp)]
  refine Xq (Xg 2 (Xs (Xn 26 [vi c.frame, vi c.epoch, .slice c.plans.a c.plans.l.length c.plans.c, .slice c.domains.a c.domains.l.length c.domains.c] (some 3) (fun b => vp b)) (fun b1 => ?_) 1))
  refine Xe [(3,vp b1), (1,vi d), (2,vi v), (6,.nilIface)] ?_ 1
  refine Xq (Xq (Xg 19 (Xl [(3,vp b1), (1,vi d), (2,vi v), (6,.nilIface), (7,.agg #[vi c.frame, vi c.epoch, .slice c.plans.a c.plans.l.length c.plans.c, .slice c.domains.a c.domains.l.length c.domains.c]), (8,vi d)] [(⟨b1, 0, none⟩, vi c.frame), (⟨b1, 1, none⟩, vi c.epoch), (⟨b1, 2, none⟩, .slice c.plans.a c.plans.l.length c.plans.c), (⟨b1, 3, none⟩, .slice c.domains.a c.domains.l.length c.domains.c)] (hasC (ba 0) (hasC (ba 0) (hasC (ba 0) (hasC (ba 0) has0)))) ?_ 17 2)))
  refine Xs (Xa (some 9) (fun _ => .bool false) (ckdom_is hd)) (fun _ => ?_) 16
  refine Xe [(6,.nilIface), (25,.bool true)] ?_ 16
  refine Xc true (fun _ => ?_) (fun h => by cases h)
  refine Xq (Xg 2 (Xe [(6,.iface 126 (vi 10))] ?_ 2))
  refine Xv (thenV (Y0 (.iface 126 (vi 10)) (fun w hs => ?_)))
  exact ⟨(), by rw [he]; rfl, hs.tail⟩
set_option maxRecDepth 100000 in
theorem ckread_walk (H : List SP) (c : ConfV) (hk : KC H c) (d o : Int) : ∀ w, Sat w H → Calls Tryz.prog 119 #[.agg #[vi c.frame, vi c.epoch, .slice c.plans.a c.plans.l.length c.plans.c, .slice c.domains.a c.domains.l.length c.domains.c], vi d, vi o] w (Ret (ι := Unit) (fun _ => pqErr (chkFlow c o d)) fun _ => H) := by
 refine enterG (fn := Tryz.f119) 11 [.agg #[vi c.frame, vi c.epoch, .slice c.plans.a c.plans.l.length c.plans.c, .slice c.domains.a c.domains.l.length c.domains.c], vi d, vi o] Tryz.func119 (by kernel_rfl) (by kernel_rfl) (by kernel_rfl) ?_
 refine Xq (Xg 2 (Xs (Xn 26 [vi c.frame, vi c.epoch, .slice c.plans.a c.plans.l.length c.plans.c, .slice c.domains.a c.domains.l.length c.domains.c] (some 3) (fun b => vp b)) (fun b1 => ?_) 1))
 refine Xe [(3,vp b1), (1,vi d), (2,vi o), (6,.nilIface)] ?_ 1
 refine Xq (Xg 5 (Xl [(6,.nilIface), (7,.agg #[vi c.frame, vi c.epoch, .slice c.plans.a c.plans.l.length c.plans.c, .slice c.domains.a c.domains.l.length c.domains.c]), (8,vi o), (9,vi d)] [(⟨b1, 0, none⟩, vi c.frame), (⟨b1, 1, none⟩, vi c.epoch), (⟨b1, 2, none⟩, .slice c.plans.a c.plans.l.length c.plans.c), (⟨b1, 3, none⟩, .slice c.domains.a c.domains.l.length c.domains.c)] (hasC (ba 0) (hasC (ba 0) (hasC (ba 0) (hasC (ba 0) has0)))) ?_ 2 3))
 refine Xs (Xa (some 10) (fun _ => pqErr (chkFlow c o d)) (ckflow_walk _ c hk.up o d)) (fun _ => ?_) 1
 refine Xe [(6,pqErr (chkFlow c o d))] ?_ 1
 refine Xv (Y0 (pqErr (chkFlow c o d)) (fun w hs => ?_))
 exact ⟨(), rfl, hs.tail⟩
set_option maxRecDepth 100000 in
theorem cksend_walk (H : List SP) (c : ConfV) (hk : KC H c) (d o : Int) : ∀ w, Sat w H → Calls Tryz.prog 121 #[.agg #[vi c.frame, vi c.epoch, .slice c.plans.a c.plans.l.length c.plans.c, .slice c.domains.a c.domains.l.length c.domains.c], vi d, vi o] w (Ret (ι := Unit) (fun _ => pqErr (chkFlow c d o)) fun _ => H) := by
 refine enterG (fn := Tryz.f121) 11 [.agg #[vi c.frame, vi c.epoch, .slice c.plans.a c.plans.l.length c.plans.c, .slice c.domains.a c.domains.l.length c.domains.c], vi d, vi o] Tryz.func121 (by kernel_rfl) (by kernel_rfl) (by kernel_rfl) ?_
 refine Xq (Xg 2 (Xs (Xn 26 [vi c.frame, vi c.epoch, .slice c.plans.a c.plans.l.length c.plans.c, .slice c.domains.a c.domains.l.length c.domains.c] (some 3) (fun b => vp b)) (fun b1 => ?_) 1))
 refine Xe [(3,vp b1), (1,vi d), (2,vi o), (6,.nilIface)] ?_ 1
 refine Xq (Xg 5 (Xl [(6,.nilIface), (7,.agg #[vi c.frame, vi c.epoch, .slice c.plans.a c.plans.l.length c.plans.c, .slice c.domains.a c.domains.l.length c.domains.c]), (8,vi d), (9,vi o)] [(⟨b1, 0, none⟩, vi c.frame), (⟨b1, 1, none⟩, vi c.epoch), (⟨b1, 2, none⟩, .slice c.plans.a c.plans.l.length c.plans.c), (⟨b1, 3, none⟩, .slice c.domains.a c.domains.l.length c.domains.c)] (hasC (ba 0) (hasC (ba 0) (hasC (ba 0) (hasC (ba 0) has0)))) ?_ 2 3))
 refine Xs (Xa (some 10) (fun _ => pqErr (chkFlow c d o)) (ckflow_walk _ c hk.up d o)) (fun _ => ?_) 1
 refine Xe [(6,pqErr (chkFlow c d o))] ?_ 1
 refine Xv (Y0 (pqErr (chkFlow c d o)) (fun w hs => ?_))
 exact ⟨(), rfl, hs.tail⟩
set_option maxRecDepth 100000 in
theorem ckplan_walk (H : List SP) (c : ConfV) (hk : KC H c) (hl : c.domains.l.length ≤ 1000) (d i : Int) : ∀ w, Sat w H → Calls Tryz.prog 127 #[.agg #[vi c.frame, vi c.epoch, .slice c.plans.a c.plans.l.length c.plans.c, .slice c.domains.a c.domains.l.length c.domains.c], vi d, vi i] w (Ret (ι := Unit) (fun _ => pqErr (chkPlan c d i)) fun _ => H) := by
 refine enterG (fn := Tryz.f127) 31 [.agg #[vi c.frame, vi c.epoch, .slice c.plans.a c.plans.l.length c.plans.c, .slice c.domains.a c.domains.l.length c.domains.c], vi d, vi i] Tryz.func127 (by kernel_rfl) (by kernel_rfl) (by kernel_rfl) ?_
 refine Xq (Xg 2 (Xs (Xn 26 [vi c.frame, vi c.epoch, .slice c.plans.a c.plans.l.length c.plans.c, .slice c.domains.a c.domains.l.length c.domains.c] (some 3) (fun b => vp b)) (fun b1 => ?_) 1))
 refine Xe [(3,vp b1), (1,vi d), (2,vi i), (6,.nilIface)] ?_ 1
 refine scopeG 0 (fun (u : Nat) => [(3, vp b1), (1, vi d), (2, vi i), (6, .nilIface), (7, vi u)]) (fun _ => (blk b1 26 [vi c.frame, vi c.epoch, .slice c.plans.a c.plans.l.length c.plans.c, .slice c.domains.a c.domains.l.length c.domains.c] :: H)) (fun k (u : Nat) => k + u = c.domains.l.length ∧ ∀ j, j < u → chkFlow c d ((j : Nat) : Int) = 0) (by kernel_rfl) (by kernel_rfl) (by kernel_rfl) (by kernel_rfl) ?_ ?_
 ·skip
  rintro k u ⟨hku, hno⟩ K hK
  refine Xq (Xq (Xg 5 (Xm [(3,vp b1), (1,vi d), (2,vi i), (6,.nilIface), (7,vi u), (12,.bool (decide ((u : Int) < (c.domains.l.length : Int))))] [(⟨b1, 3, none⟩, .slice c.domains.a c.domains.l.length c.domains.c)] (hasC (ba 0) has0) ?_ 5)))
  refine Xc (decide ((u : Int) < (c.domains.l.length : Int))) (fun h1 => ?_) (fun h1 => ?_)
  ·skip
   have hu : u < c.domains.l.length := by have := of_decide_eq_true h1; omega
   by_cases h2 : chkFlow c d (u : Int) = 0
   ·skip
    refine Xq (Xq (Xg 5 (Xl [(3,vp b1), (1,vi d), (2,vi i), (6,.nilIface), (7,vi u), (13,.agg #[vi c.frame, vi c.epoch, .slice c.plans.a c.plans.l.length c.plans.c, .slice c.domains.a c.domains.l.length c.domains.c]), (14,vi d), (15,vi u)] [(⟨b1, 0, none⟩, vi c.frame), (⟨b1, 1, none⟩, vi c.epoch), (⟨b1, 2, none⟩, .slice c.plans.a c.plans.l.length c.plans.c), (⟨b1, 3, none⟩, .slice c.domains.a c.domains.l.length c.domains.c)] (hasC (ba 0) (hasC (ba 0) (hasC (ba 0) (hasC (ba 0) has0)))) ?_ 2 3)))
    refine Xs (Xa (some 16) (fun _ => .nilIface) (ckflow_ok hk.up h2)) (fun _ => ?_) 1
    refine Xe [(3,vp b1), (1,vi d), (2,vi i), (6,.nilIface), (7,vi u), (17,.bool false)] ?_ 1
    refine Xc false (fun h => by cases h) (fun _ => ?_)
    refine Xk (Xq (Xg 3 (Xe [(3,vp b1), (1,vi d), (2,vi i), (6,.nilIface), (7,vi (IntKind.i64.wrap ((u : Int) + 1)))] ?_ 3)))
    refine gotoR 0 (by kernel_rfl) (by kernel_rfl) ?_
    rw [show IntKind.i64.wrap ((u : Int) + 1) = ((u + 1 : Nat) : Int) by rw [IntKind.wrap_i64]; omega]
    have hno2 : ∀ j, j < u + 1 → chkFlow c d ((j : Nat) : Int) = 0 := by
     intro j hj
     by_cases e : j = u
     ·rw [e]; exact h2
     ·exact hno j (by omega)
    refine thenJ ?_
    refine Xp [(3,vp b1), (1,vi d), (2,vi i), (6,.nilIface), (7,vi ((u + 1 : Nat) : Int))] ?_
    exact jumpR (hK (k - 1) (u + 1) (by omega) ⟨by omega, hno2⟩)
   ·skip
    have hne : ((List.range c.domains.l.length).all fun (k : Nat) => chkFlow c d (k : Int) == 0) = false := by
     rw [← Bool.not_eq_true]
     intro h3
     exact h2 (eq_of_beq (List.all_eq_true.1 h3 u (by simp [hu])))
    refine Xq (Xq (Xg 5 (Xl [(3,vp b1), (1,vi d), (2,vi i), (6,.nilIface), (7,vi u), (13,.agg #[vi c.frame, vi c.epoch, .slice c.plans.a c.plans.l.length c.plans.c, .slice c.domains.a c.domains.l.length c.domains.c]), (14,vi d), (15,vi u)] [(⟨b1, 0, none⟩, vi c.frame), (⟨b1, 1, none⟩, vi c.epoch), (⟨b1, 2, none⟩, .slice c.plans.a c.plans.l.length c.plans.c), (⟨b1, 3, none⟩, .slice c.domains.a c.domains.l.length c.domains.c)] (hasC (ba 0) (hasC (ba 0) (hasC (ba 0) (hasC (ba 0) has0)))) ?_ 2 3)))
    refine Xs (Xa (some 16) (fun _ => .iface 126 (vi (chkFlow c d (u : Int)))) (ckflow_no hk.up h2)) (fun _ => ?_) 1
    refine Xe [(3,vp b1), (1,vi d), (2,vi i), (6,.nilIface), (7,vi u), (17,.bool true)] ?_ 1
    refine Xc true (fun _ => ?_) (fun h => by cases h)
    refine Xq (Xg 2 (Xe [(3,vp b1), (1,vi d), (2,vi i), (6,.iface 126 (vi 15)), (7,vi u)] ?_ 2))
    refine Xv (thenV (thenV (jumpV (Y0 (.iface 126 (vi 15)) (fun w hs => ?_)))))
    exact ⟨(), by rw [chkPlan, if_neg (by rw [hne]; simp)]; rfl, hs.tail⟩
  ·skip
   have hu : u = c.domains.l.length := by have := of_decide_eq_false h1; omega
   have hne : ((List.range c.domains.l.length).all fun (k : Nat) => chkFlow c d (k : Int) == 0) = true := List.all_eq_true.2 fun j hj => by rw [hno j (by have := List.mem_range.1 hj; omega)]; rfl
   refine Xk (Xq (Xq (Xg 9 (Xr [(3,vp b1), (1,vi d), (2,vi i), (6,.nilIface), (7,vi u), (23,.bool (decide (i < 0)))] ?_ 6 3))))
   refine (Xs0 0 6 [(3,vp b1), (1,vi d), (2,vi i), (6,.nilIface), (7,vi u), (29,.bool ((decide (i < 0)) || (decide (i ≥ (c.plans.l.length : Int)))))] ?_ ?_ : RT _ _ _ _ _ _ 6 _)
   ·cases hg3 : (decide (i < 0)) with
    | true =>
     refine Xe [(3,vp b1), (1,vi d), (2,vi i), (6,.nilIface), (7,vi u), (29,.bool true)] ?_ 6
     refine Xp [(3,vp b1), (1,vi d), (2,vi i), (6,.nilIface), (7,vi u), (29,.bool (true || (decide (i ≥ (c.plans.l.length : Int)))))] ?_
     exact midR () rfl rfl
    | false =>
     refine Xm [(3,vp b1), (1,vi d), (2,vi i), (6,.nilIface), (7,vi u), (29,.bool (decide (i ≥ (c.plans.l.length : Int))))] [(⟨b1, 2, none⟩, .slice c.plans.a c.plans.l.length c.plans.c)] (hasC (ba 0) has0) ?_ 6
     refine Xp [(3,vp b1), (1,vi d), (2,vi i), (6,.nilIface), (7,vi u), (29,.bool (false || (decide (i ≥ (c.plans.l.length : Int)))))] ?_
     exact midR () rfl rfl
   refine endR ?_
   cases h4 : ((decide (i < 0)) || (decide (i ≥ (c.plans.l.length : Int)))) with
   | true =>
    have h5 : i < 0 ∨ (c.plans.l.length : Int) ≤ i := by simp at h4; omega
    refine Xc true (fun _ => ?_) (fun h => by cases h)
    refine Xq (Xg 2 (Xe [(3,vp b1), (1,vi d), (2,vi i), (6,.iface 126 (vi 10)), (7,vi u)] ?_ 2))
    refine Xv (thenV (jumpV (Y0 (.iface 126 (vi 10)) (fun w hs => ?_))))
    exact ⟨(), by rw [chkPlan, if_pos hne, if_pos h5]; rfl, hs.tail⟩
   | false =>
    have h5 : ¬ (i < 0 ∨ (c.plans.l.length : Int) ≤ i) := by simp at h4; omega
    refine Xc false (fun h => by cases h) (fun _ => ?_)
    refine Xk (Xq (Xg 1 (Xe [(3,vp b1), (1,vi d), (2,vi i), (6,.nilIface), (7,vi u)] ?_ 1)))
    refine Xv (jumpV (Y0 (.nilIface) (fun w hs => ?_)))
    exact ⟨(), by rw [chkPlan, if_pos hne, if_neg h5]; rfl, hs.tail⟩
 ·skip
  intro K hK
  refine Xq (Xg 1 (Xe [(3,vp b1), (1,vi d), (2,vi i), (6,.nilIface), (7,vi 0)] ?_ 1))
  refine Xq ?_
  refine labelR (by kernel_rfl) ?_
  refine Xp [(3,vp b1), (1,vi d), (2,vi i), (6,.nilIface), (7,vi 0)] ?_
  refine codeR (by kernel_rfl) (hK c.domains.l.length 0 ⟨by omega, fun j hj => by omega⟩)
theorem ckread_ok {H : List SP} {c : ConfV} (hk : KC H c) {d o : Int} (h : chkFlow c o d = 0) : ∀ w, Sat w H → Calls Tryz.prog 119 #[.agg #[vi c.frame, vi c.epoch, .slice c.plans.a c.plans.l.length c.plans.c, .slice c.domains.a c.domains.l.length c.domains.c], vi d, vi o] w (Ret (ι := Unit) (fun _ => .nilIface) fun _ => H) := by
 have := ckread_walk H c hk d o; rw [h] at this; exact this
theorem ckread_no {H : List SP} {c : ConfV} (hk : KC H c) {d o : Int} (h : chkFlow c o d ≠ 0) : ∀ w, Sat w H → Calls Tryz.prog 119 #[.agg #[vi c.frame, vi c.epoch, .slice c.plans.a c.plans.l.length c.plans.c, .slice c.domains.a c.domains.l.length c.domains.c], vi d, vi o] w (Ret (ι := Unit) (fun _ => .iface 126 (vi (chkFlow c o d))) fun _ => H) := by
 have := ckread_walk H c hk d o; simp only [pqErr, if_neg h] at this; exact this
theorem cksend_ok {H : List SP} {c : ConfV} (hk : KC H c) {d o : Int} (h : chkFlow c d o = 0) : ∀ w, Sat w H → Calls Tryz.prog 121 #[.agg #[vi c.frame, vi c.epoch, .slice c.plans.a c.plans.l.length c.plans.c, .slice c.domains.a c.domains.l.length c.domains.c], vi d, vi o] w (Ret (ι := Unit) (fun _ => .nilIface) fun _ => H) := by
 have := cksend_walk H c hk d o; rw [h] at this; exact this
theorem cksend_no {H : List SP} {c : ConfV} (hk : KC H c) {d o : Int} (h : chkFlow c d o ≠ 0) : ∀ w, Sat w H → Calls Tryz.prog 121 #[.agg #[vi c.frame, vi c.epoch, .slice c.plans.a c.plans.l.length c.plans.c, .slice c.domains.a c.domains.l.length c.domains.c], vi d, vi o] w (Ret (ι := Unit) (fun _ => .iface 126 (vi (chkFlow c d o))) fun _ => H) := by
 have := cksend_walk H c hk d o; simp only [pqErr, if_neg h] at this; exact this
theorem cklevel_ok {H : List SP} {c : ConfV} (hk : KC H c) {d v : Int} (h : chkLevel c d v = 0) : ∀ w, Sat w H → Calls Tryz.prog 125 #[.agg #[vi c.frame, vi c.epoch, .slice c.plans.a c.plans.l.length c.plans.c, .slice c.domains.a c.domains.l.length c.domains.c], vi d, vi v] w (Ret (ι := Unit) (fun _ => .nilIface) fun _ => H) := by
 have := cklevel_walk H c hk d v; rw [h] at this; exact this
theorem cklevel_no {H : List SP} {c : ConfV} (hk : KC H c) {d v : Int} (h : chkLevel c d v ≠ 0) : ∀ w, Sat w H → Calls Tryz.prog 125 #[.agg #[vi c.frame, vi c.epoch, .slice c.plans.a c.plans.l.length c.plans.c, .slice c.domains.a c.domains.l.length c.domains.c], vi d, vi v] w (Ret (ι := Unit) (fun _ => .iface 126 (vi (chkLevel c d v))) fun _ => H) := by
 have := cklevel_walk H c hk d v; simp only [pqErr, if_neg h] at this; exact this
theorem ckplan_ok {H : List SP} {c : ConfV} (hk : KC H c) {d i : Int} (hl : c.domains.l.length ≤ 1000) (h : chkPlan c d i = 0) : ∀ w, Sat w H → Calls Tryz.prog 127 #[.agg #[vi c.frame, vi c.epoch, .slice c.plans.a c.plans.l.length c.plans.c, .slice c.domains.a c.domains.l.length c.domains.c], vi d, vi i] w (Ret (ι := Unit) (fun _ => .nilIface) fun _ => H) := by
 have := ckplan_walk H c hk hl d i; rw [h] at this; exact this
theorem ckplan_no {H : List SP} {c : ConfV} (hk : KC H c) {d i : Int} (hl : c.domains.l.length ≤ 1000) (h : chkPlan c d i ≠ 0) : ∀ w, Sat w H → Calls Tryz.prog 127 #[.agg #[vi c.frame, vi c.epoch, .slice c.plans.a c.plans.l.length c.plans.c, .slice c.domains.a c.domains.l.length c.domains.c], vi d, vi i] w (Ret (ι := Unit) (fun _ => .iface 126 (vi (chkPlan c d i))) fun _ => H) := by
 have := ckplan_walk H c hk hl d i; simp only [pqErr, if_neg h] at this; exact this
end Go.Proofs.YtfhkgohokbkgiaaGreatDoor
set_option linter.unusedVariables false
set_option linter.unusedSimpArgs false
namespace Go.Proofs.YtfhkgohokbkgiaaGreatDoor
open Go.RowKit G
namespace G
section
variable {α : Type} {E : Enc α} {T : TypeId} {H : List SP} {P : Program} {n : Nat} {L : List (Nat × Value)} {c : Code}
theorem made_list (z : Value) (m : Nat) : (madeCells #[z] m).toList = List.replicate m z := by
  apply List.ext_getElem
  · simp [madeCells]
  · intro i h1 h2; simp [madeCells, Nat.mod_one]
theorem flat_replicate (x0 : α) (z : Value) (h : E.enc x0 = [z]) : ∀ m, E.flat (List.replicate m x0) = List.replicate m z
  | 0 => rfl
  | m + 1 => by rw [List.replicate_succ, Enc.flat_cons, flat_replicate x0 z h m, h, List.replicate_succ]; rfl
/-- make, elements of one cell. -/
theorem mkS {i : Nat} (t : TypeId) (ln cp : Operand) (m : Nat) (x0 : α) (z : Value) (bytes : Nat) (d : Option Tmp) (hg : ∀ rest, goes n c i L rest = true) (hd : (opAt c i).dst = d) (hop : (opAt c i).op = .makeSlice t ln cp)
    (hl : ∀ rest, evalL L rest ln = .int .i64 (m : Int)) (hc : ∀ rest, evalL L rest cp = .int .i64 (m : Int)) (ht : P.underlying t = some (.slice T))
    (hinfo : (P.info? T).map (fun i => (i.zero, i.size, i.bytes)) = some (some z, 1, bytes)) (hz1 : z.cells = #[z]) (hx0 : E.enc x0 = [z]) (hb : bytes ≤ 64) (hm : m ≤ 1000000) :
    Step P n L H c i d (fun b : Nat => .slice (some ⟨b, 0, none⟩) m m) (fun b => row E T (.slice (some ⟨b, 0, none⟩) m m) (List.replicate m x0) :: H) := by
  refine valueS d _ _ hg hd ?_
  intro rest w _ hs
  have hk1 : E.k = 1 := by rw [← E.len x0, hx0]; rfl
  have hbm : bytes * m ≤ 64 * 1000000 := Nat.mul_le_mul hb hm
  refine ⟨w.heap.size, w.alloc (.cells (madeCells #[z] m) T), ?_, ?_⟩
  · unfold execOp
    simp only [hop, hl, hc, Sem.run_bind, run_make_row' t T z bytes ht hinfo hz1 .i64 .i64 m (by omega) (by omega) w, Result.andThen_ok]
    rfl
  · refine Sat.fresh hs (Upd.alloc _ _ _) (G' := OneB w.heap.size) ?_ (fun b hb => by cases hb; exact Nat.le_refl _)
    refine .inr ⟨w.heap.size, 0, m, _, by rw [List.length_replicate], rfl, heap_alloc_new w _, by rw [List.length_replicate]; exact Nat.le_refl _, by unfold maxLen; omega, ?_, ?_⟩
    · have : (madeCells #[z] m).size = m := by rw [← Array.length_toList, made_list, List.length_replicate]
      rw [this, hk1]; omega
    · rw [List.drop_zero, made_list, flat_replicate x0 z hx0, List.length_replicate, hk1, Nat.mul_one]
      exact List.take_of_length_le (by simp)
theorem flat_rep (x0 : α) : ∀ (m i : Nat), i < m * E.k → (E.flat (List.replicate m x0))[i]? = (E.enc x0)[i % E.k]?
  | 0, i, h => by simp at h
  | m + 1, i, h => by
    have hk := E.kpos
    rw [List.replicate_succ, Enc.flat_cons]
    by_cases c : i < E.k
    · rw [List.getElem?_append_left (by rw [E.len]; exact c), Nat.mod_eq_of_lt c]
    · rw [List.getElem?_append_right (by rw [E.len]; omega), E.len, flat_rep x0 m (i - E.k) (by rw [Nat.succ_mul] at h; omega)]
      congr 1
      exact (Nat.mod_eq_sub_mod (by omega)).symm
theorem made_flat (z : Value) (m : Nat) (x0 : α) (hz : z.cells.toList = E.enc x0) : (madeCells z.cells (m * E.k)).toList = E.flat (List.replicate m x0) := by
  have hs : z.cells.size = E.k := by rw [← Array.length_toList, hz, E.len]
  have hf : (E.flat (List.replicate m x0)).length = m * E.k := by rw [E.flat_length, List.length_replicate]
  apply List.ext_getElem?
  intro i
  by_cases h : i < m * E.k
  · rw [flat_rep x0 m i h, ← hz]
    have hi : i % E.k < z.cells.size := by rw [hs]; exact Nat.mod_lt _ E.kpos
    simp only [madeCells, Array.toList_map, Array.toList_range, List.getElem?_map, List.getElem?_range h, Option.map_some, hs]
    rw [Array.getElem?_toList, Array.getElem?_eq_getElem hi, getElem!_pos z.cells (i % E.k) hi]
  · rw [List.getElem?_eq_none (by simp [madeCells]; omega), List.getElem?_eq_none (by rw [hf]; omega)]
/-- make, elements of several cells. -/
theorem mkK {i : Nat} (t : TypeId) (ln cp : Operand) (m : Nat) (x0 : α) (z : Value) (bytes : Nat) (d : Option Tmp) (hg : ∀ rest, goes n c i L rest = true) (hd : (opAt c i).dst = d) (hop : (opAt c i).op = .makeSlice t ln cp)
    (hl : ∀ rest, evalL L rest ln = .int .i64 (m : Int)) (hc : ∀ rest, evalL L rest cp = .int .i64 (m : Int)) (ht : P.underlying t = some (.slice T))
    (hinfo : (P.info? T).map (fun i => (i.zero, i.size, i.bytes)) = some (some z, E.k, bytes)) (hz1 : z.cells.toList = E.enc x0) (_hx0 : E.enc x0 = E.enc x0) (hb : bytes ≤ 1024) (hm : m ≤ 1000000) :
    Step P n L H c i d (fun b : Nat => .slice (some ⟨b, 0, none⟩) m m) (fun b => row E T (.slice (some ⟨b, 0, none⟩) m m) (List.replicate m x0) :: H) := by
  refine valueS d _ _ hg hd ?_
  intro rest w _ hs
  obtain ⟨inf, hi, hzz⟩ := Option.map_eq_some_iff.1 hinfo
  simp only [Prod.mk.injEq] at hzz
  obtain ⟨hz, hsz, hbb⟩ := hzz
  have hbm : bytes * m ≤ 1024 * 1000000 := Nat.mul_le_mul hb hm
  have hbi : (inf.bytes : Int) * (m : Int) ≤ 281474976710656 := by
    rw [hbb, ← Int.natCast_mul]; omega
  have hr := run_make (P := P) w t T inf z ht hi hz .i64 .i64 (m : Int) (m : Int) (by omega) (Int.le_refl _) hbi (by omega)
  simp only [Int.toNat_natCast, hsz] at hr
  refine ⟨w.heap.size, w.alloc (.cells (madeCells z.cells (m * E.k)) T), ?_, ?_⟩
  · unfold execOp
    simp only [hop, hl, hc, Sem.run_bind, hr, Result.andThen_ok]
    rfl
  · refine Sat.fresh hs (Upd.alloc _ _ _) (G' := OneB w.heap.size) ?_ (fun b hb => by cases hb; exact Nat.le_refl _)
    have hsz2 : (madeCells z.cells (m * E.k)).size = m * E.k := size_madeCells _ _
    refine .inr ⟨w.heap.size, 0, m, _, by rw [List.length_replicate], rfl, heap_alloc_new w _, by rw [List.length_replicate]; exact Nat.le_refl _, by unfold maxLen; omega, ?_, ?_⟩
    · rw [hsz2]; omega
    · rw [List.drop_zero, made_flat z m x0 hz1, List.length_replicate]
      exact List.take_of_length_le (by rw [E.flat_length, List.length_replicate]; exact Nat.le_refl _)
end
end G
end Go.Proofs.YtfhkgohokbkgiaaGreatDoor
set_option linter.unusedVariables false
set_option linter.unusedSimpArgs false
namespace Go.Proofs.YtfhkgohokbkgiaaGreatDoor
open Go.RowKit G
def LtOk (c : ConfV) (t : LtS) : Prop := t.lv.length = c.domains.l.length ∧ t.ask.length = c.domains.l.length ∧ c.domains.l.length ≤ 1000
def ltS (b : Nat) (c : ConfV) (t : LtS) : SP := exS fun p : Nat × Nat => two (pureS (LtOk c t)) (manyS [blk b 139 [.int .i64 c.frame, .int .i64 c.epoch, .slice c.plans.a c.plans.l.length c.plans.c, .slice c.domains.a c.domains.l.length c.domains.c, .int .i64 t.plan, .slice (some ⟨p.1, 0, none⟩) t.lv.length t.lv.length, .int .i64 t.askp, .slice (some ⟨p.2, 0, none⟩) t.ask.length t.ask.length], row (kE .i64) 3 (.slice (some ⟨p.1, 0, none⟩) t.lv.length t.lv.length) t.lv, row (kE .i64) 3 (.slice (some ⟨p.2, 0, none⟩) t.ask.length t.ask.length) t.ask])
theorem Sat.openLt {b : Nat} {c : ConfV} {t : LtS} {H : List SP} {w : World} (h : Sat w (ltS b c t :: H)) : ∃ r q, LtOk c t ∧ Sat w (blk b 139 [.int .i64 c.frame, .int .i64 c.epoch, .slice c.plans.a c.plans.l.length c.plans.c, .slice c.domains.a c.domains.l.length c.domains.c, .int .i64 t.plan, .slice (some ⟨r, 0, none⟩) t.lv.length t.lv.length, .int .i64 t.askp, .slice (some ⟨q, 0, none⟩) t.ask.length t.ask.length] :: row (kE .i64) 3 (.slice (some ⟨r, 0, none⟩) t.lv.length t.lv.length) t.lv :: row (kE .i64) 3 (.slice (some ⟨q, 0, none⟩) t.ask.length t.ask.length) t.ask :: H) := by
 obtain ⟨⟨r, q⟩, h⟩ := Sat.openEx h
 obtain ⟨h1, h⟩ := Sat.openPure (Sat.openTwo h)
 exact ⟨r, q, h1, Sat.openMany h⟩
theorem Sat.closeLt {b r q : Nat} {c : ConfV} {t : LtS} {H : List SP} {w : World} (h1 : LtOk c t) (h : Sat w (blk b 139 [.int .i64 c.frame, .int .i64 c.epoch, .slice c.plans.a c.plans.l.length c.plans.c, .slice c.domains.a c.domains.l.length c.domains.c, .int .i64 t.plan, .slice (some ⟨r, 0, none⟩) t.lv.length t.lv.length, .int .i64 t.askp, .slice (some ⟨q, 0, none⟩) t.ask.length t.ask.length] :: row (kE .i64) 3 (.slice (some ⟨r, 0, none⟩) t.lv.length t.lv.length) t.lv :: row (kE .i64) 3 (.slice (some ⟨q, 0, none⟩) t.ask.length t.ask.length) t.ask :: H)) : Sat w (ltS b c t :: H) :=
 Sat.closeEx (r, q) (Sat.closeTwo (Sat.closePure h1 (Sat.closeMany (l := [blk b 139 [.int .i64 c.frame, .int .i64 c.epoch, .slice c.plans.a c.plans.l.length c.plans.c, .slice c.domains.a c.domains.l.length c.domains.c, .int .i64 t.plan, .slice (some ⟨r, 0, none⟩) t.lv.length t.lv.length, .int .i64 t.askp, .slice (some ⟨q, 0, none⟩) t.ask.length t.ask.length], row (kE .i64) 3 (.slice (some ⟨r, 0, none⟩) t.lv.length t.lv.length) t.lv, row (kE .i64) 3 (.slice (some ⟨q, 0, none⟩) t.ask.length t.ask.length) t.ask]) h)))
set_option maxRecDepth 100000 in
theorem ltnew_walk (H : List SP) (c : ConfV) (hc : c.domains.l.length ≤ 1000) : ∀ w, Sat w H → Calls Tryz.prog 42 #[.agg #[vi c.frame, vi c.epoch, .slice c.plans.a c.plans.l.length c.plans.c, .slice c.domains.a c.domains.l.length c.domains.c]] w (Ret (ι := Nat) (fun b => vp b) fun b => ltS b c (lt0 c.domains.l.length) :: H) := by
 refine enterG (fn := Tryz.f42) 16 [.agg #[vi c.frame, vi c.epoch, .slice c.plans.a c.plans.l.length c.plans.c, .slice c.domains.a c.domains.l.length c.domains.c]] Tryz.func42 (by kernel_rfl) (by kernel_rfl) (by kernel_rfl) ?_
 refine Xq (Xg 2 (Xs (Xn 26 [vi c.frame, vi c.epoch, .slice c.plans.a c.plans.l.length c.plans.c, .slice c.domains.a c.domains.l.length c.domains.c] (some 1) (fun b => vp b)) (fun b1 => ?_) 1))
 refine Xe [(1,vp b1), (2,.pointer none)] ?_ 1
 refine Xq (Xg 4 (Xm [(1,vp b1), (2,.pointer none), (3,vi (c.domains.l.length : Int))] [(⟨b1, 3, none⟩, .slice c.domains.a c.domains.l.length c.domains.c)] (hasC (ba 0) has0) ?_ 4))
 refine Xq (Xy0 0 [] 10 ?_)
 refine Xt [0, 1, 4] [(2,.pointer none), (7,.agg #[vi c.frame, vi c.epoch, .slice c.plans.a c.plans.l.length c.plans.c, .slice c.domains.a c.domains.l.length c.domains.c]), (8,vi (c.domains.l.length : Int)), (11,vi (c.domains.l.length : Int))] [(⟨b1, 0, none⟩, vi c.frame), (⟨b1, 1, none⟩, vi c.epoch), (⟨b1, 2, none⟩, .slice c.plans.a c.plans.l.length c.plans.c), (⟨b1, 3, none⟩, .slice c.domains.a c.domains.l.length c.domains.c)] (hasC (ba 0) (hasC (ba 0) (hasC (ba 0) (hasC (ba 0) has0)))) ?_
 refine Xw 2 5 ?_ ?_
 ·skip
  refine Xh 2 (mkS (E := (kE .i64)) (T := 3) 42 (.tmp 8) (.tmp 8) c.domains.l.length 0 (.int .i64 0) 8 (some 9) (fun _ => by kernel_rfl) (by kernel_rfl) (by kernel_rfl) (fun _ => by kernel_rfl) (fun _ => by kernel_rfl) Tryz.underlying42 (by kernel_rfl) (by kernel_rfl) rfl (by decide) (by omega)) (fun b2 => ?_)
  refine Xt [3] [(2,.pointer none), (7,.agg #[vi c.frame, vi c.epoch, .slice c.plans.a c.plans.l.length c.plans.c, .slice c.domains.a c.domains.l.length c.domains.c]), (11,vi (c.domains.l.length : Int)), (10,.agg #[vi 0, .slice (some ⟨b2, 0, none⟩) c.domains.l.length c.domains.l.length])] [] has0 ?_
  refine Xo 5 (mkS (E := (kE .i64)) (T := 3) 42 (.tmp 11) (.tmp 11) c.domains.l.length 0 (.int .i64 0) 8 (some 12) (fun _ => by kernel_rfl) (by kernel_rfl) (by kernel_rfl) (fun _ => by kernel_rfl) (fun _ => by kernel_rfl) Tryz.underlying42 (by kernel_rfl) (by kernel_rfl) rfl (by decide) (by omega)) (fun b3 => ?_)
  refine Xt [6, 7] [(2,.pointer none), (14,.agg #[vi c.frame, vi c.epoch, .slice c.plans.a c.plans.l.length c.plans.c, .slice c.domains.a c.domains.l.length c.domains.c, vi 0, .slice (some ⟨b2, 0, none⟩) c.domains.l.length c.domains.l.length, vi 0, .slice (some ⟨b3, 0, none⟩) c.domains.l.length c.domains.l.length])] [] has0 ?_
  refine Xo 8 (Xn 139 [vi c.frame, vi c.epoch, .slice c.plans.a c.plans.l.length c.plans.c, .slice c.domains.a c.domains.l.length c.domains.c, vi 0, .slice (some ⟨b2, 0, none⟩) c.domains.l.length c.domains.l.length, vi 0, .slice (some ⟨b3, 0, none⟩) c.domains.l.length c.domains.l.length] (some 15) (fun b => vp b)) (fun b4 => ?_)
  refine Xt [9] [(2,vp b4)] [] has0 ?_
  refine Xd (Xv (Y0 (vp b4) (fun w hs => ?_)))
  exact ⟨b4, rfl, Sat.closeLt (r := b2) (q := b3) (c := c) (t := lt0 c.domains.l.length) ⟨by simp [lt0], by simp [lt0], hc⟩ (by simp only [lt0, List.length_replicate]; exact Sat.erase 3 rfl (Sat.perm (List.Perm.cons _ (List.Perm.swap _ _ _)) hs))⟩
 ·skip
  refine Xh 5 (mkS (E := (kE .i64)) (T := 3) 42 (.tmp 11) (.tmp 11) c.domains.l.length 0 (.int .i64 0) 8 (some 12) (fun _ => by kernel_rfl) (by kernel_rfl) (by kernel_rfl) (fun _ => by kernel_rfl) (fun _ => by kernel_rfl) Tryz.underlying42 (by kernel_rfl) (by kernel_rfl) rfl (by decide) (by omega)) (fun b2 => ?_)
  refine Xt [6] [(2,.pointer none), (7,.agg #[vi c.frame, vi c.epoch, .slice c.plans.a c.plans.l.length c.plans.c, .slice c.domains.a c.domains.l.length c.domains.c]), (8,vi (c.domains.l.length : Int)), (13,.agg #[vi 0, .slice (some ⟨b2, 0, none⟩) c.domains.l.length c.domains.l.length])] [] has0 ?_
  refine Xo 2 (mkS (E := (kE .i64)) (T := 3) 42 (.tmp 8) (.tmp 8) c.domains.l.length 0 (.int .i64 0) 8 (some 9) (fun _ => by kernel_rfl) (by kernel_rfl) (by kernel_rfl) (fun _ => by kernel_rfl) (fun _ => by kernel_rfl) Tryz.underlying42 (by kernel_rfl) (by kernel_rfl) rfl (by decide) (by omega)) (fun b3 => ?_)
  refine Xt [3, 7] [(2,.pointer none), (14,.agg #[vi c.frame, vi c.epoch, .slice c.plans.a c.plans.l.length c.plans.c, .slice c.domains.a c.domains.l.length c.domains.c, vi 0, .slice (some ⟨b3, 0, none⟩) c.domains.l.length c.domains.l.length, vi 0, .slice (some ⟨b2, 0, none⟩) c.domains.l.length c.domains.l.length])] [] has0 ?_
  refine Xo 8 (Xn 139 [vi c.frame, vi c.epoch, .slice c.plans.a c.plans.l.length c.plans.c, .slice c.domains.a c.domains.l.length c.domains.c, vi 0, .slice (some ⟨b3, 0, none⟩) c.domains.l.length c.domains.l.length, vi 0, .slice (some ⟨b2, 0, none⟩) c.domains.l.length c.domains.l.length] (some 15) (fun b => vp b)) (fun b4 => ?_)
  refine Xt [9] [(2,vp b4)] [] has0 ?_
  refine Xd (Xv (Y0 (vp b4) (fun w hs => ?_)))
  exact ⟨b4, rfl, Sat.closeLt (r := b3) (q := b2) (c := c) (t := lt0 c.domains.l.length) ⟨by simp [lt0], by simp [lt0], hc⟩ (by simp only [lt0, List.length_replicate]; exact Sat.erase 3 rfl hs)⟩
set_option maxRecDepth 100000 in
theorem ltaskp_walk (H : List SP) (b r q : Nat) (c : ConfV) (p ap : Int) (l al : List Int) (i : Int) : ∀ w, Sat w (blk b 139 [vi c.frame, vi c.epoch, .slice c.plans.a c.plans.l.length c.plans.c, .slice c.domains.a c.domains.l.length c.domains.c, vi p, .slice (some ⟨r, 0, none⟩) l.length l.length, vi ap, .slice (some ⟨q, 0, none⟩) al.length al.length] :: row (kE .i64) 3 (.slice (some ⟨r, 0, none⟩) l.length l.length) l :: row (kE .i64) 3 (.slice (some ⟨q, 0, none⟩) al.length al.length) al :: H) → Calls Tryz.prog 128 #[vp b, vi i] w (Ret (ι := Unit) (fun _ => pqErr (ltAskP ⟨p, l, ap, al⟩ c.plans.l.length i).1) fun _ => blk b 139 [vi c.frame, vi c.epoch, .slice c.plans.a c.plans.l.length c.plans.c, .slice c.domains.a c.domains.l.length c.domains.c, vi p, .slice (some ⟨r, 0, none⟩) l.length l.length, vi (ltAskP ⟨p, l, ap, al⟩ c.plans.l.length i).2.askp, .slice (some ⟨q, 0, none⟩) al.length al.length] :: row (kE .i64) 3 (.slice (some ⟨r, 0, none⟩) l.length l.length) l :: row (kE .i64) 3 (.slice (some ⟨q, 0, none⟩) al.length al.length) al :: H) := by
 refine enterG (fn := Tryz.f128) 23 [vp b, vi i] Tryz.func128 (by kernel_rfl) (by kernel_rfl) (by kernel_rfl) ?_
 refine Xq (Xg 1 (Xe [(0,vp b), (1,vi i), (4,.nilIface)] ?_ 1))
 refine Xq (Xq (Xg 12 (Xr [(0,vp b), (1,vi i), (4,.nilIface), (7,.bool (decide (i < 0)))] ?_ 9 3)))
 refine (Xs0 0 9 [(0,vp b), (1,vi i), (4,.nilIface), (16,.bool ((decide (i < 0)) || (decide (i ≥ (c.plans.l.length : Int)))))] ?_ ?_ : RT _ _ _ _ _ _ 9 _)
 ·cases hg3 : (decide (i < 0)) with
  | true =>
   refine Xe [(0,vp b), (1,vi i), (4,.nilIface), (16,.bool true)] ?_ 9
   refine Xp [(0,vp b), (1,vi i), (4,.nilIface), (16,.bool (true || (decide (i ≥ (c.plans.l.length : Int)))))] ?_
   exact midR () rfl rfl
  | false =>
   refine Xm [(0,vp b), (1,vi i), (4,.nilIface), (16,.bool (decide (i ≥ (c.plans.l.length : Int))))] [(⟨b, 2, none⟩, .slice c.plans.a c.plans.l.length c.plans.c)] (hasC (ba 0) has0) ?_ 9
   refine Xp [(0,vp b), (1,vi i), (4,.nilIface), (16,.bool (false || (decide (i ≥ (c.plans.l.length : Int)))))] ?_
   exact midR () rfl rfl
 refine endR ?_
 cases hd : ((decide (i < 0)) || (decide (i ≥ (c.plans.l.length : Int)))) with
 | true =>
  have hd1 : i < 0 ∨ (c.plans.l.length : Int) ≤ i := by simp at hd; omega
  refine Xc true (fun _ => ?_) (fun h => by cases h)
  refine Xq (Xg 2 (Xe [(0,vp b), (1,vi i), (4,.iface 126 (vi 10))] ?_ 2))
  refine Xv (thenV (Y0 (.iface 126 (vi 10)) (fun w hs => ?_)))
  exact ⟨(), by rw [ltAskP, if_pos hd1]; rfl, by rw [ltAskP, if_pos hd1]; exact hs⟩
 | false =>
  have hd1 : ¬ (i < 0 ∨ (c.plans.l.length : Int) ≤ i) := by simp at hd; omega
  refine Xc false (fun h => by cases h) (fun _ => ?_)
  refine Xk (Xq (Xg 6 (Xr [(4,.nilIface), (19,vi i), (22,vq b 6)] ?_ 1 5)))
  refine Xs (Xz [(6,vi i)]) (fun _ => ?_) 0
  refine endR ?_
  refine Xq (Xg 1 (Xe [(4,.nilIface)] ?_ 1))
  refine Xv (Y0 (.nilIface) (fun w hs => ?_))
  exact ⟨(), by rw [ltAskP, if_neg hd1]; rfl, by rw [ltAskP, if_neg hd1]; exact hs⟩
set_option maxRecDepth 100000 in
theorem ltplan_walk (H : List SP) (b r q : Nat) (c : ConfV) (p ap : Int) (l al : List Int) : ∀ w, Sat w (blk b 139 [vi c.frame, vi c.epoch, .slice c.plans.a c.plans.l.length c.plans.c, .slice c.domains.a c.domains.l.length c.domains.c, vi p, .slice (some ⟨r, 0, none⟩) l.length l.length, vi ap, .slice (some ⟨q, 0, none⟩) al.length al.length] :: row (kE .i64) 3 (.slice (some ⟨r, 0, none⟩) l.length l.length) l :: row (kE .i64) 3 (.slice (some ⟨q, 0, none⟩) al.length al.length) al :: H) → Calls Tryz.prog 22 #[vp b] w (Ret (ι := Unit) (fun _ => vi p) fun _ => blk b 139 [vi c.frame, vi c.epoch, .slice c.plans.a c.plans.l.length c.plans.c, .slice c.domains.a c.domains.l.length c.domains.c, vi p, .slice (some ⟨r, 0, none⟩) l.length l.length, vi ap, .slice (some ⟨q, 0, none⟩) al.length al.length] :: row (kE .i64) 3 (.slice (some ⟨r, 0, none⟩) l.length l.length) l :: row (kE .i64) 3 (.slice (some ⟨q, 0, none⟩) al.length al.length) al :: H) := by
 refine enterG (fn := Tryz.f22) 8 [vp b] Tryz.func22 (by kernel_rfl) (by kernel_rfl) (by kernel_rfl) ?_
 refine Xq (Xg 1 (Xe [(0,vp b), (2,vi 0)] ?_ 1))
 refine Xq (Xg 6 (Xm [(2,vi p)] [(⟨b, 4, none⟩, vi p)] (hasC (ba 0) has0) ?_ 6))
 refine Xv (Y0 (vi p) (fun w hs => ?_))
 exact ⟨(), rfl, hs⟩
def ltAskL (c : ConfV) (t : LtS) (d v : Int) : Int × LtS := if d < 0 ∨ (c.domains.l.length : Int) ≤ d then (13, t) else if v < 0 ∨ ((((c.domains.l[d.toNat]?).map (·.release.l.length)).getD 0 : Nat) : Int) ≤ v then (10, t) else (0, { t with ask := t.ask.set d.toNat v })
set_option maxRecDepth 100000 in
theorem ltaskl_walk (H : List SP) (b r q : Nat) (c : ConfV) (p ap : Int) (l al : List Int) (d v : Int) (hal : al.length = c.domains.l.length) (hk : KC H c) : ∀ w, Sat w (blk b 139 [vi c.frame, vi c.epoch, .slice c.plans.a c.plans.l.length c.plans.c, .slice c.domains.a c.domains.l.length c.domains.c, vi p, .slice (some ⟨r, 0, none⟩) l.length l.length, vi ap, .slice (some ⟨q, 0, none⟩) al.length al.length] :: row (kE .i64) 3 (.slice (some ⟨r, 0, none⟩) l.length l.length) l :: row (kE .i64) 3 (.slice (some ⟨q, 0, none⟩) al.length al.length) al :: H) → Calls Tryz.prog 126 #[vp b, vi d, vi v] w (Ret (ι := Unit) (fun _ => pqErr (ltAskL c ⟨p, l, ap, al⟩ d v).1) fun _ => blk b 139 [vi c.frame, vi c.epoch, .slice c.plans.a c.plans.l.length c.plans.c, .slice c.domains.a c.domains.l.length c.domains.c, vi p, .slice (some ⟨r, 0, none⟩) l.length l.length, vi ap, .slice (some ⟨q, 0, none⟩) (ltAskL c ⟨p, l, ap, al⟩ d v).2.ask.length (ltAskL c ⟨p, l, ap, al⟩ d v).2.ask.length] :: row (kE .i64) 3 (.slice (some ⟨r, 0, none⟩) l.length l.length) l :: row (kE .i64) 3 (.slice (some ⟨q, 0, none⟩) (ltAskL c ⟨p, l, ap, al⟩ d v).2.ask.length (ltAskL c ⟨p, l, ap, al⟩ d v).2.ask.length) (ltAskL c ⟨p, l, ap, al⟩ d v).2.ask :: H) := by
 refine enterG (fn := Tryz.f126) 47 [vp b, vi d, vi v] Tryz.func126 (by kernel_rfl) (by kernel_rfl) (by kernel_rfl) ?_
 refine Xq (Xg 1 (Xe [(0,vp b), (1,vi d), (2,vi v), (6,.nilIface)] ?_ 1))
 refine Xq (Xb 0 (Xq (Xg 13 (Xr [(0,vp b), (1,vi d), (2,vi v), (6,.nilIface), (10,.bool (decide (d < 0)))] ?_ 10 3))))
 refine (Xs0 1 9 [(0,vp b), (1,vi d), (2,vi v), (6,.nilIface), (19,.bool ((decide (d < 0)) || (decide (d ≥ (c.domains.l.length : Int)))))] ?_ ?_ : RT _ _ _ _ _ _ 10 _)
 ·cases hg3 : (decide (d < 0)) with
  | true =>
   refine Xe [(0,vp b), (1,vi d), (2,vi v), (6,.nilIface), (19,.bool true)] ?_ 9
   refine Xp [(0,vp b), (1,vi d), (2,vi v), (6,.nilIface), (19,.bool (true || (decide (d ≥ (c.domains.l.length : Int)))))] ?_
   exact midR () rfl rfl
  | false =>
   refine Xm [(0,vp b), (1,vi d), (2,vi v), (6,.nilIface), (19,.bool (decide (d ≥ (c.domains.l.length : Int))))] [(⟨b, 3, none⟩, .slice c.domains.a c.domains.l.length c.domains.c)] (hasC (ba 0) has0) ?_ 9
   refine Xp [(0,vp b), (1,vi d), (2,vi v), (6,.nilIface), (19,.bool (false || (decide (d ≥ (c.domains.l.length : Int)))))] ?_
   exact midR () rfl rfl
 refine Xe [(0,vp b), (1,vi d), (2,vi v), (6,.nilIface), (7,.bool ((decide (d < 0)) || (decide (d ≥ (c.domains.l.length : Int)))))] ?_ 1
 cases hd : ((decide (d < 0)) || (decide (d ≥ (c.domains.l.length : Int)))) with
 | true =>
  have hd1 : d < 0 ∨ (c.domains.l.length : Int) ≤ d := by simp at hd; omega
  refine Xc true (fun _ => ?_) (fun h => by cases h)
  refine Xq (Xg 2 (Xe [(0,vp b), (1,vi d), (2,vi v), (6,.iface 126 (vi 13))] ?_ 2))
  refine Xv (blockV (thenV (Y0 (.iface 126 (vi 13)) (fun w hs => ?_))))
  exact ⟨(), by rw [ltAskL, if_pos hd1]; rfl, by rw [ltAskL, if_pos hd1]; exact hs⟩
 | false =>
  have hd1 : ¬ (d < 0 ∨ (c.domains.l.length : Int) ≤ d) := by simp at hd; omega
  obtain ⟨i, rfl⟩ : ∃ i : Nat, d = (i : Int) := ⟨d.toNat, by omega⟩
  have hil : i < c.domains.l.length := by omega
  obtain ⟨y, hy⟩ : ∃ y, c.domains.l[i]? = some y := ⟨_, List.getElem?_eq_getElem hil⟩
  obtain ⟨a, ha⟩ : ∃ a, al[i]? = some a := ⟨_, List.getElem?_eq_getElem (by omega)⟩
  have he0 : ((((c.domains.l[(i : Int).toNat]?).map (·.release.l.length)).getD 0 : Nat) : Int) = (y.release.l.length : Int) := by rw [Int.toNat_natCast, hy]; rfl
  have he : ltAskL c ⟨p, l, ap, al⟩ (i : Int) v = if v < 0 ∨ (y.release.l.length : Int) ≤ v then (10, ⟨p, l, ap, al⟩) else (0, ⟨p, l, ap, al.set i v⟩) := by rw [ltAskL, if_neg hd1, he0, Int.toNat_natCast]
  refine PT.know ((hk.domains).up.up.up.isSome ((by intro h0; rw [h0] at hil; simp at hil))) ?_
  rintro ⟨db, dd, hA⟩
  try rw [hA]
  refine Xc false (fun h => by cases h) (fun _ => ?_)
  refine Xq (Xg 17 (Xr [(0,vp b), (1,vi i), (2,vi v), (6,.nilIface), (24,.bool (decide (v < 0)))] ?_ 14 3))
  refine (Xs0 1 13 [(0,vp b), (1,vi i), (2,vi v), (6,.nilIface), (37,.bool ((decide (v < 0)) || (decide (v ≥ (y.release.l.length : Int)))))] ?_ ?_ : RT _ _ _ _ _ _ 14 _)
  ·cases hg3 : (decide (v < 0)) with
   | true =>
    refine Xe [(0,vp b), (1,vi i), (2,vi v), (6,.nilIface), (37,.bool true)] ?_ 13
    refine Xp [(0,vp b), (1,vi i), (2,vi v), (6,.nilIface), (37,.bool (true || (decide (v ≥ (y.release.l.length : Int)))))] ?_
    exact midR () rfl rfl
   | false =>
    refine Xl [(0,vp b), (1,vi i), (2,vi v), (6,.nilIface), (24,.bool false), (25,vi v), (30,.slice (some ⟨db, dd, none⟩) c.domains.l.length c.domains.c), (31,vi i)] [(⟨b, 3, none⟩, .slice (some ⟨db, dd, none⟩) c.domains.l.length c.domains.c)] (hasC (ba 0) has0) ?_ 6 7
    refine Xs (yldS (Xi 24 (.tmp 30) (.tmp 31) db dd c.domains.l.length c.domains.c i 10 44 (i : Int) 32 Tryz.underlying24)) (fun _ => ?_) 5
    refine Xm [(0,vp b), (1,vi i), (2,vi v), (6,.nilIface), (37,.bool (decide (v ≥ (y.release.l.length : Int))))] [(⟨db, dd + i * 10 + 3, none⟩, .slice y.release.a y.release.l.length y.release.c)] (hasC (up (up (up (hk.domains.cell hA (i := i) (x := y) hy (j := 3) rfl)))) has0) ?_ 5
    refine Xp [(0,vp b), (1,vi i), (2,vi v), (6,.nilIface), (37,.bool (false || (decide (v ≥ (y.release.l.length : Int)))))] ?_
    exact midR () rfl rfl
  refine Xe [(0,vp b), (1,vi i), (2,vi v), (6,.nilIface), (21,.bool ((decide (v < 0)) || (decide (v ≥ (y.release.l.length : Int)))))] ?_ 1
  cases hv : ((decide (v < 0)) || (decide (v ≥ (y.release.l.length : Int)))) with
  | true =>
   have hv1 : v < 0 ∨ (y.release.l.length : Int) ≤ v := by simp at hv; omega
   rw [if_pos hv1] at he
   refine Xc true (fun _ => ?_) (fun h => by cases h)
   refine Xq (Xg 2 (Xe [(0,vp b), (1,vi i), (2,vi v), (6,.iface 126 (vi 10))] ?_ 2))
   refine Xv (blockV (thenV ?_))
   try rw [← hA]
   refine Y0 (.iface 126 (vi 10)) (fun w hs => ?_)
   exact ⟨(), by rw [he]; rfl, by rw [he]; exact hs⟩
  | false =>
   have hv1 : ¬ (v < 0 ∨ (y.release.l.length : Int) ≤ v) := by simp at hv; omega
   rw [if_neg hv1] at he
   refine Xc false (fun h => by cases h) (fun _ => ?_)
   refine Xk (Xq (Xg 9 (Xl [(6,.nilIface), (43,.slice (some ⟨q, 0, none⟩) al.length al.length), (44,vi i), (45,vi v)] [(⟨b, 7, none⟩, .slice (some ⟨q, 0, none⟩) al.length al.length)] (hasC (ba 0) has0) ?_ 2 7)))
   refine Xs (yldS (Xi 42 (.tmp 43) (.tmp 44) q 0 al.length al.length i 1 3 (i : Int) 46 Tryz.underlying42)) (fun _ => ?_) 1
   refine Xh0 ?_ 2 1
   refine Xs (setS (E := (kE .i64)) (J := i) (j := 0) a v (.int .i64 v) ⟨q, 0 + i * 1, none⟩ (fun _ => by kernel_rfl) (by first | rfl | simp) (ha) (rfl) (by decide)) (fun _ => ?_) 0
   refine endR ?_
   refine Xq (Xg 1 (Xe [(6,.nilIface)] ?_ 1))
   refine Xv ?_
   try rw [← hA]
   refine Y0 (.nilIface) (fun w hs => ?_)
   exact ⟨(), by rw [he]; rfl, by rw [he]; simp only [List.length_set]; exact Sat.perm (.trans (.swap _ _ _) (.cons _ (.swap _ _ _))) hs⟩
theorem turn_set {l al : List Int} {u : Nat} {x : Int} (hl : al.length = l.length) (hx : al[u]? = some x) : (al.take u ++ l.drop u).set u x = al.take (u + 1) ++ l.drop (u + 1) := by
 have hu := (List.getElem?_eq_some_iff.1 hx).1
 apply List.ext_getElem?
 intro i
 have e1 : (al.take u).length = u := by rw [List.length_take]; omega
 have e2 : (al.take (u + 1)).length = u + 1 := by rw [List.length_take]; omega
 rw [List.getElem?_set]
 by_cases c : u = i
 ·subst c
  rw [if_pos rfl, if_pos (by simp; omega), List.getElem?_append_left (by omega), List.getElem?_take_of_lt (by omega), hx]
 ·rw [if_neg c]
  by_cases c2 : i < u
  ·rw [List.getElem?_append_left (by omega), List.getElem?_append_left (by omega), List.getElem?_take_of_lt c2, List.getElem?_take_of_lt (by omega)]
  ·rw [List.getElem?_append_right (by omega), List.getElem?_append_right (by omega), e1, e2, List.getElem?_drop, List.getElem?_drop]
   congr 1; omega
set_option maxRecDepth 100000 in
theorem ltturn_walk (H : List SP) (b r q : Nat) (c : ConfV) (p ap : Int) (n : Nat) (l al : List Int) (hl : l.length = n) (hal : al.length = n) (hn : n ≤ 1000) : ∀ w, Sat w (blk b 139 [vi c.frame, vi c.epoch, .slice c.plans.a c.plans.l.length c.plans.c, .slice c.domains.a c.domains.l.length c.domains.c, vi p, .slice (some ⟨r, 0, none⟩) n n, vi ap, .slice (some ⟨q, 0, none⟩) n n] :: row (kE .i64) 3 (.slice (some ⟨r, 0, none⟩) n n) l :: row (kE .i64) 3 (.slice (some ⟨q, 0, none⟩) n n) al :: H) → Calls Tryz.prog 54 #[vp b] w (Ret (ι := Unit) (fun _ => .tuple #[]) fun _ => blk b 139 [vi c.frame, vi c.epoch, .slice c.plans.a c.plans.l.length c.plans.c, .slice c.domains.a c.domains.l.length c.domains.c, vi ap, .slice (some ⟨r, 0, none⟩) n n, vi ap, .slice (some ⟨q, 0, none⟩) n n] :: row (kE .i64) 3 (.slice (some ⟨r, 0, none⟩) n n) al :: row (kE .i64) 3 (.slice (some ⟨q, 0, none⟩) n n) al :: H) := by
 refine enterG (fn := Tryz.f54) 37 [vp b] Tryz.func54 (by kernel_rfl) (by kernel_rfl) (by kernel_rfl) ?_
 refine scopeG 0 (fun (u : Nat) => [(0, vp b), (2, vi u)]) (fun (u : Nat) => (blk b 139 [vi c.frame, vi c.epoch, .slice c.plans.a c.plans.l.length c.plans.c, .slice c.domains.a c.domains.l.length c.domains.c, vi ap, .slice (some ⟨r, 0, none⟩) n n, vi ap, .slice (some ⟨q, 0, none⟩) n n] :: row (kE .i64) 3 (.slice (some ⟨r, 0, none⟩) n n) (al.take u ++ l.drop u) :: row (kE .i64) 3 (.slice (some ⟨q, 0, none⟩) n n) al :: H)) (fun k (u : Nat) => k + u = n) (by kernel_rfl) (by kernel_rfl) (by kernel_rfl) (by kernel_rfl) ?_ ?_
 ·skip
  rintro k u hku K hK
  refine Xq (Xg 8 (Xm [(0,vp b), (2,vi u), (19,.bool (decide ((u : Int) < (n : Int))))] [(⟨b, 7, none⟩, .slice (some ⟨q, 0, none⟩) n n)] (hasC (ba 0) has0) ?_ 8))
  refine Xc (decide ((u : Int) < (n : Int))) (fun h1 => ?_) (fun h1 => ?_)
  ·skip
   have hu : u < n := by have := of_decide_eq_true h1; omega
   obtain ⟨x, hx⟩ : ∃ x, al[u]? = some x := ⟨_, List.getElem?_eq_getElem (by omega)⟩
   have hse := turn_set (hal.trans hl.symm) hx
   obtain ⟨y, hy⟩ : ∃ y, (al.take u ++ l.drop u)[u]? = some y := ⟨_, List.getElem?_eq_getElem (by simp; omega)⟩
   refine Xq (Xy0 0 [15] 16 ?_)
   refine Xt [0, 1, 2, 3, 4, 5, 6, 7, 8, 9, 10, 11] [(0,vp b), (2,vi u), (24,.slice (some ⟨r, 0, none⟩) n n), (25,vi u), (30,.slice (some ⟨q, 0, none⟩) n n), (31,vi u)] [(⟨b, 5, none⟩, .slice (some ⟨r, 0, none⟩) n n), (⟨b, 7, none⟩, .slice (some ⟨q, 0, none⟩) n n)] (hasC (ba 0) (hasC (ba 0) has0)) ?_
   refine Xu 12 (Xi 42 (.tmp 30) (.tmp 31) q 0 n n u 1 3 (u : Int) 32 Tryz.underlying42) ?_
   refine Xt [13] [(0,vp b), (2,vi u), (24,.slice (some ⟨r, 0, none⟩) n n), (25,vi u), (33,vi x)] [(⟨q, 0 + u * 1, none⟩, vi x)] (hasC (rowCell (E := kE .i64) (xs := al) 2 rfl (x := x) hx (j := 0) rfl) has0) ?_
   refine Xu 14 (Xi 42 (.tmp 24) (.tmp 25) r 0 n n u 1 3 (u : Int) 34 Tryz.underlying42) ?_
   refine DT.pick 1 rfl ?_
   refine Xo 15 (setS (E := (kE .i64)) (J := u) (j := 0) y x (.int .i64 x) ⟨r, 0 + u * 1, none⟩ (fun _ => by kernel_rfl) (by first | rfl | simp) (hy) (rfl) (by decide)) (fun _ => ?_)
   rw [show ((al.take u ++ l.drop u).set u x) = (al.take (u + 1) ++ l.drop (u + 1)) by exact hse]
   refine Xd (Xq (Xg 3 (Xe [(0,vp b), (2,vi (IntKind.i64.wrap ((u : Int) + 1)))] ?_ 3)))
   refine gotoR 0 (by kernel_rfl) (by kernel_rfl) ?_
   refine PT.pick 1 rfl ?_
   rw [show IntKind.i64.wrap ((u : Int) + 1) = ((u + 1 : Nat) : Int) by rw [IntKind.wrap_i64]; omega]
   refine Xp [(0,vp b), (2,vi ((u + 1 : Nat) : Int))] ?_
   exact jumpR (hK (k - 1) (u + 1) (by omega) (by omega))
  ·skip
   have hu : u = n := by have := of_decide_eq_false h1; omega
   refine Xk (Y1 (.tuple #[]) (fun w hs => ?_))
   exact ⟨(), rfl, by rw [List.take_of_length_le (show al.length ≤ u by omega), List.drop_eq_nil_of_le (show l.length ≤ u by omega), List.append_nil] at hs; exact hs⟩
 ·skip
  intro K hK
  refine Xq (Xg 10 (Xl [(0,vp b), (8,vi ap), (11,vq b 4)] [(⟨b, 6, none⟩, vi ap)] (hasC (ba 0) has0) ?_ 1 9))
  refine Xs (Xz [(4,vi ap)]) (fun _ => ?_) 0
  refine endR ?_
  refine Xq (Xg 1 (Xe [(0,vp b), (2,vi 0)] ?_ 1))
  refine Xq ?_
  refine labelR (by kernel_rfl) ?_
  refine Xp [(0,vp b), (2,vi 0)] ?_
  refine codeR (by kernel_rfl) (hK n 0 (by omega))
theorem ltAskL_ok {c : ConfV} {t : LtS} (h : LtOk c t) (d v : Int) : LtOk c (ltAskL c t d v).2 := by
 unfold ltAskL
 split
 ·exact h
 ·split
  ·exact h
  ·exact ⟨h.1, by simp only [List.length_set]; exact h.2.1, h.2.2⟩
theorem ltAskP_ok {c : ConfV} {t : LtS} (h : LtOk c t) (n : Nat) (i : Int) : LtOk c (ltAskP t n i).2 := by
 unfold ltAskP; split <;> exact h
section
variable (H : List SP) (b : Nat) (c : ConfV) (t : LtS)
theorem ltAskP_c (i : Int) : ∀ w, Sat w (ltS b c t :: H) → Calls Tryz.prog 128 #[vp b, vi i] w (Ret (ι := Unit) (fun _ => pqErr (ltAskP t c.plans.l.length i).1) fun _ => ltS b c (ltAskP t c.plans.l.length i).2 :: H) := fun w hs => by
 obtain ⟨r, q, h1, hs⟩ := Sat.openLt hs
 refine (ltaskp_walk H b r q c t.plan t.askp t.lv t.ask i w hs).mono fun e w' ⟨_, he, hx⟩ => ⟨(), he, Sat.closeLt (r := r) (q := q) (ltAskP_ok h1 _ i) ?_⟩
 have e1 : (ltAskP t c.plans.l.length i).2.plan = t.plan ∧ (ltAskP t c.plans.l.length i).2.lv = t.lv ∧ (ltAskP t c.plans.l.length i).2.ask = t.ask := by unfold ltAskP; split <;> exact ⟨rfl, rfl, rfl⟩
 rw [e1.1, e1.2.1, e1.2.2]; exact hx
theorem ltAskL_c (d v : Int) (hk : KC H c) : ∀ w, Sat w (ltS b c t :: H) → Calls Tryz.prog 126 #[vp b, vi d, vi v] w (Ret (ι := Unit) (fun _ => pqErr (ltAskL c t d v).1) fun _ => ltS b c (ltAskL c t d v).2 :: H) := fun w hs => by
 obtain ⟨r, q, h1, hs⟩ := Sat.openLt hs
 refine (ltaskl_walk H b r q c t.plan t.askp t.lv t.ask d v h1.2.1 hk w hs).mono fun e w' ⟨_, he, hx⟩ => ⟨(), he, Sat.closeLt (r := r) (q := q) (ltAskL_ok h1 d v) ?_⟩
 have e1 : (ltAskL c t d v).2.plan = t.plan ∧ (ltAskL c t d v).2.lv = t.lv ∧ (ltAskL c t d v).2.askp = t.askp := by
  unfold ltAskL
  split
  ·exact ⟨rfl, rfl, rfl⟩
  ·split <;> exact ⟨rfl, rfl, rfl⟩
 rw [e1.1, e1.2.1, e1.2.2]; exact hx
theorem ltTurn_c : ∀ w, Sat w (ltS b c t :: H) → Calls Tryz.prog 54 #[vp b] w (Ret (ι := Unit) (fun _ => .tuple #[]) fun _ => ltS b c (ltTurn t) :: H) := fun w hs => by
 obtain ⟨r, q, h1, hs⟩ := Sat.openLt hs
 have e1 : t.ask.length = t.lv.length := h1.2.1.trans h1.1.symm
 rw [e1] at hs
 refine (ltturn_walk H b r q c t.plan t.askp t.lv.length t.lv t.ask rfl e1 (by rw [h1.1]; exact h1.2.2) w hs).mono fun e w' ⟨_, he, hx⟩ => ⟨(), he, Sat.closeLt (r := r) (q := q) (t := ltTurn t) ⟨h1.2.1, h1.2.1, h1.2.2⟩ ?_⟩
 simp only [ltTurn, e1]; exact hx
theorem ltPlan_c : ∀ w, Sat w (ltS b c t :: H) → Calls Tryz.prog 22 #[vp b] w (Ret (ι := Unit) (fun _ => vi t.plan) fun _ => ltS b c t :: H) := fun w hs => by
 obtain ⟨r, q, h1, hs⟩ := Sat.openLt hs
 exact (ltplan_walk H b r q c t.plan t.askp t.lv t.ask w hs).mono fun e w' ⟨_, he, hx⟩ => ⟨(), he, Sat.closeLt h1 hx⟩
end
end Go.Proofs.YtfhkgohokbkgiaaGreatDoor
set_option linter.unusedVariables false
set_option linter.unusedSimpArgs false
namespace Go.Proofs.YtfhkgohokbkgiaaGreatDoor
open Go.RowKit
def reE : Enc (Int × Int × Int × Int) := ⟨4, by decide, fun p => [.int .i64 p.1, .int .i64 p.2.1, .int .i64 p.2.2.1, .int .i64 p.2.2.2], fun _ => rfl, by intro a u hu; simp at hu; rcases hu with rfl | rfl | rfl | rfl <;> rfl⟩
theorem infoRe : (Tryz.prog.info? 48).map (fun i => (i.zero, i.size, i.bytes)) = some (some (.agg #[.int .i64 0, .int .i64 0, .int .i64 0, .int .i64 0]), 4, 32) := by kernel_rfl
theorem etyRe : Ety Tryz.prog reE 48 (.agg #[.int .i64 0, .int .i64 0, .int .i64 0, .int .i64 0]) := by
  obtain ⟨i, hi, hz, hs, hb⟩ := info_parts infoRe
  exact ⟨⟨i, hi, hz, hs, by omega⟩, rfl⟩
theorem zero_cells_re (n : Nat) : ∀ u ∈ (Builtin.zeroCells (Value.agg #[.int .i64 0, .int .i64 0, .int .i64 0, .int .i64 0]).cells n).toList, u.oneCell' = true := by
  intro u hu
  simp only [Builtin.zeroCells, Value.cells, List.size_toArray, List.length_cons, List.length_nil, Array.toList_map, List.mem_map] at hu
  obtain ⟨k, _, rfl⟩ := hu
  rcases (show k % 4 = 0 ∨ k % 4 = 1 ∨ k % 4 = 2 ∨ k % 4 = 3 by omega) with h | h | h | h <;> simp [h, Value.oneCell']

set_option maxHeartbeats 1000000 in
set_option maxRecDepth 100000 in
theorem del_re_at (w : World) (b o c n : Nat) (cur : Array Value) (xs zs : List (Int × Int × Int × Int)) (i : Nat) (hz : zs = xs.take i ++ xs.drop (i + 1)) (hx : xs.length = n) (hb : w.heap[b]? = some (.cells cur 48 (0, 0))) (hc1 : n ≤ c) (hc2 : c ≤ maxLen) (hc3 : o + c * 4 ≤ cur.size) (hcur : (cur.toList.drop o).take (n * 4) = reE.flat xs)
    (hi : i < n) (hn : n ≤ 1000000000) :
    Calls Tryz.prog 93 #[.slice (some ⟨b, o, none⟩) n c, .int .i64 i, .int .i64 (i + 1)] w (RowPost reE 48 (OneB b) w zs) := by
  have hne : ((i : Int) == (i : Int) + 1) = false := by simp; omega
  have hlen : cur.toList.length = cur.size := by simp
  -- the append in place
  have hrow : Row reE 48 w.drew (OneB b) (.slice (some ⟨b, o, none⟩) (xs.take i).length c) (xs.take i) := by
    refine .inr ⟨b, o, c, cur, rfl, rfl, hb, by simp; omega, hc2, hc3, ?_⟩
    rw [List.length_take, hx, Nat.min_eq_left (by omega)]
    rw [← reE.flat_take, ← hcur, List.take_take]
    congr 1
    show i * 4 = min (i * 4) (n * 4); omega
  have hil : (xs.take i).length = i := by rw [List.length_take, hx]; omega
  have hdl : (xs.drop (i + 1)).length = n - (i + 1) := by rw [List.length_drop, hx]
  have hcell : ∀ j u, (reE.flat (xs.drop (i + 1)))[j]? = some u → w.drew.cell? ⟨b, o + (i + 1) * 4 + j, none⟩ = some u := by
    intro j u hu
    rw [cell_of_row w.drew b _ cur 48 (0, 0) hb]
    rw [← reE.flat_drop, ← hcur] at hu
    rw [List.getElem?_drop, List.getElem?_take] at hu
    split at hu
    · rw [List.getElem?_drop] at hu
      rw [← Array.getElem?_toList, ← hu]
      show _ = cur.toList[o + ((i + 1) * 4 + j)]?
      congr 1; omega
    · cases hu
  have hap : ∀ (X : Option Addr) (m dc : Nat), m = n - (i + 1) → (¬ c = i + 1 → X = some ⟨b, o + (i + 1) * 4, none⟩ ∧ dc = c - (i + 1)) → (c = i + 1 → X = some ⟨b, o, none⟩ ∧ dc = 0) → ∃ cur1, cur1.size = cur.size ∧ (cur1.toList.drop o).take ((n - 1) * 4) = reE.flat zs ∧
      (Builtin.append_ #[36, 36] 36 #[.slice (some ⟨b, o, none⟩) i c, .slice X m dc]).run Tryz.prog w.drew = .ok (.slice (some ⟨b, o, none⟩) (n - 1) c) (w.drew.setRow b cur1) := by
    intro X m dc hm hX1 hX2
    subst hm
    obtain ⟨ii, hii, hzz, hss, hbb⟩ := info_parts infoRe
    have hfl : (reE.flat (xs.drop (i + 1))).length = (n - (i + 1)) * 4 := by rw [reE.flat_length, hdl]; rfl
    have hfl0 : (reE.flat (xs.take i)).length = i * 4 := by rw [reE.flat_length, hil]; rfl
    have hf : (Builtin.firstCells 4 (n - (i + 1)) (.slice X (n - (i + 1)) dc)).run Tryz.prog w.drew = .ok (reE.flat (xs.drop (i + 1))).toArray w.drew := by
      by_cases hcc : c = i + 1
      · obtain ⟨rfl, rfl⟩ := hX2 hcc
        have e0 : n - (i + 1) = 0 := by omega
        rw [e0] at hfl ⊢
        have : reE.flat (xs.drop (i + 1)) = [] := List.eq_nil_of_length_eq_zero (by simpa using hfl)
        rw [this]
        exact run_firstCells_some (P := Tryz.prog) w.drew 4 0 _ _ _ [] rfl (by intro j u h; simp at h)
      · obtain ⟨rfl, rfl⟩ := hX1 hcc
        exact run_firstCells_some (P := Tryz.prog) w.drew 4 _ _ _ _ _ hfl (fun j u hu => by rw [Addr.add_lit]; exact hcell j u hu)
    have hst := run_storeCells_at Tryz.prog b (o + i * 4) 48 (reE.flat (xs.drop (i + 1))) 0 cur w.drew hb (by rw [hfl]; omega) (reE.flat_one' _)
    simp only [Nat.add_zero] at hst
    refine ⟨(cur.toList.take (o + i * 4) ++ reE.flat (xs.drop (i + 1)) ++ cur.toList.drop (o + i * 4 + (reE.flat (xs.drop (i + 1))).length)).toArray, ?_, ?_, ?_⟩
    rotate_left 2
    · have hroom : i + (n - (i + 1)) ≤ c := by omega
      have e1 : i + (n - (i + 1)) = n - 1 := by omega
      simp [Builtin.append_, run_underlying Tryz.underlying36, sizeOf, typeInfo, hii, hss, Builtin.lenOf, hf, Addr.add_lit, hst, e1]
      intro h; omega
    · simp only [List.size_toArray, List.length_append, List.length_take, List.length_drop, hlen, hfl]; omega
    · have htm := take_mid cur.toList o (i * 4) (reE.flat (xs.drop (i + 1))).length (reE.flat (xs.drop (i + 1))) rfl (by rw [hlen, hfl]; omega)
      have e2 : (n - 1) * 4 = i * 4 + (reE.flat (xs.drop (i + 1))).length := by rw [hfl]; omega
      rw [e2]
      show List.take _ (List.drop o (List.take (o + i * 4) cur.toList ++ reE.flat (xs.drop (i + 1)) ++ List.drop (o + i * 4 + (reE.flat (xs.drop (i + 1))).length) cur.toList)) = _
      rw [htm, hz, Enc.flat_append]
      congr 1
      rw [← reE.flat_take, ← hcur, List.take_take]
      congr 1
      show i * 4 = min (i * 4) (n * 4); omega
  -- the clear
  have hclr : ∀ cur1 : Array Value, cur1.size = cur.size → (cur1.toList.drop o).take ((n - 1) * 4) = reE.flat zs → ∃ cur2, (∀ dc, (Builtin.clear_ #[36] 0 #[.slice (some ⟨b, o + (n - 1) * 4, none⟩) 1 dc]).run Tryz.prog (w.drew.setRow b cur1) = .ok (.tuple #[]) ((w.drew.setRow b cur1).setRow b cur2)) ∧
      RowPost reE 48 (OneB b) w zs (.returned (.slice (some ⟨b, o, none⟩) (n - 1) c)) ((w.drew.setRow b cur1).setRow b cur2) := by
    intro cur1 hs1 ht1
    have hb1 : (w.drew.setRow b cur1).heap[b]? = some (.cells cur1 48 (0, 0)) := setRow_heap w.drew b cur cur1 _ _ hb
    have hl1 : cur1.toList.length = cur.size := by simp [hs1]
    have hzl : (Builtin.zeroCells (Value.agg #[.int .i64 0, .int .i64 0, .int .i64 0, .int .i64 0]).cells 1).toList.length = 4 := by rw [Array.length_toList, size_zeroCells]; rfl
    refine ⟨_, fun dc => run_clear_at (P := Tryz.prog) Tryz.underlying36 etyRe hb1 (by omega) (by rw [hs1]; show _ + 1 * 4 ≤ _; omega) (zero_cells_re 1), ?_⟩
    refine ⟨_, OneB b, rfl, .inr ⟨b, o, c, _, ?_, rfl, setRow_heap _ b cur1 _ _ _ hb1, ?_, hc2, ?_, ?_⟩, ⟨rfl, rfl, rfl, by simp [World.setRow], fun k _ hk => (setRow_other _ b k _ (fun e => hk e)).trans (setRow_other w.drew b k _ (fun e => hk e))⟩, fun b hb => .inl hb⟩
    · congr 1; rw [hz]; simp; omega
    · rw [hz]; simp; omega
    · simp only [List.size_toArray, List.length_append, List.length_take, List.length_drop, hl1, hzl]
      show o + c * 4 ≤ _ + (_ - (_ + 1 * 4)); omega
    · have hzn : zs.length = n - 1 := by rw [hz]; simp; omega
      rw [hzn, ← ht1]
      show List.take ((n - 1) * 4) (List.drop o (List.take (o + (n - 1) * 4) cur1.toList ++ (Builtin.zeroCells (Value.agg #[.int .i64 0, .int .i64 0, .int .i64 0, .int .i64 0]).cells 1).toList ++ List.drop (o + (n - 1) * 4 + 1 * 4) cur1.toList)) = _
      rw [List.append_assoc, List.drop_append, List.length_take, hl1, show o - min (o + (n - 1) * 4) cur.size = 0 by omega, List.drop_zero, List.drop_take]
      have e3 : o + (n - 1) * 4 - o = (n - 1) * 4 := by omega
      rw [e3]
      exact List.take_left' (by simp only [List.length_take, List.length_drop, hl1]; omega)
  have HAP := Lib.hid hap
  have HCL := Lib.hid hclr
  clear hap hclr hrow hil hdl hcell hcur hb hx hz hlen hc3
  have hb2 : ¬ (c = i) := by omega
  have hb3 : ¬ (c = n - 1) := by omega
  have hb4 : i + 1 ≤ n := by omega
  have hb5 : (0 : Int) ≤ (i : Int) + 1 := by omega
  have hw1 : IntKind.i64.wrap ((i : Int) + 1) = (i : Int) + 1 := by rw [IntKind.wrap_i64]; omega
  have htn : ((i : Int) + 1).toNat = i + 1 := by omega
  have hb6 : n - (n - 1) = 1 := by omega
  have hb7 : i ≤ n := by omega
  have hb8 : n - 1 ≤ n := by omega
  have hb9 : i ≤ c := by omega
  have hb11 : (i : Int) + 1 ≤ (n : Int) := by omega
  have hb10 : (i : Int) ≤ (i : Int) + 1 := by omega
  by_cases hcc : c = i + 1
  · subst hcc
    obtain ⟨cur1, hs1, ht1, hr1⟩ := HAP.out (some ⟨b, o, none⟩) 0 0 (by omega) (by intro h; exact absurd rfl h) (by intro _; exact ⟨rfl, rfl⟩)
    obtain ⟨cur2, hr2, hp0⟩ := HCL.out cur1 hs1 ht1
    have hp := Lib.hid hp0
    have HR := Lib.hid hr1
    clear hs1 ht1 hp0 hr1 HAP HCL
    go_enter Tryz.func93, Tryz.ntmps93
    go_wp2
    go_region_law (refine step_append_by rfl _ _ _ _ rfl (by simp [Act.eval, Act.put]) (by simp [Act.eval, Act.put]) HR.out ?_)
    go_wp2
    go_ret
    exact hp.out
  · obtain ⟨cur1, hs1, ht1, hr1⟩ := HAP.out (some ⟨b, o + (i + 1) * 4, none⟩) (n - (i + 1)) (c - (i + 1)) rfl (by intro _; exact ⟨rfl, rfl⟩) (by intro h; exact absurd h hcc)
    obtain ⟨cur2, hr2, hp0⟩ := HCL.out cur1 hs1 ht1
    have hp := Lib.hid hp0
    have HR := Lib.hid hr1
    clear hs1 ht1 hp0 hr1 HAP HCL
    go_enter Tryz.func93, Tryz.ntmps93
    go_wp2
    go_region_law (refine step_append_by rfl _ _ _ _ rfl (by simp [Act.eval, Act.put]) (by simp [Act.eval, Act.put]) HR.out ?_)
    go_wp2
    go_ret
    exact hp.out

/-- slices.Delete of one element at a row of sleepers. -/
theorem del_re (w : World) (F : Nat → Prop) (v : Value) (xs : List (Int × Int × Int × Int)) (hrow : Row reE 48 w F v xs) (i : Nat) (hi : i < xs.length) (hn : xs.length ≤ 1000000000) :
    Calls Tryz.prog 93 #[v, .int .i64 i, .int .i64 (i + 1)] w (RowPost reE 48 F w (xs.take i ++ xs.drop (i + 1))) := by
  rcases hrow with ⟨rfl, rfl, rfl⟩ | ⟨b, o, c, cur, rfl, rfl, hb, hc1, hc2, hc3, hcur⟩
  · simp at hi
  · exact del_re_at w b o c _ cur xs _ i rfl rfl hb hc1 hc2 hc3 hcur hi hn
end Go.Proofs.YtfhkgohokbkgiaaGreatDoor
set_option linter.unusedVariables false
set_option linter.unusedSimpArgs false
namespace Go.Proofs.YtfhkgohokbkgiaaGreatDoor
open Go.RowKit G
def rgS (b : Nat) (r : RgS) : SP := exS fun p : Option Addr × Nat => two (pureS (RgOk r)) (two (blk b 178 [.slice p.1 r.l.length p.2, .int .i64 r.room, .int .i64 r.last]) (row reE 48 (.slice p.1 r.l.length p.2) r.l))
theorem Sat.openRg {b : Nat} {r : RgS} {H : List SP} {w : World} (h : Sat w (rgS b r :: H)) : ∃ A cap, RgOk r ∧ Sat w (blk b 178 [.slice A r.l.length cap, .int .i64 r.room, .int .i64 r.last] :: row reE 48 (.slice A r.l.length cap) r.l :: H) := by
 obtain ⟨⟨A, cap⟩, h⟩ := Sat.openEx h
 obtain ⟨h1, h⟩ := Sat.openPure (Sat.openTwo h)
 exact ⟨A, cap, h1, Sat.openTwo h⟩
theorem Sat.closeRg {b : Nat} {r : RgS} {H : List SP} {w : World} {A : Option Addr} {cap : Nat} (h1 : RgOk r) (h : Sat w (blk b 178 [.slice A r.l.length cap, .int .i64 r.room, .int .i64 r.last] :: row reE 48 (.slice A r.l.length cap) r.l :: H)) : Sat w (rgS b r :: H) :=
 Sat.closeEx (A, cap) (Sat.closeTwo (Sat.closePure h1 (Sat.closeTwo h)))
theorem del_re_walk (H : List SP) (v : Value) (xs : List Rec) (i : Nat) (hi : i < xs.length) (hn : xs.length ≤ 1000000000) :
  ∀ w, Sat w (row reE 48 v xs :: H) → Calls Tryz.prog 93 #[v, .int .i64 i, .int .i64 ((i : Int) + 1)] w (Ret (ι := Option Addr × Nat) (fun p => .slice p.1 (xs.take i ++ xs.drop (i + 1)).length p.2) fun p => row reE 48 (.slice p.1 (xs.take i ++ xs.drop (i + 1)).length p.2) (xs.take i ++ xs.drop (i + 1)) :: H) :=
 rowCall fun w F hr _ => del_re w F v xs hr i hi hn
set_option maxRecDepth 100000 in
theorem rgnew_walk (H : List SP) (m : Int) : ∀ w, Sat w H → Calls Tryz.prog 44 #[vi m] w (Ret (ι := Nat) (fun b => vp b) fun b => rgS b (rg0 m) :: H) := by
 refine enterG (fn := Tryz.f44) 8 [vi m] Tryz.func44 (by kernel_rfl) (by kernel_rfl) (by kernel_rfl) ?_
 refine Xq (Xg 1 (Xe [(0,vi m), (2,.pointer none)] ?_ 1))
 refine Xq (Xg 6 (Xr [(2,.pointer none), (6,.agg #[.slice none 0 0, vi (mnI (mxI m 1) 16), vi 0])] ?_ 2 4))
 refine Xs (Xn 178 [.slice none 0 0, vi (mnI (mxI m 1) 16), vi 0] (some 7) (fun b => vp b)) (fun b1 => ?_) 1
 refine Xe [(2,vp b1)] ?_ 1
 refine Xv (Y0 (vp b1) (fun w hs => ?_))
 exact ⟨b1, rfl, Sat.closeRg (r := rg0 m) (A := none) (cap := 0) (rg0_ok m) (SatF.swap (Sat.rowNil hs))⟩
set_option maxRecDepth 100000 in
theorem rgadd_walk (H : List SP) (b : Nat) (A : Option Addr) (cap : Nat) (l : List Rec) (m n : Int) (t op cd : Int) (hl : l.length ≤ 1000000) : ∀ w, Sat w (blk b 178 [.slice A l.length cap, vi m, vi n] :: row reE 48 (.slice A l.length cap) l :: H) → Calls Tryz.prog 51 #[vp b, vi t, vi op, vi cd] w (Ret (ι := Option Addr × Nat) (fun _ => .tuple #[]) fun x => blk b 178 [.slice x.1 (rgAdd ⟨l, m, n⟩ t op cd).l.length x.2, vi m, vi (IntKind.i64.wrap (n + 1))] :: row reE 48 (.slice x.1 (rgAdd ⟨l, m, n⟩ t op cd).l.length x.2) (rgAdd ⟨l, m, n⟩ t op cd).l :: H) := by
 refine enterG (fn := Tryz.f51) 50 [vp b, vi t, vi op, vi cd] Tryz.func51 (by kernel_rfl) (by kernel_rfl) (by kernel_rfl) ?_
 refine Xq (Xg 8 (Xl [(0,vp b), (1,vi t), (2,vi op), (3,vi cd), (12,vi (IntKind.i64.wrap (n + 1))), (14,vq b 2)] [(⟨b, 2, none⟩, vi n)] (hasC (ba 0) has0) ?_ 1 7))
 refine Xs (Xz [(2,vi (IntKind.i64.wrap (n + 1)))]) (fun _ => ?_) 0
 refine endR ?_
 refine Xq ?_
 refine PT.pick 1 rfl ?_
 refine Xy0 1 [17] 18 ?_
 refine Xt [0, 1, 2, 3, 4, 5, 6, 7, 8, 9, 10, 11, 12] [(0,vp b), (15,vp b), (19,.slice A l.length cap), (27,.agg #[vi (IntKind.i64.wrap (n + 1)), vi t, vi op, vi cd])] [(⟨b, 0, none⟩, .slice A l.length cap), (⟨b, 2, none⟩, vi (IntKind.i64.wrap (n + 1)))] (hasC (ba 0) (hasC (ba 0) has0)) ?_
 refine Xo 13 (Xn 48 [vi (IntKind.i64.wrap (n + 1)), vi t, vi op, vi cd] (some 28) (fun b => .slice (some ⟨b, 0, none⟩) 1 1)) (fun b1 => ?_)
 refine DT.pick 1 rfl ?_
 refine Xo 14 (Xf (E := reE) 36 (.tmp 19) (.tmp 28) A cap l [(IntKind.i64.wrap (n + 1), t, op, cd)] (.slice (some ⟨b1, 0, none⟩) 1 1) 29 Tryz.underlying36 (etyRe) (blkRd (x := (IntKind.i64.wrap (n + 1), t, op, cd)) 1 rfl) (by simp only [List.length_cons, List.length_nil]; omega)) (fun r2 => ?_)
 refine Xt [15, 16] [(29,.slice r2.1 ((l ++ [(IntKind.i64.wrap (n + 1), t, op, cd)]).length) r2.2), (0,vp b), (31,vp b)] [] has0 ?_
 refine DT.pick 2 rfl ?_
 refine Xo 17 (Xz [(0,.slice r2.1 ((l ++ [(IntKind.i64.wrap (n + 1), t, op, cd)]).length) r2.2)]) (fun _ => ?_)
 refine Xd (Xq (Xy0 0 [] 10 ?_))
 refine Xt [0, 1, 2, 3, 4, 5, 6, 7, 8, 9] [(0,vp b), (41,.bool (decide (((l ++ [(IntKind.i64.wrap (n + 1), t, op, cd)]).length : Int) > m)))] [(⟨b, 0, none⟩, .slice r2.1 ((l ++ [(IntKind.i64.wrap (n + 1), t, op, cd)]).length) r2.2), (⟨b, 1, none⟩, vi m)] (hasC (ba 0) (hasC (ba 0) has0)) ?_
 refine Xd (Xc (decide (((l ++ [(IntKind.i64.wrap (n + 1), t, op, cd)]).length : Int) > m)) (fun h1 => ?_) (fun h1 => ?_))
 ·skip
  have h1' := of_decide_eq_true h1
  have hrl : (l ++ [(IntKind.i64.wrap (n + 1), t, op, cd)]).length = l.length + 1 := by simp
  have hd : (l ++ [(IntKind.i64.wrap (n + 1), t, op, cd)]).take 0 ++ (l ++ [(IntKind.i64.wrap (n + 1), t, op, cd)]).drop (0 + 1) = (rgAdd ⟨l, m, n⟩ t op cd).l := by rw [rgAdd, rgIn]; dsimp only; rw [if_pos h1']; rfl
  refine Xg 9 (Xl [(42,vp b), (46,.slice r2.1 ((l ++ [(IntKind.i64.wrap (n + 1), t, op, cd)]).length) r2.2)] [(⟨b, 0, none⟩, .slice r2.1 ((l ++ [(IntKind.i64.wrap (n + 1), t, op, cd)]).length) r2.2)] (hasC (ba 0) has0) ?_ 4 5)
  refine Xh0 ?_ 1 4
  refine Xs (Xa (some 47) (fun (r : Option Addr × Nat) => .slice r.1 (rgAdd ⟨l, m, n⟩ t op cd).l.length r.2) ((hd ▸ del_re_walk (blk b 178 [.slice r2.1 ((l ++ [(IntKind.i64.wrap (n + 1), t, op, cd)]).length) r2.2, .int .i64 m, .int .i64 (IntKind.i64.wrap (n + 1))] :: blk b1 48 [.int .i64 (IntKind.i64.wrap (n + 1)), .int .i64 t, .int .i64 op, .int .i64 cd] :: H) (.slice r2.1 (l ++ [(IntKind.i64.wrap (n + 1), t, op, cd)]).length r2.2) (l ++ [(IntKind.i64.wrap (n + 1), t, op, cd)]) 0 (by omega) (by omega)))) (fun (r : Option Addr × Nat) => ?_) 3
  refine Xr [(47,.slice r.1 ((rgAdd ⟨l, m, n⟩ t op cd).l.length) r.2), (49,vp b)] ?_ 1 2
  refine Xh0 ?_ 1 1
  refine Xs (Xz [(0,.slice r.1 ((rgAdd ⟨l, m, n⟩ t op cd).l.length) r.2)]) (fun _ => ?_) 0
  refine endR ?_
  refine Y1 (.tuple #[]) (fun w hs => ?_)
  exact ⟨r, rfl, Sat.erase 2 rfl hs⟩
 ·skip
  have h1' := of_decide_eq_false h1
  refine Xk (Y1 (.tuple #[]) (fun w hs => ?_))
  exact ⟨r2, rfl, by rw [rgAdd, rgIn]; dsimp only; rw [if_neg h1']; exact Sat.erase 2 rfl hs⟩
theorem rgAdd_c (H : List SP) (b : Nat) (r : RgS) (t op cd : Int) : ∀ w, Sat w (rgS b r :: H) → Calls Tryz.prog 51 #[vp b, vi t, vi op, vi cd] w (Ret (ι := Unit) (fun _ => .tuple #[]) fun _ => rgS b (rgAdd r t op cd) :: H) := fun w hs => by
 obtain ⟨A, cap, h1, hs⟩ := Sat.openRg hs
 exact (rgadd_walk H b A cap r.l r.room r.last t op cd (by have := h1.len; have := h1.room; omega) w hs).mono fun e w' ⟨x, he, hx⟩ => ⟨(), he, Sat.closeRg (rgAdd_ok h1 t op cd) hx⟩
def rgGet (r : RgS) (seq : Int) : Rec × Bool := match rgFrom r seq with | none => ((0, 0, 0, 0), false) | some x => (x, true)
theorem find_skip {p : Rec → Bool} {l : List Rec} {u : Nat} (h : ∀ j x, j < u → l[j]? = some x → p x = false) : l.find? p = (l.drop u).find? p := by
 induction u generalizing l with
 | zero => rfl
 | succ u ih =>
  cases l with
  | nil => rfl
  | cons a l =>
   rw [List.find?_cons, h 0 a (by omega) rfl]
   exact ih fun j x hj hx => h (j + 1) x (by omega) (by simpa using hx)
set_option maxRecDepth 100000 in
theorem rgfrom_walk (H : List SP) (b : Nat) (A : Option Addr) (cap : Nat) (l : List Rec) (m n : Int) (q : Int) (hl : l.length ≤ 1000000) : ∀ w, Sat w (blk b 178 [.slice A l.length cap, vi m, vi n] :: row reE 48 (.slice A l.length cap) l :: H) → Calls Tryz.prog 120 #[vp b, vi q] w (Ret (ι := Unit) (fun _ => .tuple #[.agg #[vi (rgGet ⟨l, m, n⟩ q).1.1, vi (rgGet ⟨l, m, n⟩ q).1.2.1, vi (rgGet ⟨l, m, n⟩ q).1.2.2.1, vi (rgGet ⟨l, m, n⟩ q).1.2.2.2], .bool (rgGet ⟨l, m, n⟩ q).2]) fun _ => blk b 178 [.slice A l.length cap, vi m, vi n] :: row reE 48 (.slice A l.length cap) l :: H) := by
 refine enterG (fn := Tryz.f120) 34 [vp b, vi q] Tryz.func120 (by kernel_rfl) (by kernel_rfl) (by kernel_rfl) ?_
 refine Xq (Xg 2 (Xs (Xn 48 [vi 0, vi 0, vi 0, vi 0] (some 4) (fun b => vp b)) (fun b1 => ?_) 1))
 refine Xe [(4,vp b1), (0,vp b), (1,vi q), (5,.bool false)] ?_ 1
 refine scopeG 0 (fun (u : Nat) => [(4, vp b1), (0, vp b), (1, vi q), (6, vi u)]) (fun _ => (blk b1 48 [vi 0, vi 0, vi 0, vi 0] :: blk b 178 [.slice A l.length cap, vi m, vi n] :: row reE 48 (.slice A l.length cap) l :: H)) (fun k (u : Nat) => k + u = l.length ∧ ∀ j x, j < u → l[j]? = some x → decide (q ≤ x.1) = false) (by kernel_rfl) (by kernel_rfl) (by kernel_rfl) (by kernel_rfl) ?_ ?_
 ·skip
  rintro k u ⟨hku, hno⟩ K hK
  refine Xq (Xq (Xg 7 (Xm [(4,vp b1), (0,vp b), (1,vi q), (6,vi u), (13,.bool ((u : Int) == (l.length : Int)))] [(⟨b, 0, none⟩, .slice A l.length cap)] (hasC (ba 1) has0) ?_ 7)))
  refine Xc ((u : Int) == (l.length : Int)) (fun h1 => ?_) (fun h1 => ?_)
  ·skip
   have hu0 : (u : Int) = (l.length : Int) := eq_of_beq h1
   have hu : u = l.length := by omega
   have hg : rgGet ⟨l, m, n⟩ q = ((0, 0, 0, 0), false) := by rw [rgGet, rgFrom, find_skip hno, hu, List.drop_length]; rfl
   refine Xq (Xg 3 (Xr [(4,vp b1), (0,vp b), (1,vi q), (6,vi u), (14,.agg #[vi 0, vi 0, vi 0, vi 0])] ?_ 2 1))
   refine Xs (Xz [(0,vi 0), (1,vi 0), (2,vi 0), (3,vi 0)]) (fun _ => ?_) 1
   refine Xe [(4,vp b1), (0,vp b), (1,vi q), (6,vi u), (5,.bool false)] ?_ 1
   refine Xv (thenV (jumpV ?_))
   refine doneG (.tuple #[.agg #[.int .i64 0, .int .i64 0, .int .i64 0, .int .i64 0], .bool false]) [(⟨b1, 0, none⟩, .int .i64 0), (⟨b1, 1, none⟩, .int .i64 0), (⟨b1, 2, none⟩, .int .i64 0), (⟨b1, 3, none⟩, .int .i64 0)] (hasC (blkAt (T := 48) (cs := [.int .i64 0, .int .i64 0, .int .i64 0, .int .i64 0]) 0 rfl rfl) (hasC (blkAt (T := 48) (cs := [.int .i64 0, .int .i64 0, .int .i64 0, .int .i64 0]) 0 rfl rfl) (hasC (blkAt (T := 48) (cs := [.int .i64 0, .int .i64 0, .int .i64 0, .int .i64 0]) 0 rfl rfl) (hasC (blkAt (T := 48) (cs := [.int .i64 0, .int .i64 0, .int .i64 0, .int .i64 0]) 0 rfl rfl) has0)))) (fun _ => by kernel_rfl) (fun w hs => ?_) .ret (.inr rfl)
   exact ⟨(), by rw [hg], hs.tail⟩
  ·skip
   have hu0 : ¬ (u : Int) = (l.length : Int) := beq_eq_false_iff_ne.1 h1
   have hu : u < l.length := by omega
   obtain ⟨e, he⟩ : ∃ e, l[u]? = some e := ⟨_, by simp [hu]; rfl⟩
   refine PT.know (KR.isSome (s := ⟨A, cap, l⟩) (rowKRat 2 rfl) (List.ne_nil_of_length_pos (by show 0 < l.length; omega))) ?_
   rintro ⟨sb, so, hA⟩
   dsimp only at hA
   subst hA
   refine Xk (Xq (Xq (Xg 10 (Xl [(4,vp b1), (0,vp b), (1,vi q), (6,vi u), (18,.slice (some ⟨sb, so, none⟩) l.length cap), (19,vi u)] [(⟨b, 0, none⟩, .slice (some ⟨sb, so, none⟩) l.length cap)] (hasC (ba 1) has0) ?_ 5 5))))
   refine Xs (yldS (Xi 36 (.tmp 18) (.tmp 19) sb so l.length cap u 4 48 (u : Int) 20 Tryz.underlying36)) (fun _ => ?_) 4
   refine Xm [(4,vp b1), (0,vp b), (1,vi q), (6,vi u), (24,.bool (decide (e.1 ≥ q)))] [(⟨sb, so + u * 4, none⟩, vi e.1)] (hasC ((rowKRat (xs := l) (A := some ⟨sb, so, none⟩) (k := cap) (E := reE) (T := 48) 2 rfl).cell rfl (i := u) (x := e) he (j := 0) rfl) has0) ?_ 4
   refine Xc (decide (e.1 ≥ q)) (fun h2 => ?_) (fun h2 => ?_)
   ·skip
    have hg : rgGet ⟨l, m, n⟩ q = (e, true) := by rw [rgGet, rgFrom, find_skip hno, ← List.getElem_cons_drop hu, List.find?_cons, (List.getElem?_eq_some_iff.1 he).2, show decide (q ≤ e.1) = true by simpa using h2]
    refine Xq (Xg 9 (Xl [(4,vp b1), (0,vp b), (1,vi q), (6,vi u), (28,.slice (some ⟨sb, so, none⟩) l.length cap), (29,vi u)] [(⟨b, 0, none⟩, .slice (some ⟨sb, so, none⟩) l.length cap)] (hasC (ba 1) has0) ?_ 4 5))
    refine Xs (yldS (Xi 36 (.tmp 28) (.tmp 29) sb so l.length cap u 4 48 (u : Int) 30 Tryz.underlying36)) (fun _ => ?_) 3
    refine Xl [(4,vp b1), (0,vp b), (1,vi q), (6,vi u), (31,.agg #[vi e.1, vi e.2.1, vi e.2.2.1, vi e.2.2.2])] [(⟨sb, so + u * 4, none⟩, vi e.1), (⟨sb, so + u * 4 + 1, none⟩, vi e.2.1), (⟨sb, so + u * 4 + 2, none⟩, vi e.2.2.1), (⟨sb, so + u * 4 + 3, none⟩, vi e.2.2.2)] (hasC ((rowKRat (xs := l) (A := some ⟨sb, so, none⟩) (k := cap) (E := reE) (T := 48) 2 rfl).cell rfl (i := u) (x := e) he (j := 0) rfl) (hasC ((rowKRat (xs := l) (A := some ⟨sb, so, none⟩) (k := cap) (E := reE) (T := 48) 2 rfl).cell rfl (i := u) (x := e) he (j := 1) rfl) (hasC ((rowKRat (xs := l) (A := some ⟨sb, so, none⟩) (k := cap) (E := reE) (T := 48) 2 rfl).cell rfl (i := u) (x := e) he (j := 2) rfl) (hasC ((rowKRat (xs := l) (A := some ⟨sb, so, none⟩) (k := cap) (E := reE) (T := 48) 2 rfl).cell rfl (i := u) (x := e) he (j := 3) rfl) has0)))) ?_ 2 1
    refine Xs (Xz [(0,vi e.1), (1,vi e.2.1), (2,vi e.2.2.1), (3,vi e.2.2.2)]) (fun _ => ?_) 1
    refine Xe [(4,vp b1), (0,vp b), (1,vi q), (6,vi u), (5,.bool true)] ?_ 1
    refine Xv (thenV (jumpV ?_))
    refine doneG (.tuple #[.agg #[.int .i64 e.1, .int .i64 e.2.1, .int .i64 e.2.2.1, .int .i64 e.2.2.2], .bool true]) [(⟨b1, 0, none⟩, .int .i64 e.1), (⟨b1, 1, none⟩, .int .i64 e.2.1), (⟨b1, 2, none⟩, .int .i64 e.2.2.1), (⟨b1, 3, none⟩, .int .i64 e.2.2.2)] (hasC (blkAt (T := 48) (cs := [.int .i64 e.1, .int .i64 e.2.1, .int .i64 e.2.2.1, .int .i64 e.2.2.2]) 0 rfl rfl) (hasC (blkAt (T := 48) (cs := [.int .i64 e.1, .int .i64 e.2.1, .int .i64 e.2.2.1, .int .i64 e.2.2.2]) 0 rfl rfl) (hasC (blkAt (T := 48) (cs := [.int .i64 e.1, .int .i64 e.2.1, .int .i64 e.2.2.1, .int .i64 e.2.2.2]) 0 rfl rfl) (hasC (blkAt (T := 48) (cs := [.int .i64 e.1, .int .i64 e.2.1, .int .i64 e.2.2.1, .int .i64 e.2.2.2]) 0 rfl rfl) has0)))) (fun _ => by kernel_rfl) (fun w hs => ?_) .ret (.inr rfl)
    exact ⟨(), by rw [hg], hs.tail⟩
   ·skip
    refine Xk (Xq (Xg 3 (Xe [(4,vp b1), (0,vp b), (1,vi q), (6,vi (IntKind.i64.wrap ((u : Int) + 1)))] ?_ 3)))
    refine gotoR 0 (by kernel_rfl) (by kernel_rfl) ?_
    rw [show IntKind.i64.wrap ((u : Int) + 1) = ((u + 1 : Nat) : Int) by rw [IntKind.wrap_i64]; omega]
    have hno2 : ∀ v e, v < u + 1 → l[v]? = some e → decide (q ≤ e.1) = false := by
     intro v e' hv hv2
     by_cases c : v = u
     ·subst c; rw [he] at hv2; cases hv2; simpa using h2
     ·exact hno v e' (by omega) hv2
    refine Xp [(4,vp b1), (0,vp b), (1,vi q), (6,vi ((u + 1 : Nat) : Int))] ?_
    exact jumpR (hK (k - 1) (u + 1) (by omega) ⟨by omega, hno2⟩)
 ·skip
  intro K hK
  refine Xq (Xg 1 (Xe [(4,vp b1), (0,vp b), (1,vi q), (5,.bool false), (6,vi 0)] ?_ 1))
  refine Xq ?_
  refine labelR (by kernel_rfl) ?_
  refine Xp [(4,vp b1), (0,vp b), (1,vi q), (6,vi 0)] ?_
  refine codeR (by kernel_rfl) (hK l.length 0 ⟨by omega, fun v e hv => by omega⟩)
theorem rgFrom_c (H : List SP) (b : Nat) (r : RgS) (q : Int) : ∀ w, Sat w (rgS b r :: H) → Calls Tryz.prog 120 #[vp b, vi q] w (Ret (ι := Unit) (fun _ => .tuple #[.agg #[vi (rgGet r q).1.1, vi (rgGet r q).1.2.1, vi (rgGet r q).1.2.2.1, vi (rgGet r q).1.2.2.2], .bool (rgGet r q).2]) fun _ => rgS b r :: H) := fun w hs => by
 obtain ⟨A, cap, h1, hs⟩ := Sat.openRg hs
 exact (rgfrom_walk H b A cap r.l r.room r.last q (by have := h1.len; have := h1.room; omega) w hs).mono fun e w' ⟨_, he, hx⟩ => ⟨(), he, Sat.closeRg h1 hx⟩
set_option maxRecDepth 100000 in
theorem cloneRe_walk (H : List SP) (j : Nat) (A : Option Addr) (cap : Nat) (l : List Rec) (hj : H[j]? = some (row reE 48 (.slice A l.length cap) l)) (hl : l.length ≤ 1000000) : ∀ w, Sat w H → Calls Tryz.prog 94 #[.slice A l.length cap] w (Ret (ι := Option Addr × Nat) (fun p => .slice p.1 l.length p.2) fun p => row reE 48 (.slice p.1 l.length p.2) l :: H) := by
 have hk : KR H reE ⟨A, cap, l⟩ := rowKRat j hj
 refine enterG (fn := Tryz.f94) 8 [.slice A l.length cap] Tryz.func94 (by kernel_rfl) (by kernel_rfl) (by kernel_rfl) ?_
 refine PT.know (rowA j hj) ?_
 intro hA
 rcases hA with ⟨rfl, rfl, rfl⟩ | ⟨sb, so, rfl⟩
 ·skip
  refine Xq (Xg 1 (Xe [(0,.slice none 0 0), (2,.slice none 0 0)] ?_ 1))
  refine Xq (Xq (Xg 2 (Xe [(0,.slice none 0 0), (2,.slice none 0 0), (4,.bool true)] ?_ 2)))
  refine Xc true (fun _ => ?_) (fun h => by cases h)
  refine Xq (Xg 1 (Xe [(0,.slice none 0 0), (2,.slice none 0 0)] ?_ 1))
  refine Xv (thenV ?_)
  refine PT.rowNil reE 48 ?_
  refine Y0 (.slice none 0 0) (fun w hs => ?_)
  exact ⟨(none, 0), rfl, hs⟩
 ·skip
  refine Xq (Xg 1 (Xe [(0,.slice (some ⟨sb, so, none⟩) l.length cap), (2,.slice none 0 0)] ?_ 1))
  refine Xq (Xq (Xg 2 (Xe [(0,.slice (some ⟨sb, so, none⟩) l.length cap), (2,.slice none 0 0), (4,.bool false)] ?_ 2)))
  refine Xc false (fun h => by cases h) (fun _ => ?_)
  refine Xk (Xq (Xg 4 (Xs (Xn 48 [] (some 5) (fun b => .slice (some ⟨b, 0, none⟩) 0 0)) (fun b1 => ?_) 3)))
  refine Xr [(5,.slice (some ⟨b1, 0, none⟩) 0 0), (2,.slice none 0 0), (6,.slice (some ⟨sb, so, none⟩) l.length cap)] ?_ 2 1
  refine PT.blkRow0 (E := reE) ?_
  refine Xs (Xf (E := reE) 36 (.tmp 5) (.tmp 6) (some ⟨b1, 0, none⟩) 0 ([] : List Rec) l (.slice (some ⟨sb, so, none⟩) l.length cap) 7 Tryz.underlying36 (etyRe) ((hk.up)) (by simp only [List.length_nil]; omega)) (fun r2 => ?_) 1
  refine Xe [(2,.slice r2.1 ((([] : List Rec) ++ l).length) r2.2)] ?_ 1
  refine Xv (Y0 (.slice r2.1 ((([] : List Rec) ++ l).length) r2.2) (fun w hs => ?_))
  exact ⟨r2, rfl, hs⟩
set_option maxRecDepth 100000 in
theorem rgall_walk (H : List SP) (b : Nat) (A : Option Addr) (cap : Nat) (l : List Rec) (m n : Int) (hl : l.length ≤ 1000000) : ∀ w, Sat w (blk b 178 [.slice A l.length cap, vi m, vi n] :: row reE 48 (.slice A l.length cap) l :: H) → Calls Tryz.prog 52 #[vp b] w (Ret (ι := Option Addr × Nat) (fun p => .slice p.1 l.length p.2) fun p => row reE 48 (.slice p.1 l.length p.2) l :: blk b 178 [.slice A l.length cap, vi m, vi n] :: row reE 48 (.slice A l.length cap) l :: H) := by
 refine enterG (fn := Tryz.f52) 8 [vp b] Tryz.func52 (by kernel_rfl) (by kernel_rfl) (by kernel_rfl) ?_
 refine Xq (Xg 1 (Xe [(0,vp b), (2,.slice none 0 0)] ?_ 1))
 refine Xq (Xg 6 (Xl [(2,.slice none 0 0), (6,.slice A l.length cap)] [(⟨b, 0, none⟩, .slice A l.length cap)] (hasC (ba 0) has0) ?_ 2 4))
 refine Xs (Xa (some 7) (fun (p : Option Addr × Nat) => .slice p.1 l.length p.2) (cloneRe_walk (blk b 178 [.slice A l.length cap, .int .i64 m, .int .i64 n] :: row reE 48 (.slice A l.length cap) l :: H) 1 A cap l rfl hl)) (fun (p : Option Addr × Nat) => ?_) 1
 refine Xe [(2,.slice p.1 l.length p.2)] ?_ 1
 refine Xv (Y0 (.slice p.1 l.length p.2) (fun w hs => ?_))
 exact ⟨p, rfl, hs⟩
theorem rgAll_c (H : List SP) (b : Nat) (r : RgS) : ∀ w, Sat w (rgS b r :: H) → Calls Tryz.prog 52 #[vp b] w (Ret (ι := Option Addr × Nat) (fun p => .slice p.1 r.l.length p.2) fun p => row reE 48 (.slice p.1 r.l.length p.2) r.l :: rgS b r :: H) := fun w hs => by
 obtain ⟨A, cap, h1, hs⟩ := Sat.openRg hs
 exact (rgall_walk H b A cap r.l r.room r.last (by have := h1.len; have := h1.room; omega) w hs).mono fun e w' ⟨p, he, hx⟩ => ⟨p, he, SatF.swap (Sat.closeRg (H := row reE 48 (.slice p.1 r.l.length p.2) r.l :: H) (A := A) (cap := cap) h1 (Sat.perm (List.perm_middle (a := row reE 48 (.slice p.1 r.l.length p.2) r.l) (l₁ := [_, _]) (l₂ := H)).symm hx))⟩
end Go.Proofs.YtfhkgohokbkgiaaGreatDoor
set_option linter.unusedVariables false
set_option linter.unusedSimpArgs false
namespace Go.Proofs.YtfhkgohokbkgiaaGreatDoor
open Go.RowKit
def leE : Enc (Int × Int) := ⟨2, by decide, fun p => [.int .i64 p.1, .int .i64 p.2], fun _ => rfl, by intro a u hu; simp at hu; rcases hu with rfl | rfl <;> rfl⟩
theorem infoLe : (Tryz.prog.info? 254).map (fun i => (i.zero, i.size, i.bytes)) = some (some (.agg #[.int .i64 0, .int .i64 0]), 2, 16) := by kernel_rfl
theorem etyLe : Ety Tryz.prog leE 254 (.agg #[.int .i64 0, .int .i64 0]) := by
  obtain ⟨i, hi, hz, hs, hb⟩ := info_parts infoLe
  exact ⟨⟨i, hi, hz, hs, by omega⟩, rfl⟩
theorem zero_cells_le (n : Nat) : ∀ u ∈ (Builtin.zeroCells (Value.agg #[.int .i64 0, .int .i64 0]).cells n).toList, u.oneCell' = true := by
  intro u hu
  simp only [Builtin.zeroCells, Value.cells, List.size_toArray, List.length_cons, List.length_nil, Array.toList_map, List.mem_map] at hu
  obtain ⟨k, _, rfl⟩ := hu
  rcases (show k % 2 = 0 ∨ k % 2 = 1 by omega) with h | h <;> simp [h, Value.oneCell']

set_option maxHeartbeats 1000000 in
set_option maxRecDepth 100000 in
theorem del_le_at (w : World) (b o c n : Nat) (cur : Array Value) (xs zs : List (Int × Int)) (i : Nat) (hz : zs = xs.take i ++ xs.drop (i + 1)) (hx : xs.length = n) (hb : w.heap[b]? = some (.cells cur 254 (0, 0))) (hc1 : n ≤ c) (hc2 : c ≤ maxLen) (hc3 : o + c * 2 ≤ cur.size) (hcur : (cur.toList.drop o).take (n * 2) = leE.flat xs)
    (hi : i < n) (hn : n ≤ 1000000000) :
    Calls Tryz.prog 176 #[.slice (some ⟨b, o, none⟩) n c, .int .i64 i, .int .i64 (i + 1)] w (RowPost leE 254 (OneB b) w zs) := by
  have hne : ((i : Int) == (i : Int) + 1) = false := by simp; omega
  have hlen : cur.toList.length = cur.size := by simp
  -- the append in place
  have hrow : Row leE 254 w.drew (OneB b) (.slice (some ⟨b, o, none⟩) (xs.take i).length c) (xs.take i) := by
    refine .inr ⟨b, o, c, cur, rfl, rfl, hb, by simp; omega, hc2, hc3, ?_⟩
    rw [List.length_take, hx, Nat.min_eq_left (by omega)]
    rw [← leE.flat_take, ← hcur, List.take_take]
    congr 1
    show i * 2 = min (i * 2) (n * 2); omega
  have hil : (xs.take i).length = i := by rw [List.length_take, hx]; omega
  have hdl : (xs.drop (i + 1)).length = n - (i + 1) := by rw [List.length_drop, hx]
  have hcell : ∀ j u, (leE.flat (xs.drop (i + 1)))[j]? = some u → w.drew.cell? ⟨b, o + (i + 1) * 2 + j, none⟩ = some u := by
    intro j u hu
    rw [cell_of_row w.drew b _ cur 254 (0, 0) hb]
    rw [← leE.flat_drop, ← hcur] at hu
    rw [List.getElem?_drop, List.getElem?_take] at hu
    split at hu
    · rw [List.getElem?_drop] at hu
      rw [← Array.getElem?_toList, ← hu]
      show _ = cur.toList[o + ((i + 1) * 2 + j)]?
      congr 1; omega
    · cases hu
  have hap : ∀ (X : Option Addr) (m dc : Nat), m = n - (i + 1) → (¬ c = i + 1 → X = some ⟨b, o + (i + 1) * 2, none⟩ ∧ dc = c - (i + 1)) → (c = i + 1 → X = some ⟨b, o, none⟩ ∧ dc = 0) → ∃ cur1, cur1.size = cur.size ∧ (cur1.toList.drop o).take ((n - 1) * 2) = leE.flat zs ∧
      (Builtin.append_ #[179, 179] 179 #[.slice (some ⟨b, o, none⟩) i c, .slice X m dc]).run Tryz.prog w.drew = .ok (.slice (some ⟨b, o, none⟩) (n - 1) c) (w.drew.setRow b cur1) := by
    intro X m dc hm hX1 hX2
    subst hm
    obtain ⟨ii, hii, hzz, hss, hbb⟩ := info_parts infoLe
    have hfl : (leE.flat (xs.drop (i + 1))).length = (n - (i + 1)) * 2 := by rw [leE.flat_length, hdl]; rfl
    have hfl0 : (leE.flat (xs.take i)).length = i * 2 := by rw [leE.flat_length, hil]; rfl
    have hf : (Builtin.firstCells 2 (n - (i + 1)) (.slice X (n - (i + 1)) dc)).run Tryz.prog w.drew = .ok (leE.flat (xs.drop (i + 1))).toArray w.drew := by
      by_cases hcc : c = i + 1
      · obtain ⟨rfl, rfl⟩ := hX2 hcc
        have e0 : n - (i + 1) = 0 := by omega
        rw [e0] at hfl ⊢
        have : leE.flat (xs.drop (i + 1)) = [] := List.eq_nil_of_length_eq_zero (by simpa using hfl)
        rw [this]
        exact run_firstCells_some (P := Tryz.prog) w.drew 2 0 _ _ _ [] rfl (by intro j u h; simp at h)
      · obtain ⟨rfl, rfl⟩ := hX1 hcc
        exact run_firstCells_some (P := Tryz.prog) w.drew 2 _ _ _ _ _ hfl (fun j u hu => by rw [Addr.add_lit]; exact hcell j u hu)
    have hst := run_storeCells_at Tryz.prog b (o + i * 2) 254 (leE.flat (xs.drop (i + 1))) 0 cur w.drew hb (by rw [hfl]; omega) (leE.flat_one' _)
    simp only [Nat.add_zero] at hst
    refine ⟨(cur.toList.take (o + i * 2) ++ leE.flat (xs.drop (i + 1)) ++ cur.toList.drop (o + i * 2 + (leE.flat (xs.drop (i + 1))).length)).toArray, ?_, ?_, ?_⟩
    rotate_left 2
    · have hroom : i + (n - (i + 1)) ≤ c := by omega
      have e1 : i + (n - (i + 1)) = n - 1 := by omega
      simp [Builtin.append_, run_underlying Tryz.underlying179, sizeOf, typeInfo, hii, hss, Builtin.lenOf, hf, Addr.add_lit, hst, e1]
      intro h; omega
    · simp only [List.size_toArray, List.length_append, List.length_take, List.length_drop, hlen, hfl]; omega
    · have htm := take_mid cur.toList o (i * 2) (leE.flat (xs.drop (i + 1))).length (leE.flat (xs.drop (i + 1))) rfl (by rw [hlen, hfl]; omega)
      have e2 : (n - 1) * 2 = i * 2 + (leE.flat (xs.drop (i + 1))).length := by rw [hfl]; omega
      rw [e2]
      show List.take _ (List.drop o (List.take (o + i * 2) cur.toList ++ leE.flat (xs.drop (i + 1)) ++ List.drop (o + i * 2 + (leE.flat (xs.drop (i + 1))).length) cur.toList)) = _
      rw [htm, hz, Enc.flat_append]
      congr 1
      rw [← leE.flat_take, ← hcur, List.take_take]
      congr 1
      show i * 2 = min (i * 2) (n * 2); omega
  -- the clear
  have hclr : ∀ cur1 : Array Value, cur1.size = cur.size → (cur1.toList.drop o).take ((n - 1) * 2) = leE.flat zs → ∃ cur2, (∀ dc, (Builtin.clear_ #[179] 0 #[.slice (some ⟨b, o + (n - 1) * 2, none⟩) 1 dc]).run Tryz.prog (w.drew.setRow b cur1) = .ok (.tuple #[]) ((w.drew.setRow b cur1).setRow b cur2)) ∧
      RowPost leE 254 (OneB b) w zs (.returned (.slice (some ⟨b, o, none⟩) (n - 1) c)) ((w.drew.setRow b cur1).setRow b cur2) := by
    intro cur1 hs1 ht1
    have hb1 : (w.drew.setRow b cur1).heap[b]? = some (.cells cur1 254 (0, 0)) := setRow_heap w.drew b cur cur1 _ _ hb
    have hl1 : cur1.toList.length = cur.size := by simp [hs1]
    have hzl : (Builtin.zeroCells (Value.agg #[.int .i64 0, .int .i64 0]).cells 1).toList.length = 2 := by rw [Array.length_toList, size_zeroCells]; rfl
    refine ⟨_, fun dc => run_clear_at (P := Tryz.prog) Tryz.underlying179 etyLe hb1 (by omega) (by rw [hs1]; show _ + 1 * 2 ≤ _; omega) (zero_cells_le 1), ?_⟩
    refine ⟨_, OneB b, rfl, .inr ⟨b, o, c, _, ?_, rfl, setRow_heap _ b cur1 _ _ _ hb1, ?_, hc2, ?_, ?_⟩, ⟨rfl, rfl, rfl, by simp [World.setRow], fun k _ hk => (setRow_other _ b k _ (fun e => hk e)).trans (setRow_other w.drew b k _ (fun e => hk e))⟩, fun b hb => .inl hb⟩
    · congr 1; rw [hz]; simp; omega
    · rw [hz]; simp; omega
    · simp only [List.size_toArray, List.length_append, List.length_take, List.length_drop, hl1, hzl]
      show o + c * 2 ≤ _ + (_ - (_ + 1 * 2)); omega
    · have hzn : zs.length = n - 1 := by rw [hz]; simp; omega
      rw [hzn, ← ht1]
      show List.take ((n - 1) * 2) (List.drop o (List.take (o + (n - 1) * 2) cur1.toList ++ (Builtin.zeroCells (Value.agg #[.int .i64 0, .int .i64 0]).cells 1).toList ++ List.drop (o + (n - 1) * 2 + 1 * 2) cur1.toList)) = _
      rw [List.append_assoc, List.drop_append, List.length_take, hl1, show o - min (o + (n - 1) * 2) cur.size = 0 by omega, List.drop_zero, List.drop_take]
      have e3 : o + (n - 1) * 2 - o = (n - 1) * 2 := by omega
      rw [e3]
      exact List.take_left' (by simp only [List.length_take, List.length_drop, hl1]; omega)
  have HAP := Lib.hid hap
  have HCL := Lib.hid hclr
  clear hap hclr hrow hil hdl hcell hcur hb hx hz hlen hc3
  have hb2 : ¬ (c = i) := by omega
  have hb3 : ¬ (c = n - 1) := by omega
  have hb4 : i + 1 ≤ n := by omega
  have hb5 : (0 : Int) ≤ (i : Int) + 1 := by omega
  have hw1 : IntKind.i64.wrap ((i : Int) + 1) = (i : Int) + 1 := by rw [IntKind.wrap_i64]; omega
  have htn : ((i : Int) + 1).toNat = i + 1 := by omega
  have hb6 : n - (n - 1) = 1 := by omega
  have hb7 : i ≤ n := by omega
  have hb8 : n - 1 ≤ n := by omega
  have hb9 : i ≤ c := by omega
  have hb11 : (i : Int) + 1 ≤ (n : Int) := by omega
  have hb10 : (i : Int) ≤ (i : Int) + 1 := by omega
  by_cases hcc : c = i + 1
  · subst hcc
    obtain ⟨cur1, hs1, ht1, hr1⟩ := HAP.out (some ⟨b, o, none⟩) 0 0 (by omega) (by intro h; exact absurd rfl h) (by intro _; exact ⟨rfl, rfl⟩)
    obtain ⟨cur2, hr2, hp0⟩ := HCL.out cur1 hs1 ht1
    have hp := Lib.hid hp0
    have HR := Lib.hid hr1
    clear hs1 ht1 hp0 hr1 HAP HCL
    go_enter Tryz.func176, Tryz.ntmps176
    go_wp2
    go_region_law (refine step_append_by rfl _ _ _ _ rfl (by simp [Act.eval, Act.put]) (by simp [Act.eval, Act.put]) HR.out ?_)
    go_wp2
    go_ret
    exact hp.out
  · obtain ⟨cur1, hs1, ht1, hr1⟩ := HAP.out (some ⟨b, o + (i + 1) * 2, none⟩) (n - (i + 1)) (c - (i + 1)) rfl (by intro _; exact ⟨rfl, rfl⟩) (by intro h; exact absurd h hcc)
    obtain ⟨cur2, hr2, hp0⟩ := HCL.out cur1 hs1 ht1
    have hp := Lib.hid hp0
    have HR := Lib.hid hr1
    clear hs1 ht1 hp0 hr1 HAP HCL
    go_enter Tryz.func176, Tryz.ntmps176
    go_wp2
    go_region_law (refine step_append_by rfl _ _ _ _ rfl (by simp [Act.eval, Act.put]) (by simp [Act.eval, Act.put]) HR.out ?_)
    go_wp2
    go_ret
    exact hp.out

/-- slices.Delete of one element at a row of sleepers. -/
theorem del_le (w : World) (F : Nat → Prop) (v : Value) (xs : List (Int × Int)) (hrow : Row leE 254 w F v xs) (i : Nat) (hi : i < xs.length) (hn : xs.length ≤ 1000000000) :
    Calls Tryz.prog 176 #[v, .int .i64 i, .int .i64 (i + 1)] w (RowPost leE 254 F w (xs.take i ++ xs.drop (i + 1))) := by
  rcases hrow with ⟨rfl, rfl, rfl⟩ | ⟨b, o, c, cur, rfl, rfl, hb, hc1, hc2, hc3, hcur⟩
  · simp at hi
  · exact del_le_at w b o c _ cur xs _ i rfl rfl hb hc1 hc2 hc3 hcur hi hn
end Go.Proofs.YtfhkgohokbkgiaaGreatDoor
