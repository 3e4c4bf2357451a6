/- Trees: what laws say of two in one group. Conditions: none. -/
import Derived.Test.YtjbjngikaiggdaaGreatTt
import Derived.Test.YtjbjngikaiggdaaGreatTfr
set_option linter.unusedVariables false
set_option linter.unusedSimpArgs false
namespace Go.Proofs.YtjbjngikaiggdaaGreat
open Go.RowKit G
/-- What Run leaves of a node: who it is, what it weighs, whether it is ready. -/
def skr (x : Nr) : Int × Int × Int × Bool × Bool := (x.id, x.par, x.wt, x.thr, x.rdy)
theorem Still.skr {g : Nr → Nr} (h : Still g) (N : List Nr) : (N.map g).map skr = N.map skr := by
  rw [List.map_map]
  refine List.map_congr_left fun x _ => ?_
  simp only [Function.comp, Go.Proofs.YtjbjngikaiggdaaGreat.skr, h.sk.id, h.sk.par, h.sk.thr, h.rdy, h.wt]
theorem skr_mem {N : List Nr} {S : List (Int × Int × Int × Bool × Bool)} (h : N.map skr = S) {z : Nr} (hz : z ∈ N) : (z.id, z.par, z.wt, z.thr, z.rdy) ∈ S := h ▸ List.mem_map.2 ⟨z, hz, rfl⟩
theorem skr_get {N : List Nr} {S : List (Int × Int × Int × Bool × Bool)} (h : N.map skr = S) {i p w : Int} {t r : Bool} (hs : (i, p, w, t, r) ∈ S) : ∃ z ∈ N, z.id = i ∧ z.par = p ∧ z.wt = w ∧ z.thr = t ∧ z.rdy = r := by
  rw [← h] at hs
  obtain ⟨z, hz, e⟩ := List.mem_map.1 hs
  simp only [skr, Prod.mk.injEq] at e
  exact ⟨z, hz, e⟩
def ps (N : List Nr) (k : Int) : Int := ((gt N k).map (·.pass)).getD 0
theorem ps_of {N : List Nr} (hn : (N.map (·.id)).Nodup) {z : Nr} (hz : z ∈ N) : ps N z.id = z.pass := by rw [ps, gt_of hn hz]; rfl
theorem bel_leaf {N : List Nr} {k t : Int} (h : Bel N k t) (hn : ∀ z ∈ N, z.par ≠ k) : t = k := by
  cases h with
  | refl => rfl
  | step hy hp _ => exact absurd hp (hn _ hy)
/-- Two that are ready in one group: how far their passes lie apart. -/
theorem two_in {N : List Nr} (hw : WFN N) {a b p : Nr} (ha : a ∈ N) (hb : b ∈ N) (hp : p ∈ N) (hpa : p.id = a.par) (hpb : p.id = b.par) (hra : a.rdy = true) (hrb : b.rdy = true) : ps N a.id - ps N b.id ≤ strd a.wt ∧ ps N b.id - ps N a.id ≤ strd b.wt := by
  rw [ps_of hw.sk.nd ha, ps_of hw.sk.nd hb]
  have h1 := hw.pn a ha p hp hpa
  have h2 := hw.pn b hb p hp hpb
  have h3 := h1.2 hra
  have h4 := h2.2 hrb
  omega
/-- A run, of those in the root that are ready: the one that is chosen goes on by its stride. -/
theorem run_ps {N : List Nr} (hw : WFN N) {r : Nr} (hr : r ∈ N) (hri : r.id = 0) (hrd : r.rdy = true) : ∃ (y : Nr) (id : Int) (N' : List Nr), runN N = ((id, true), N') ∧ WFN N' ∧ N'.map skr = N.map skr ∧ y ∈ N ∧ y.par = 0 ∧ y.rdy = true ∧ (∃ t ∈ N, t.id = id ∧ t.thr = true ∧ t.rdy = true) ∧ Bel N y.id id ∧
    ∃ δ : Int, ∀ z ∈ N, z.par = 0 → z.rdy = true → ps N' z.id = ps N z.id + (if z.id = y.id then strd y.wt else 0) - δ := by
  obtain ⟨y, id, g, h1, h2, h3, h4, ⟨t, ht, hti, htt, htr, hb⟩, δ, hd⟩ := run_root hw (hri ▸ gt_of hw.sk.nd hr) hrd
  obtain ⟨hy, _⟩ := least_some h4
  obtain ⟨hyN, hyp, hyr⟩ := mem_kidR.1 hy
  refine ⟨y, id, N.map g, h1, h3, h2.skr N, hyN, hyp, hyr, ⟨t, ht, hti, htt, htr⟩, hb, δ, fun z hz hzp hzr => ?_⟩
  have e1 : ps (N.map g) z.id = (g z).pass := by
    have := ps_of h3.sk.nd (z := g z) (List.mem_map.2 ⟨z, hz, rfl⟩)
    rw [h2.sk.id] at this; exact this
  rw [e1, ps_of hw.sk.nd hz]
  exact hd z hz hzp hzr
def wOf (a : Int) : Int := a.tmod 16 + 1
theorem tmod_range {a m : Int} (h0 : 0 ≤ a) (hm : 0 < m) : 0 ≤ a.tmod m ∧ a.tmod m < m := by
  rw [Int.tmod_eq_emod_of_nonneg h0]
  exact ⟨Int.emod_nonneg _ (by omega), Int.emod_lt_of_pos _ hm⟩
theorem wOf_isW {a : Int} (h : 0 ≤ a) : isW (wOf a) = true := by
  have := tmod_range h (m := 16) (by omega)
  show (decide (a.tmod 16 + 1 ≥ 1) && decide (a.tmod 16 + 1 ≤ 16)) = true
  rw [decide_eq_true (by omega), decide_eq_true (by omega)]; rfl
theorem wOf_wrap {a : Int} (h : 0 ≤ a) : IntKind.i64.wrap ((IntKind.i64.wrap (Int.tmod a 16)) + 1) = wOf a := by
  have := tmod_range h (m := 16) (by omega)
  rw [w64 (n := Int.tmod a 16) (by omega) (by omega), w64 (n := Int.tmod a 16 + 1) (by omega) (by omega)]; rfl
theorem fair_ok {H : List SP} {n a m b : Int} (h : fairB n a m b = true) (hn : 0 ≤ n ∧ n ≤ 1048576) (hm : 0 ≤ m ∧ m ≤ 1048576) (ha : isW a = true) (hb : isW b = true) : ∀ w, Sat w H → Calls Tryz.prog 11 #[.int .i64 n, .int .i64 a, .int .i64 m, .int .i64 b] w (Ret (ι := Unit) (fun _ => .bool true) fun _ => H) := by
  have := fair_walk H n a m b hn hm ha hb
  rw [h] at this
  exact this
/-- By counting: what is within the strides stays fair. -/
theorem fair_by {n m a b D E : Int} (h1 : D = E + (n * strd a - m * strd b)) (h2 : D ≤ strd a ∧ 0 - D ≤ strd b) (h3 : E ≤ strd a ∧ 0 - E ≤ strd b) : fairB n a m b = true := by
  simp only [fairB, Bool.and_eq_true, decide_eq_true_eq]
  omega
/-- No thread is ready: none runs. -/
theorem no_run {N : List Nr} (hw : WFN N) (h : ∀ t ∈ N, t.thr = true → t.rdy = false) : runN N = ((0, false), N) := by
  obtain ⟨r, hr, hr0⟩ := hw.sk.root
  have hg : gt N 0 = some r := hr0 ▸ gt_of hw.sk.nd hr
  cases hrd : r.rdy with
  | true =>
    obtain ⟨_, _, _, _, _, _, _, ⟨t, ht, _, htt, htr, _⟩, _⟩ := run_root hw hg hrd
    rw [h t ht htt] at htr; cases htr
  | false => rw [runN, hg]; simp only [hrd, Bool.false_eq_true, if_false]
theorem addN_is {N : List Nr} {par id wt : Int} {thr : Bool} {p : Nr} (hw : isW wt = true) (hid : 1 ≤ id) (hp : gt N par = some p) (hpt : p.thr = false) (hno : gt N id = none) (hd : thr = true ∨ deepN 6 N par < 4) (hl : N.length < 60) : addN N par id wt thr = (0, N ++ [⟨id, par, wt, p.now, thr, false, 0⟩]) := by
  rw [addN, if_neg (by rw [hw]; simp; omega), hp]
  simp only
  rw [if_neg (by rw [hpt]; simp), if_neg (by rw [hno]; simp), if_neg (by rintro ⟨h1, h2⟩; rcases hd with h | h; (rw [h1] at h; cases h); omega), if_neg (by omega)]
theorem wake_up {N : List Nr} {k : Int} {x p : Nr} (hg : gt N k = some x) (hr : x.rdy = false) (hp : gt N x.par = some p) (hpr : p.rdy = true) (hne : x.par ≠ k) : wakeN 6 N k = upN N k (wkF p.now) := by
  rw [wakeN, hg]
  simp only [hr, Bool.false_eq_true, if_false, hp]
  show wakeN 5 (upN N k (wkF p.now)) x.par = _
  rw [wakeN, gt_upN (f := wkF p.now) (fun _ => rfl), if_neg hne, hp]
  simp only [hpr, if_true]
theorem up_skr {N : List Nr} {k P : Int} : (upN N k (wkF P)).map skr = (N.map skr).map (fun s => if s.1 == k then (s.1, s.2.1, s.2.2.1, s.2.2.2.1, true) else s) := by
  rw [upN, List.map_map, List.map_map]
  refine List.map_congr_left fun x _ => ?_
  simp only [Function.comp, skr]
  split <;> simp_all [wkF, skr]
end Go.Proofs.YtjbjngikaiggdaaGreat
