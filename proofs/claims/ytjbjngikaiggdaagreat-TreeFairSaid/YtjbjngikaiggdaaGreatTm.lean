/- Trees: their nodes as a list, what each operation makes of it; nodes in memory. Conditions: none. -/
import Derived.Test.YtjbjngikaiggdaaGreatGn
import Derived.Test.YtjbjngikaiggdaaGreatPq6
set_option linter.unusedVariables false
set_option linter.unusedSimpArgs false
namespace Go.Proofs.YtjbjngikaiggdaaGreat
open Go.RowKit G
/-! ## the nodes -/
structure Nr where
  id : Int
  par : Int
  wt : Int
  pass : Int
  thr : Bool
  rdy : Bool
  now : Int
structure Nd where
  n : Nr
  q : List (Int × Int)
  b : Nat
  ib : Nat
def gt (N : List Nr) (k : Int) : Option Nr := N.find? (fun x => x.id == k)
def upN (N : List Nr) (k : Int) (f : Nr → Nr) : List Nr := N.map (fun x => if x.id == k then f x else x)
def kidR (N : List Nr) (k : Int) : List Nr := N.filter (fun x => x.par == k && x.rdy)
def isW (w : Int) : Bool := decide (w ≥ 1) && decide (w ≤ 16)
def strd (w : Int) : Int := if isW w then (720720 : Int).tdiv w else 0
def scaleN (pass now from_ to : Int) : Int := if pass ≤ now ∨ strd from_ = 0 then pass else now + ((pass - now) * strd to).tdiv (strd from_)
def deepN : Nat → List Nr → Int → Nat
  | 0, _, _ => 0
  | f + 1, N, k => match gt N k with
    | none => 0
    | some x => deepN f N x.par + 1
def wakeN : Nat → List Nr → Int → List Nr
  | 0, N, _ => N
  | f + 1, N, k => match gt N k with
    | none => N
    | some x => if x.rdy then N else match gt N x.par with
      | none => upN N k (fun x => { x with rdy := true })
      | some p => wakeN f (upN N k (fun x => { x with rdy := true, pass := mxI x.pass p.now })) x.par
def restN : Nat → List Nr → Int → List Nr
  | 0, N, _ => N
  | f + 1, N, k => match gt N k with
    | none => N
    | some x => if x.rdy = false ∨ kidR N k ≠ [] then N else match gt N x.par with
      | none => upN N k (fun x => { x with rdy := false })
      | some p => restN f (upN N k (fun x => { x with rdy := false })) x.par
def addN (N : List Nr) (par id wt : Int) (thr : Bool) : Int × List Nr :=
  if isW wt = false ∨ id < 1 then (10, N) else match gt N par with
    | none => (13, N)
    | some p => if p.thr then (13, N) else if (gt N id).isSome then (20, N) else if thr = false ∧ 4 ≤ deepN 6 N par then (12, N) else if 60 ≤ N.length then (14, N)
      else (0, N ++ [{ id, par, wt, pass := p.now, thr, rdy := false, now := 0 }])
def removeN (N : List Nr) (k : Int) : Int × List Nr :=
  if (gt N k).isNone ∨ k = 0 then (13, N) else if N.any (fun x => x.par == k) then (10, N) else (0, (restN 6 N k).filter (fun x => !(x.id == k)))
def readyN (N : List Nr) (k : Int) (r : Bool) : Int × List Nr :=
  match gt N k with
  | none => (13, N)
  | some x => if x.thr then (0, if r then wakeN 6 N k else restN 6 N k) else (13, N)
def weightN (N : List Nr) (k wt : Int) : Int × List Nr :=
  if isW wt = false then (10, N) else match gt N k with
    | none => (13, N)
    | some x => if k = 0 then (13, N) else match gt N x.par with
      | none => (13, N)
      | some p => (0, upN N k (fun x => { x with pass := scaleN x.pass p.now x.wt wt, wt := wt }))
def lessN (a b : Nr) : Bool := decide (a.pass < b.pass) || (decide (a.pass = b.pass) && decide (a.id < b.id))
def least : List Nr → Option Nr
  | [] => none
  | x :: r => match least r with
    | none => some x
    | some y => if lessN y x then some y else some x
def shiftN (N : List Nr) (k : Int) : List Nr :=
  match gt N k with
  | none => N
  | some g => if g.now ≤ 16777216 then N else upN (N.map (fun x => if x.par == k then { x with pass := mxI 0 (x.pass - g.now) } else x)) k (fun x => { x with now := 0 })
def downN : Nat → List Nr → Int → List Int → Int × List Nr
  | 0, N, k, _ => (k, N)
  | f + 1, N, k, way => match least (kidR N k) with
    | none => (k, way.foldl shiftN N)
    | some y => downN f (upN (upN N k (fun x => { x with now := y.pass })) y.id (fun x => { x with pass := y.pass + strd y.wt })) y.id (way ++ [k])
def runN (N : List Nr) : (Int × Bool) × List Nr :=
  match gt N 0 with
  | none => ((0, false), N)
  | some r => if r.rdy then (let z := downN 6 N 0 []; ((z.1, true), z.2)) else ((0, false), N)
/-! ## what holds of them -/
/-- The skeleton: who is whose, how deep. -/
structure SK (N : List Nr) : Prop where
  nd : (N.map (·.id)).Nodup
  root : ∃ r ∈ N, r.id = 0
  rt : ∀ x ∈ N, x.id = 0 → x.par = -1 ∧ x.thr = false
  pa : ∀ x ∈ N, x.id ≠ 0 → 1 ≤ x.id ∧ ∃ p ∈ N, p.id = x.par ∧ p.thr = false
  len : N.length ≤ 60
  rk : ∃ rk : Int → Nat, ∀ x ∈ N, (x.id = 0 → rk x.id = 1) ∧ (x.id ≠ 0 → rk x.id = rk x.par + 1) ∧ rk x.id ≤ 5 ∧ (x.thr = false → rk x.id ≤ 4)
/-- Passes and nows lie where they may. -/
structure LB (N : List Nr) : Prop where
  wt : ∀ x ∈ N, isW x.wt = true
  pass : ∀ x ∈ N, 0 ≤ x.pass ∧ x.pass ≤ 1099511627776
  now : ∀ x ∈ N, 0 ≤ x.now ∧ x.now ≤ 1099511627776
/-- Of the rest: passes lie from their group's now on, by at most their stride; a group is ready as something in it is. -/
structure WFN (N : List Nr) : Prop where
  sk : SK N
  wt : ∀ x ∈ N, isW x.wt = true
  now : ∀ x ∈ N, 0 ≤ x.now ∧ x.now ≤ 16777216
  pass : ∀ x ∈ N, 0 ≤ x.pass ∧ x.pass ≤ 16777216 + 1441440
  pn : ∀ x ∈ N, ∀ p ∈ N, p.id = x.par → x.pass ≤ p.now + strd x.wt ∧ (x.rdy = true → p.now ≤ x.pass)
  rd : ∀ x ∈ N, x.thr = false → (x.rdy = true ↔ ∃ y ∈ N, y.par = x.id ∧ y.rdy = true)
/-- The nodes in memory: each one's index holds what is ready in it. -/
structure OkT (N : List Nr) (T : List Nd) : Prop where
  n : T.map (·.n) = N
  srt : ∀ x ∈ T, SrtE x.q
  mem : ∀ x ∈ T, ∀ p k, (p, k) ∈ x.q ↔ ∃ y ∈ N, y.par = x.n.id ∧ y.rdy = true ∧ y.pass = p ∧ y.id = k
theorem WFN.lb {N : List Nr} (h : WFN N) : LB N := ⟨h.wt, fun x hx => ⟨(h.pass x hx).1, by have := (h.pass x hx).2; omega⟩, fun x hx => ⟨(h.now x hx).1, by have := (h.now x hx).2; omega⟩⟩
theorem w64 {n : Int} (h0 : -9223372036854775808 ≤ n) (h1 : n ≤ 9223372036854775807) : IntKind.i64.wrap n = n := by rw [IntKind.wrap_i64]; omega
theorem isW_cases {w : Int} (h : isW w = true) : 1 ≤ w ∧ w ≤ 16 := by simpa [isW] using h
theorem strd_pos {w : Int} (h : isW w = true) : 0 < strd w ∧ strd w ≤ 720720 := by
  obtain ⟨h1, h2⟩ := isW_cases h
  have : w = 1 ∨ w = 2 ∨ w = 3 ∨ w = 4 ∨ w = 5 ∨ w = 6 ∨ w = 7 ∨ w = 8 ∨ w = 9 ∨ w = 10 ∨ w = 11 ∨ w = 12 ∨ w = 13 ∨ w = 14 ∨ w = 15 ∨ w = 16 := by omega
  rcases this with rfl | rfl | rfl | rfl | rfl | rfl | rfl | rfl | rfl | rfl | rfl | rfl | rfl | rfl | rfl | rfl <;> decide
theorem tdiv_le {a b : Int} (ha : 0 ≤ a) (hb : 0 < b) : 0 ≤ a.tdiv b ∧ a.tdiv b ≤ a := by
  rw [Int.tdiv_eq_ediv_of_nonneg ha]
  exact ⟨Int.ediv_nonneg ha (Int.le_of_lt hb), Int.ediv_le_self b ha⟩
theorem gt_mem {N : List Nr} {k : Int} {x : Nr} (h : gt N k = some x) : x ∈ N ∧ x.id = k := ⟨List.mem_of_find?_eq_some h, by simpa using List.find?_some h⟩
theorem gt_none {N : List Nr} {k : Int} : gt N k = none ↔ ∀ x ∈ N, x.id ≠ k := by simp [gt, List.find?_eq_none]
theorem nd_eq {N : List Nr} (h : (N.map (·.id)).Nodup) {x y : Nr} (hx : x ∈ N) (hy : y ∈ N) (he : x.id = y.id) : x = y := by
  induction N with
  | nil => cases hx
  | cons a N ih =>
    simp only [List.map_cons, List.nodup_cons, List.mem_map, not_exists, not_and] at h
    rcases List.mem_cons.1 hx with e1 | h1 <;> rcases List.mem_cons.1 hy with e2 | h2
    · rw [e1, e2]
    · subst e1; exact absurd he.symm (h.1 y h2)
    · subst e2; exact absurd he (h.1 x h1)
    · exact ih h.2 h1 h2
theorem gt_of {N : List Nr} (h : (N.map (·.id)).Nodup) {x : Nr} (hx : x ∈ N) : gt N x.id = some x := by
  cases hg : gt N x.id with
  | none => exact absurd rfl (gt_none.1 hg x hx)
  | some y => obtain ⟨h1, h2⟩ := gt_mem hg; rw [nd_eq h h1 hx h2]
theorem gt_some {N : List Nr} (h : (N.map (·.id)).Nodup) {k : Int} {x : Nr} : gt N k = some x ↔ x ∈ N ∧ x.id = k := ⟨gt_mem, fun ⟨h1, h2⟩ => h2 ▸ gt_of h h1⟩
/-! ### a change of one node -/
theorem upN_id {N : List Nr} {k : Int} {f : Nr → Nr} (hf : ∀ x, (f x).id = x.id) : (upN N k f).map (·.id) = N.map (·.id) := by
  simp only [upN, List.map_map]
  refine List.map_congr_left fun x _ => ?_
  simp only [Function.comp]
  split <;> simp [hf]
theorem mem_upN {N : List Nr} {k : Int} {f : Nr → Nr} {y : Nr} : y ∈ upN N k f ↔ ∃ x ∈ N, (x.id = k ∧ y = f x) ∨ (x.id ≠ k ∧ y = x) := by
  simp only [upN, List.mem_map]
  constructor
  · rintro ⟨x, hx, rfl⟩
    refine ⟨x, hx, ?_⟩
    by_cases h : x.id = k
    · simp [h]
    · simp [h]
  · rintro ⟨x, hx, ⟨h, rfl⟩ | ⟨h, rfl⟩⟩
    · exact ⟨x, hx, by simp [h]⟩
    · exact ⟨y, hx, by simp [h]⟩
theorem gt_upN {N : List Nr} {k j : Int} {f : Nr → Nr} (hf : ∀ x, (f x).id = x.id) : gt (upN N k f) j = if j = k then (gt N j).map f else gt N j := by
  induction N with
  | nil => simp [gt, upN]
  | cons a N ih =>
    have e1 : gt (upN (a :: N) k f) j = if (if a.id == k then f a else a).id == j then some (if a.id == k then f a else a) else gt (upN N k f) j := by
      simp only [gt, upN, List.map_cons, List.find?_cons]
      split <;> simp_all
    have e2 : gt (a :: N) j = if a.id == j then some a else gt N j := by
      simp only [gt, List.find?_cons]; split <;> simp_all
    rw [e1, e2, ih]
    by_cases h1 : a.id = k
    · subst h1
      simp only [beq_self_eq_true, if_true, hf]
      by_cases h2 : a.id = j
      · subst h2; simp
      · have h2' : (a.id == j) = false := by simpa using h2
        have h3 : ¬ j = a.id := fun h => h2 h.symm
        simp [h2', h3]
    · have h1' : (a.id == k) = false := by simpa using h1
      simp only [h1', Bool.false_eq_true, if_false]
      by_cases h2 : a.id = j
      · subst h2; simp [h1]
      · have h2' : (a.id == j) = false := by simpa using h2
        simp [h2']
/-- What a change of one node leaves of the skeleton. -/
structure Skel (f : Nr → Nr) : Prop where
  id : ∀ x, (f x).id = x.id
  par : ∀ x, (f x).par = x.par
  thr : ∀ x, (f x).thr = x.thr
theorem SK.map {N : List Nr} (h : SK N) (f : Nr → Nr) (hf : Skel f) : SK (N.map f) := by
  have hi : (N.map f).map (·.id) = N.map (·.id) := by simp [List.map_map, Function.comp_def, hf.id]
  refine ⟨hi ▸ h.nd, ?_, ?_, ?_, by simpa using h.len, ?_⟩
  · obtain ⟨r, hr, h0⟩ := h.root; exact ⟨f r, List.mem_map.2 ⟨r, hr, rfl⟩, by rw [hf.id, h0]⟩
  · intro x hx h0; obtain ⟨y, hy, rfl⟩ := List.mem_map.1 hx; rw [hf.par, hf.thr]; exact h.rt y hy (by rw [← hf.id]; exact h0)
  · intro x hx h0
    obtain ⟨y, hy, rfl⟩ := List.mem_map.1 hx
    rw [hf.id] at h0 ⊢
    obtain ⟨h1, p, hp, h2, h3⟩ := h.pa y hy h0
    exact ⟨h1, f p, List.mem_map.2 ⟨p, hp, rfl⟩, by rw [hf.id, hf.par, h2], by rw [hf.thr, h3]⟩
  · obtain ⟨rk, hk⟩ := h.rk
    refine ⟨rk, fun x hx => ?_⟩
    obtain ⟨y, hy, rfl⟩ := List.mem_map.1 hx
    rw [hf.id, hf.par, hf.thr]; exact hk y hy
theorem skel_ite {k : Int} {f : Nr → Nr} (hf : Skel f) : Skel (fun x => if x.id == k then f x else x) := ⟨fun x => by split; exact hf.id x; rfl, fun x => by split; exact hf.par x; rfl, fun x => by split; exact hf.thr x; rfl⟩
theorem SK.upN {N : List Nr} (h : SK N) {k : Int} {f : Nr → Nr} (hf : Skel f) : SK (upN N k f) := h.map _ (skel_ite hf)
/-! ### in memory -/
def ndc (x : Nd) : List Value := [.int .i64 x.n.id, .int .i64 x.n.par, .int .i64 x.n.wt, .int .i64 x.n.pass, .bool x.n.thr, .bool x.n.rdy, .int .i64 x.n.now, .pointer (some ⟨x.ib, 0, none⟩)]
def ndS (x : Nd) : SP := blk x.b 54 (ndc x)
def nodesL : List Nd → List SP
  | [] => []
  | x :: T => ndS x :: idxS x.ib 60 x.q :: nodesL T
def kp (x : Nd) : Int × Value := (x.n.id, .pointer (some ⟨x.b, 0, none⟩))
theorem SatF.perm {l l' : List SP} (h : l.Perm l') : ∀ {w : World} {F : Nat → Prop}, SatF l w F → SatF l' w F := by
  induction h with
  | nil => intro w F h; exact h
  | cons x _ ih => intro w F ⟨G, h1, h2, h3⟩; exact ⟨G, h1, h2, ih h3⟩
  | swap x y l => intro w F h; exact SatF.swap h
  | trans _ _ ih1 ih2 => intro w F h; exact ih2 (ih1 h)
theorem Sat.perm {l l' : List SP} (h : l.Perm l') {w : World} (hs : Sat w l) : Sat w l' := SatF.perm h hs
theorem nodesL_perm {T T' : List Nd} (h : T.Perm T') : (nodesL T).Perm (nodesL T') := by
  induction h with
  | nil => exact .refl _
  | cons x _ ih => exact (ih.cons _).cons _
  | swap x y l =>
    simp only [nodesL]
    have e : ∀ (a b c d : SP) (l : List SP), (a :: b :: c :: d :: l).Perm (c :: d :: a :: b :: l) := fun a b c d l => by
      have := (List.perm_append_comm (l₁ := [a, b]) (l₂ := [c, d])).append_right l
      simpa using this
    exact e _ _ _ _ _
  | trans _ _ ih1 ih2 => exact ih1.trans ih2
theorem nodesL_mem {T : List Nd} {x : Nd} (h : x ∈ T) : ndS x ∈ nodesL T := by
  induction T with
  | nil => cases h
  | cons a T ih =>
    rcases List.mem_cons.1 h with rfl | h
    · exact .head _
    · exact .tail _ (.tail _ (ih h))
/-- A node's cells. -/
theorem nodeAt {T : List Nd} {H : List SP} {x : Nd} (hx : x ∈ T) {j : Nat} {v : Value} (hj : (ndc x)[j]? = some v) : ∀ w, Sat w (nodesL T ++ H) → w.cell? ⟨x.b, j, none⟩ = some v := by
  intro w hs
  obtain ⟨i, hi⟩ := List.mem_iff_getElem?.1 (List.mem_append_left H (nodesL_mem hx))
  exact blkAt (b := x.b) (T := 54) (cs := ndc x) i hi hj w hs
theorem perm1 {T : List Nd} {i : Nat} {x : Nd} (h : T[i]? = some x) : ∃ R, T.Perm (x :: R) ∧ ∀ x', (T.set i x').Perm (x' :: R) := by
  induction T generalizing i with
  | nil => simp at h
  | cons a T ih =>
    cases i with
    | zero => simp at h; subst h; exact ⟨T, .refl _, fun _ => .refl _⟩
    | succ i =>
      obtain ⟨R, h1, h2⟩ := ih (by simpa using h)
      exact ⟨a :: R, (h1.cons a).trans (.swap _ _ _), fun x' => by simpa using ((h2 x').cons a).trans (.swap _ _ _)⟩
theorem perm2 {T : List Nd} {i j : Nat} {x p : Nd} (hi : T[i]? = some x) (hj : T[j]? = some p) (hn : i ≠ j) : ∃ R, T.Perm (x :: p :: R) ∧ ∀ x' p', ((T.set i x').set j p').Perm (x' :: p' :: R) := by
  induction T generalizing i j with
  | nil => simp at hi
  | cons a T ih =>
    cases i with
    | zero =>
      cases j with
      | zero => exact absurd rfl hn
      | succ j =>
        simp at hi; subst hi
        obtain ⟨R, h1, h2⟩ := perm1 (T := T) (i := j) (x := p) (by simpa using hj)
        exact ⟨R, h1.cons _, fun x' p' => by simpa using (h2 p').cons x'⟩
    | succ i =>
      cases j with
      | zero =>
        simp at hj; subst hj
        obtain ⟨R, h1, h2⟩ := perm1 (T := T) (i := i) (x := x) (by simpa using hi)
        exact ⟨R, (h1.cons _).trans (.swap _ _ _), fun x' p' => by simpa using ((h2 x').cons p').trans (.swap _ _ _)⟩
      | succ j =>
        obtain ⟨R, h1, h2⟩ := ih (i := i) (j := j) (by simpa using hi) (by simpa using hj) (by omega)
        have e : ∀ (a b c : Nd) (l : List Nd), (a :: b :: c :: l).Perm (b :: c :: a :: l) := fun a b c l => (List.Perm.swap b a (c :: l)).trans ((List.Perm.swap c a l).cons b)
        exact ⟨a :: R, (h1.cons a).trans (e _ _ _ _), fun x' p' => by simpa using ((h2 x' p').cons a).trans (e _ _ _ _)⟩
end Go.Proofs.YtjbjngikaiggdaaGreat
