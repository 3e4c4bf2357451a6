/- Texts put together: Trees: their nodes as a list, what each operation makes of it; nodes in memory. Trees: what an index holds of a group, when one node changes. A builtin of two operands in G; the greater of two whole numbers as floats. tree: strides, passes as floats; New, Deep, Node. Rows of numbers: slices.Index, Contains, Delete. A map's keys, sorted: slices.Sorted(maps.Keys(m)), by the shelf's contracts. tree: New, Deep, Node. Trees: one round of waking, of resting; another pass. tree: wakes. tree: rests. tree: Ready, sets, has. tree: Nodes. Trees: what waking, resting leave; a node comes, a node goes. Conditions: none. -/
import Derived.Test.YtlhjibkkkhgonaaGreatMgKb1
import Derived.Shelf.SlIterI.Sorted
import Derived.Shelf.SortM.Plain
import Derived.Shelf.SortM.SortNone
set_option linter.unusedVariables false
set_option linter.unusedSimpArgs false
namespace Go.Proofs.YtlhjibkkkhgonaaGreat
open Go.RowKit G
/-! ## the nodes -/
structure Nr where
  id : Int
  par : Int
  wt : Int
  pass : Int
  thr : Bool
  rdy : Bool
  now : Int
structure Nd where
  n : Nr
  q : List (Int × Int)
  b : Nat
  ib : Nat
def gt (N : List Nr) (k : Int) : Option Nr := N.find? (fun x => x.id == k)
def upN (N : List Nr) (k : Int) (f : Nr → Nr) : List Nr := N.map (fun x => if x.id == k then f x else x)
def kidR (N : List Nr) (k : Int) : List Nr := N.filter (fun x => x.par == k && x.rdy)
def isW (w : Int) : Bool := decide (w ≥ 1) && decide (w ≤ 16)
def strd (w : Int) : Int := if isW w then (720720 : Int).tdiv w else 0
def scaleN (pass now from_ to : Int) : Int := if pass ≤ now ∨ strd from_ = 0 then pass else now + ((pass - now) * strd to).tdiv (strd from_)
def deepN : Nat → List Nr → Int → Nat
  | 0, _, _ => 0
  | f + 1, N, k => match gt N k with
    | none => 0
    | some x => deepN f N x.par + 1
def wakeN : Nat → List Nr → Int → List Nr
  | 0, N, _ => N
  | f + 1, N, k => match gt N k with
    | none => N
    | some x => if x.rdy then N else match gt N x.par with
      | none => upN N k (fun x => { x with rdy := true })
      | some p => wakeN f (upN N k (fun x => { x with rdy := true, pass := mxI x.pass p.now })) x.par
def restN : Nat → List Nr → Int → List Nr
  | 0, N, _ => N
  | f + 1, N, k => match gt N k with
    | none => N
    | some x => if x.rdy = false ∨ kidR N k ≠ [] then N else match gt N x.par with
      | none => upN N k (fun x => { x with rdy := false })
      | some p => restN f (upN N k (fun x => { x with rdy := false })) x.par
def addN (N : List Nr) (par id wt : Int) (thr : Bool) : Int × List Nr :=
  if isW wt = false ∨ id < 1 then (10, N) else match gt N par with
    | none => (13, N)
    | some p => if p.thr then (13, N) else if (gt N id).isSome then (20, N) else if thr = false ∧ 4 ≤ deepN 6 N par then (12, N) else if 60 ≤ N.length then (14, N)
      else (0, N ++ [{ id, par, wt, pass := p.now, thr, rdy := false, now := 0 }])
def removeN (N : List Nr) (k : Int) : Int × List Nr :=
  if (gt N k).isNone ∨ k = 0 then (13, N) else if N.any (fun x => x.par == k) then (10, N) else (0, (restN 6 N k).filter (fun x => !(x.id == k)))
def readyN (N : List Nr) (k : Int) (r : Bool) : Int × List Nr :=
  match gt N k with
  | none => (13, N)
  | some x => if x.thr then (0, if r then wakeN 6 N k else restN 6 N k) else (13, N)
def weightN (N : List Nr) (k wt : Int) : Int × List Nr :=
  if isW wt = false then (10, N) else match gt N k with
    | none => (13, N)
    | some x => if k = 0 then (13, N) else match gt N x.par with
      | none => (13, N)
      | some p => (0, upN N k (fun x => { x with pass := scaleN x.pass p.now x.wt wt, wt := wt }))
def lessN (a b : Nr) : Bool := decide (a.pass < b.pass) || (decide (a.pass = b.pass) && decide (a.id < b.id))
def least : List Nr → Option Nr
  | [] => none
  | x :: r => match least r with
    | none => some x
    | some y => if lessN y x then some y else some x
def shiftN (N : List Nr) (k : Int) : List Nr :=
  match gt N k with
  | none => N
  | some g => if g.now ≤ 16777216 then N else upN (N.map (fun x => if x.par == k then { x with pass := mxI 0 (x.pass - g.now) } else x)) k (fun x => { x with now := 0 })
def downN : Nat → List Nr → Int → List Int → Int × List Nr
  | 0, N, k, _ => (k, N)
  | f + 1, N, k, way => match least (kidR N k) with
    | none => (k, way.foldl shiftN N)
    | some y => downN f (upN (upN N k (fun x => { x with now := y.pass })) y.id (fun x => { x with pass := y.pass + strd y.wt })) y.id (way ++ [k])
def runN (N : List Nr) : (Int × Bool) × List Nr :=
  match gt N 0 with
  | none => ((0, false), N)
  | some r => if r.rdy then (let z := downN 6 N 0 []; ((z.1, true), z.2)) else ((0, false), N)
/-! ## what holds of them -/
/-- The skeleton: who is whose, how deep. -/
structure SK (N : List Nr) : Prop where
  nd : (N.map (·.id)).Nodup
  root : ∃ r ∈ N, r.id = 0
  rt : ∀ x ∈ N, x.id = 0 → x.par = -1 ∧ x.thr = false
  pa : ∀ x ∈ N, x.id ≠ 0 → 1 ≤ x.id ∧ ∃ p ∈ N, p.id = x.par ∧ p.thr = false
  len : N.length ≤ 60
  rk : ∃ rk : Int → Nat, ∀ x ∈ N, (x.id = 0 → rk x.id = 1) ∧ (x.id ≠ 0 → rk x.id = rk x.par + 1) ∧ rk x.id ≤ 5 ∧ (x.thr = false → rk x.id ≤ 4)
/-- Passes and nows lie where they may. -/
structure LB (N : List Nr) : Prop where
  wt : ∀ x ∈ N, isW x.wt = true
  pass : ∀ x ∈ N, 0 ≤ x.pass ∧ x.pass ≤ 1099511627776
  now : ∀ x ∈ N, 0 ≤ x.now ∧ x.now ≤ 1099511627776
/-- Of the rest: passes lie from their group's now on, by at most their stride; a group is ready as something in it is. -/
structure WFN (N : List Nr) : Prop where
  sk : SK N
  wt : ∀ x ∈ N, isW x.wt = true
  now : ∀ x ∈ N, 0 ≤ x.now ∧ x.now ≤ 16777216
  pass : ∀ x ∈ N, 0 ≤ x.pass ∧ x.pass ≤ 16777216 + 1441440
  pn : ∀ x ∈ N, ∀ p ∈ N, p.id = x.par → x.pass ≤ p.now + strd x.wt ∧ (x.rdy = true → p.now ≤ x.pass)
  rd : ∀ x ∈ N, x.thr = false → (x.rdy = true ↔ ∃ y ∈ N, y.par = x.id ∧ y.rdy = true)
/-- The nodes in memory: each one's index holds what is ready in it. -/
structure OkT (N : List Nr) (T : List Nd) : Prop where
  n : T.map (·.n) = N
  srt : ∀ x ∈ T, SrtE x.q
  mem : ∀ x ∈ T, ∀ p k, (p, k) ∈ x.q ↔ ∃ y ∈ N, y.par = x.n.id ∧ y.rdy = true ∧ y.pass = p ∧ y.id = k
theorem WFN.lb {N : List Nr} (h : WFN N) : LB N := ⟨h.wt, fun x hx => ⟨(h.pass x hx).1, by have := (h.pass x hx).2; omega⟩, fun x hx => ⟨(h.now x hx).1, by have := (h.now x hx).2; omega⟩⟩
theorem w64 {n : Int} (h0 : -9223372036854775808 ≤ n) (h1 : n ≤ 9223372036854775807) : IntKind.i64.wrap n = n := by rw [IntKind.wrap_i64]; omega
theorem isW_cases {w : Int} (h : isW w = true) : 1 ≤ w ∧ w ≤ 16 := by simpa [isW] using h
theorem strd_pos {w : Int} (h : isW w = true) : 0 < strd w ∧ strd w ≤ 720720 := by
  obtain ⟨h1, h2⟩ := isW_cases h
  have : w = 1 ∨ w = 2 ∨ w = 3 ∨ w = 4 ∨ w = 5 ∨ w = 6 ∨ w = 7 ∨ w = 8 ∨ w = 9 ∨ w = 10 ∨ w = 11 ∨ w = 12 ∨ w = 13 ∨ w = 14 ∨ w = 15 ∨ w = 16 := by omega
  rcases this with rfl | rfl | rfl | rfl | rfl | rfl | rfl | rfl | rfl | rfl | rfl | rfl | rfl | rfl | rfl | rfl <;> decide
theorem tdiv_le {a b : Int} (ha : 0 ≤ a) (hb : 0 < b) : 0 ≤ a.tdiv b ∧ a.tdiv b ≤ a := by
  rw [Int.tdiv_eq_ediv_of_nonneg ha]
  exact ⟨Int.ediv_nonneg ha (Int.le_of_lt hb), Int.ediv_le_self b ha⟩
theorem gt_mem {N : List Nr} {k : Int} {x : Nr} (h : gt N k = some x) : x ∈ N ∧ x.id = k := ⟨List.mem_of_find?_eq_some h, by simpa using List.find?_some h⟩
theorem gt_none {N : List Nr} {k : Int} : gt N k = none ↔ ∀ x ∈ N, x.id ≠ k := by simp [gt, List.find?_eq_none]
theorem nd_eq {N : List Nr} (h : (N.map (·.id)).Nodup) {x y : Nr} (hx : x ∈ N) (hy : y ∈ N) (he : x.id = y.id) : x = y := by
  induction N with
  | nil => cases hx
  | cons a N ih =>
    simp only [List.map_cons, List.nodup_cons, List.mem_map, not_exists, not_and] at h
    rcases List.mem_cons.1 hx with e1 | h1 <;> rcases List.mem_cons.1 hy with e2 | h2
    · rw [e1, e2]
    · subst e1; exact absurd he.symm (h.1 y h2)
    · subst e2; exact absurd he (h.1 x h1)
    · exact ih h.2 h1 h2
theorem gt_of {N : List Nr} (h : (N.map (·.id)).Nodup) {x : Nr} (hx : x ∈ N) : gt N x.id = some x := by
  cases hg : gt N x.id with
  | none => exact absurd rfl (gt_none.1 hg x hx)
  | some y => obtain ⟨h1, h2⟩ := gt_mem hg; rw [nd_eq h h1 hx h2]
theorem gt_some {N : List Nr} (h : (N.map (·.id)).Nodup) {k : Int} {x : Nr} : gt N k = some x ↔ x ∈ N ∧ x.id = k := ⟨gt_mem, fun ⟨h1, h2⟩ => h2 ▸ gt_of h h1⟩
/-! ### a change of one node -/
theorem upN_id {N : List Nr} {k : Int} {f : Nr → Nr} (hf : ∀ x, (f x).id = x.id) : (upN N k f).map (·.id) = N.map (·.id) := by
  simp only [upN, List.map_map]
  refine List.map_congr_left fun x _ => ?_
  simp only [Function.comp]
  split <;> simp [hf]
theorem mem_upN {N : List Nr} {k : Int} {f : Nr → Nr} {y : Nr} : y ∈ upN N k f ↔ ∃ x ∈ N, (x.id = k ∧ y = f x) ∨ (x.id ≠ k ∧ y = x) := by
  simp only [upN, List.mem_map]
  constructor
  · rintro ⟨x, hx, rfl⟩
    refine ⟨x, hx, ?_⟩
    by_cases h : x.id = k
    · simp [h]
    · simp [h]
  · rintro ⟨x, hx, ⟨h, rfl⟩ | ⟨h, rfl⟩⟩
    · exact ⟨x, hx, by simp [h]⟩
    · exact ⟨y, hx, by simp [h]⟩
theorem gt_upN {N : List Nr} {k j : Int} {f : Nr → Nr} (hf : ∀ x, (f x).id = x.id) : gt (upN N k f) j = if j = k then (gt N j).map f else gt N j := by
  induction N with
  | nil => simp [gt, upN]
  | cons a N ih =>
    have e1 : gt (upN (a :: N) k f) j = if (if a.id == k then f a else a).id == j then some (if a.id == k then f a else a) else gt (upN N k f) j := by
      simp only [gt, upN, List.map_cons, List.find?_cons]
      split <;> simp_all
    have e2 : gt (a :: N) j = if a.id == j then some a else gt N j := by
      simp only [gt, List.find?_cons]; split <;> simp_all
    rw [e1, e2, ih]
    by_cases h1 : a.id = k
    · subst h1
      simp only [beq_self_eq_true, if_true, hf]
      by_cases h2 : a.id = j
      · subst h2; simp
      · have h2' : (a.id == j) = false := by simpa using h2
        have h3 : ¬ j = a.id := fun h => h2 h.symm
        simp [h2', h3]
    · have h1' : (a.id == k) = false := by simpa using h1
      simp only [h1', Bool.false_eq_true, if_false]
      by_cases h2 : a.id = j
      · subst h2; simp [h1]
      · have h2' : (a.id == j) = false := by simpa using h2
        simp [h2']
/-- What a change of one node leaves of the skeleton. -/
structure Skel (f : Nr → Nr) : Prop where
  id : ∀ x, (f x).id = x.id
  par : ∀ x, (f x).par = x.par
  thr : ∀ x, (f x).thr = x.thr
theorem SK.map {N : List Nr} (h : SK N) (f : Nr → Nr) (hf : Skel f) : SK (N.map f) := by
  have hi : (N.map f).map (·.id) = N.map (·.id) := by simp [List.map_map, Function.comp_def, hf.id]
  refine ⟨hi ▸ h.nd, ?_, ?_, ?_, by simpa using h.len, ?_⟩
  · obtain ⟨r, hr, h0⟩ := h.root; exact ⟨f r, List.mem_map.2 ⟨r, hr, rfl⟩, by rw [hf.id, h0]⟩
  · intro x hx h0; obtain ⟨y, hy, rfl⟩ := List.mem_map.1 hx; rw [hf.par, hf.thr]; exact h.rt y hy (by rw [← hf.id]; exact h0)
  · intro x hx h0
    obtain ⟨y, hy, rfl⟩ := List.mem_map.1 hx
    rw [hf.id] at h0 ⊢
    obtain ⟨h1, p, hp, h2, h3⟩ := h.pa y hy h0
    exact ⟨h1, f p, List.mem_map.2 ⟨p, hp, rfl⟩, by rw [hf.id, hf.par, h2], by rw [hf.thr, h3]⟩
  · obtain ⟨rk, hk⟩ := h.rk
    refine ⟨rk, fun x hx => ?_⟩
    obtain ⟨y, hy, rfl⟩ := List.mem_map.1 hx
    rw [hf.id, hf.par, hf.thr]; exact hk y hy
theorem skel_ite {k : Int} {f : Nr → Nr} (hf : Skel f) : Skel (fun x => if x.id == k then f x else x) := ⟨fun x => by split; exact hf.id x; rfl, fun x => by split; exact hf.par x; rfl, fun x => by split; exact hf.thr x; rfl⟩
theorem SK.upN {N : List Nr} (h : SK N) {k : Int} {f : Nr → Nr} (hf : Skel f) : SK (upN N k f) := h.map _ (skel_ite hf)
/-! ### in memory -/
def ndc (x : Nd) : List Value := [.int .i64 x.n.id, .int .i64 x.n.par, .int .i64 x.n.wt, .int .i64 x.n.pass, .bool x.n.thr, .bool x.n.rdy, .int .i64 x.n.now, .pointer (some ⟨x.ib, 0, none⟩)]
def ndS (x : Nd) : SP := blk x.b 80 (ndc x)
def nodesL : List Nd → List SP
  | [] => []
  | x :: T => ndS x :: idxS x.ib 60 x.q :: nodesL T
def kp (x : Nd) : Int × Value := (x.n.id, .pointer (some ⟨x.b, 0, none⟩))
theorem SatF.perm {l l' : List SP} (h : l.Perm l') : ∀ {w : World} {F : Nat → Prop}, SatF l w F → SatF l' w F := by
  induction h with
  | nil => intro w F h; exact h
  | cons x _ ih => intro w F ⟨G, h1, h2, h3⟩; exact ⟨G, h1, h2, ih h3⟩
  | swap x y l => intro w F h; exact SatF.swap h
  | trans _ _ ih1 ih2 => intro w F h; exact ih2 (ih1 h)
theorem Sat.perm {l l' : List SP} (h : l.Perm l') {w : World} (hs : Sat w l) : Sat w l' := SatF.perm h hs
theorem nodesL_perm {T T' : List Nd} (h : T.Perm T') : (nodesL T).Perm (nodesL T') := by
  induction h with
  | nil => exact .refl _
  | cons x _ ih => exact (ih.cons _).cons _
  | swap x y l =>
    simp only [nodesL]
    have e : ∀ (a b c d : SP) (l : List SP), (a :: b :: c :: d :: l).Perm (c :: d :: a :: b :: l) := fun a b c d l => by
      have := (List.perm_append_comm (l₁ := [a, b]) (l₂ := [c, d])).append_right l
      simpa using this
    exact e _ _ _ _ _
  | trans _ _ ih1 ih2 => exact ih1.trans ih2
theorem nodesL_mem {T : List Nd} {x : Nd} (h : x ∈ T) : ndS x ∈ nodesL T := by
  induction T with
  | nil => cases h
  | cons a T ih =>
    rcases List.mem_cons.1 h with rfl | h
    · exact .head _
    · exact .tail _ (.tail _ (ih h))
/-- A node's cells. -/
theorem nodeAt {T : List Nd} {H : List SP} {x : Nd} (hx : x ∈ T) {j : Nat} {v : Value} (hj : (ndc x)[j]? = some v) : ∀ w, Sat w (nodesL T ++ H) → w.cell? ⟨x.b, j, none⟩ = some v := by
  intro w hs
  obtain ⟨i, hi⟩ := List.mem_iff_getElem?.1 (List.mem_append_left H (nodesL_mem hx))
  exact blkAt (b := x.b) (T := 80) (cs := ndc x) i hi hj w hs
theorem perm1 {T : List Nd} {i : Nat} {x : Nd} (h : T[i]? = some x) : ∃ R, T.Perm (x :: R) ∧ ∀ x', (T.set i x').Perm (x' :: R) := by
  induction T generalizing i with
  | nil => simp at h
  | cons a T ih =>
    cases i with
    | zero => simp at h; subst h; exact ⟨T, .refl _, fun _ => .refl _⟩
    | succ i =>
      obtain ⟨R, h1, h2⟩ := ih (by simpa using h)
      exact ⟨a :: R, (h1.cons a).trans (.swap _ _ _), fun x' => by simpa using ((h2 x').cons a).trans (.swap _ _ _)⟩
theorem perm2 {T : List Nd} {i j : Nat} {x p : Nd} (hi : T[i]? = some x) (hj : T[j]? = some p) (hn : i ≠ j) : ∃ R, T.Perm (x :: p :: R) ∧ ∀ x' p', ((T.set i x').set j p').Perm (x' :: p' :: R) := by
  induction T generalizing i j with
  | nil => simp at hi
  | cons a T ih =>
    cases i with
    | zero =>
      cases j with
      | zero => exact absurd rfl hn
      | succ j =>
        simp at hi; subst hi
        obtain ⟨R, h1, h2⟩ := perm1 (T := T) (i := j) (x := p) (by simpa using hj)
        exact ⟨R, h1.cons _, fun x' p' => by simpa using (h2 p').cons x'⟩
    | succ i =>
      cases j with
      | zero =>
        simp at hj; subst hj
        obtain ⟨R, h1, h2⟩ := perm1 (T := T) (i := i) (x := x) (by simpa using hi)
        exact ⟨R, (h1.cons _).trans (.swap _ _ _), fun x' p' => by simpa using ((h2 x').cons p').trans (.swap _ _ _)⟩
      | succ j =>
        obtain ⟨R, h1, h2⟩ := ih (i := i) (j := j) (by simpa using hi) (by simpa using hj) (by omega)
        have e : ∀ (a b c : Nd) (l : List Nd), (a :: b :: c :: l).Perm (b :: c :: a :: l) := fun a b c l => (List.Perm.swap b a (c :: l)).trans ((List.Perm.swap c a l).cons b)
        exact ⟨a :: R, (h1.cons a).trans (e _ _ _ _), fun x' p' => by simpa using ((h2 x' p').cons a).trans (e _ _ _ _)⟩
end Go.Proofs.YtlhjibkkkhgonaaGreat
set_option linter.unusedVariables false
set_option linter.unusedSimpArgs false
namespace Go.Proofs.YtlhjibkkkhgonaaGreat
open Go.RowKit G
theorem find_no {l : List (Int × Int)} {id : Int} (h : ∀ e ∈ l, e.2 ≠ id) : findI l id = -1 := by
  rcases findI_cases l id with ⟨h1, _⟩ | ⟨i, e, _, he, hid, _⟩
  · exact h1
  · exact absurd hid (h e (List.mem_of_getElem? he))
theorem mem_insE {e : Int × Int} : ∀ {l : List (Int × Int)} {x : Int × Int}, x ∈ insE e l ↔ x = e ∨ x ∈ l
  | [], x => by simp [insE]
  | y :: r, x => by
    unfold insE
    split
    · rw [List.mem_cons, mem_insE, List.mem_cons]
      constructor
      · rintro (h | h | h)
        · exact .inr (.inl h)
        · exact .inl h
        · exact .inr (.inr h)
      · rintro (h | h | h)
        · exact .inr (.inl h)
        · exact .inl h
        · exact .inr (.inr h)
    · simp
theorem insE_len (e : Int × Int) : ∀ (l : List (Int × Int)), (insE e l).length = l.length + 1
  | [] => rfl
  | y :: r => by
    unfold insE
    split
    · simp [insE_len e r]
    · simp
theorem SrtE.ins {e : Int × Int} : ∀ {l : List (Int × Int)}, SrtE l → (∀ x ∈ l, x ≠ e) → SrtE (insE e l)
  | [], _, _ => by simp [insE, SrtE]
  | y :: r, h, hn => by
    have h' := List.pairwise_cons.1 h
    unfold insE
    split
    · rename_i hlt
      refine List.pairwise_cons.2 ⟨fun z hz => ?_, SrtE.ins (l := r) h'.2 (fun x hx => hn x (by simp [hx]))⟩
      rcases mem_insE.1 hz with rfl | hz
      · exact hlt
      · exact h'.1 z hz
    · rename_i hlt
      have hey : eLt e y := by
        rcases eLt_total hlt with h | h
        · exact absurd h (hn y (by simp))
        · exact h
      refine List.pairwise_cons.2 ⟨fun z hz => ?_, h⟩
      rcases List.mem_cons.1 hz with rfl | hz
      · exact hey
      · exact eLt_trans hey (h'.1 z hz)
theorem findI_no {l : List (Int × Int)} {id : Int} (h : ∀ e ∈ l, e.2 ≠ id) : ¬ findI l id ≥ 0 := by rw [find_no h]; decide
theorem findI_yes {l : List (Int × Int)} {id : Int} {e : Int × Int} (he : e ∈ l) (h : e.2 = id) : findI l id ≥ 0 := by
  rcases findI_cases l id with ⟨_, hn⟩ | ⟨i, _, hi, _⟩
  · exact absurd h (hn e he)
  · omega
/-- An entry is put. -/
theorem putE_ok {room : Int} {l : List (Int × Int)} {p id : Int} (hp : 0 ≤ p ∧ p ≤ 1099511627776) (hid : 0 ≤ id) (hn : ∀ e ∈ l, e.2 ≠ id) (hr : (l.length : Int) < room) : putE room l p id = (0, insE (p, id) l) := by
  have h1 : isPassB p = true := by simp only [isPassB, Bool.and_eq_true, decide_eq_true_eq]; omega
  rw [putE, if_neg (by rw [h1]; simp; omega), if_neg (findI_no hn), if_neg (by omega)]

theorem dropE_is {l : List (Int × Int)} {id : Int} {e : Int × Int} (hs : SrtE l) (he : e ∈ l) (h : e.2 = id) (hu : ∀ e' ∈ l, e'.2 = id → e' = e) : ∃ l', dropE l id = (0, l') ∧ SrtE l' ∧ l'.length + 1 = l.length ∧ ∀ x, x ∈ l' ↔ x ∈ l ∧ x.2 ≠ id := by
  rcases findI_cases l id with ⟨_, hn⟩ | ⟨i, e', hi, hie, hid, _⟩
  · exact absurd h (hn e he)
  · have hil := (List.getElem?_eq_some_iff.1 hie).1
    obtain rfl := hu e' (List.mem_of_getElem? hie) hid
    refine ⟨l.eraseIdx i, ?_, hs.sublist (List.eraseIdx_sublist _ _), by rw [List.length_eraseIdx_of_lt hil]; omega, fun x => ?_⟩
    · rw [dropE, if_neg (by omega), hi, Int.toNat_natCast, List.eraseIdx_eq_take_drop_succ]
    · rw [List.mem_eraseIdx_iff_getElem?]
      constructor
      · rintro ⟨v, hv, hx⟩
        refine ⟨List.mem_of_getElem? hx, fun hxi => ?_⟩
        have hxe := hu x (List.mem_of_getElem? hx) hxi
        subst hxe
        rcases Nat.lt_trichotomy v i with c | c | c
        · exact absurd (hs.at hx hie c) (eLt_irrefl _)
        · exact hv c
        · exact absurd (hs.at hie hx c) (eLt_irrefl _)
      · rintro ⟨hx, hxi⟩
        obtain ⟨v, hv⟩ := List.mem_iff_getElem?.1 hx
        refine ⟨v, fun c => ?_, hv⟩
        subst c
        rw [hie] at hv
        cases hv
        exact hxi hid
theorem rekeyE_is {l : List (Int × Int)} {id p : Int} {e : Int × Int} (hs : SrtE l) (he : e ∈ l) (h : e.2 = id) (hu : ∀ e' ∈ l, e'.2 = id → e' = e) (hp : 0 ≤ p ∧ p ≤ 1099511627776) :
    ∃ l', rekeyE l id p = (0, l') ∧ SrtE l' ∧ l'.length = l.length ∧ ∀ x, x ∈ l' ↔ x = (p, id) ∨ (x ∈ l ∧ x.2 ≠ id) := by
  obtain ⟨l', h1, h2, h3, h4⟩ := dropE_is hs he h hu
  have h0 : ¬ findI l id < 0 := by have := findI_yes he h; omega
  rw [dropE, if_neg h0, Prod.mk.injEq] at h1
  have hpb : isPassB p = true := by simp only [isPassB, Bool.and_eq_true, decide_eq_true_eq]; omega
  refine ⟨insE (p, id) l', by rw [rekeyE, if_neg (by simp [hpb]), if_neg h0, h1.2], h2.ins fun x hx hxe => ?_, by rw [insE_len]; exact h3, fun x => by rw [mem_insE, h4]⟩
  subst hxe
  exact ((h4 _).1 hx).2 rfl
/-! ## what is ready in a group -/
def KD (N : List Nr) (g p k : Int) : Prop := ∃ y ∈ N, y.par = g ∧ y.rdy = true ∧ y.pass = p ∧ y.id = k
theorem KD_up {N : List Nr} (hn : (N.map (·.id)).Nodup) {x : Nr} (hx : x ∈ N) {f : Nr → Nr} (hf : Skel f) {g p j : Int} : KD (upN N x.id f) g p j ↔ (j ≠ x.id ∧ KD N g p j) ∨ (j = x.id ∧ x.par = g ∧ (f x).rdy = true ∧ (f x).pass = p) := by
  constructor
  · rintro ⟨y, hy, h1, h2, h3, h4⟩
    obtain ⟨z, hz, ⟨e1, rfl⟩ | ⟨e1, rfl⟩⟩ := mem_upN.1 hy
    · have := nd_eq hn hz hx e1; subst this
      rw [hf.id] at h4; rw [hf.par] at h1
      exact .inr ⟨h4.symm, h1, h2, h3⟩
    · exact .inl ⟨fun h => e1 (by rw [h4, h]), y, hz, h1, h2, h3, h4⟩
  · rintro (⟨h1, y, hy, h2, h3, h4, h5⟩ | ⟨h1, h2, h3, h4⟩)
    · exact ⟨y, mem_upN.2 ⟨y, hy, .inr ⟨fun h => h1 (by rw [← h5, h]), rfl⟩⟩, h2, h3, h4, h5⟩
    · exact ⟨f x, mem_upN.2 ⟨x, hx, .inl ⟨rfl, rfl⟩⟩, by rw [hf.par, h2], h3, h4, by rw [hf.id, h1]⟩
theorem KD_one {N : List Nr} (hn : (N.map (·.id)).Nodup) {x : Nr} (hx : x ∈ N) {g p : Int} : KD N g p x.id ↔ x.par = g ∧ x.rdy = true ∧ x.pass = p := by
  constructor
  · rintro ⟨y, hy, h1, h2, h3, h4⟩
    have := nd_eq hn hy hx h4; subst this
    exact ⟨h1, h2, h3⟩
  · rintro ⟨h1, h2, h3⟩
    exact ⟨x, hx, h1, h2, h3, rfl⟩
/-- A change of a node tells nothing to a group that isn't its own, or of which it says the same. -/
theorem KD_same {N : List Nr} (hn : (N.map (·.id)).Nodup) {x : Nr} (hx : x ∈ N) {f : Nr → Nr} (hf : Skel f) {g p j : Int} (h : x.par ≠ g ∨ ((f x).rdy = x.rdy ∧ ((f x).pass = x.pass ∨ x.rdy = false))) : KD (upN N x.id f) g p j ↔ KD N g p j := by
  rw [KD_up hn hx hf]
  by_cases c : j = x.id
  · subst c
    rw [KD_one hn hx]
    rcases h with h | ⟨h1, h2⟩
    · simp [h]
    · rw [h1]
      rcases h2 with h2 | h2
      · rw [h2]; simp
      · simp [h2]
  · simp [c]
theorem KD_uni {N : List Nr} (hn : (N.map (·.id)).Nodup) {g p p' k : Int} (h : KD N g p k) (h' : KD N g p' k) : p = p' := by
  obtain ⟨y, hy, _, _, h3, h4⟩ := h
  rw [← h4, KD_one hn hy] at h'
  rw [← h3, h'.2.2]
theorem kidR_ne {N : List Nr} {g : Int} : kidR N g ≠ [] ↔ ∃ p k, KD N g p k := by
  constructor
  · intro hne
    obtain ⟨y, hy⟩ := List.exists_mem_of_ne_nil _ hne
    simp only [kidR, List.mem_filter, Bool.and_eq_true, beq_iff_eq] at hy
    exact ⟨y.pass, y.id, y, hy.1, hy.2.1, hy.2.2, rfl, rfl⟩
  · rintro ⟨p, k, y, hy, h1, h2, _⟩
    exact List.ne_nil_of_mem (a := y) (by simp only [kidR, List.mem_filter, Bool.and_eq_true, beq_iff_eq]; exact ⟨hy, h1, h2⟩)
/-! ## the nodes in memory, when one changes -/
/-- The same nodes at the same places. -/
def SameT (T T' : List Nd) : Prop := T'.map (fun x => (x.n.id, x.b, x.ib)) = T.map (fun x => (x.n.id, x.b, x.ib))
theorem SameT.refl (T : List Nd) : SameT T T := Eq.refl _
theorem SameT.trans {A B C : List Nd} (h : SameT A B) (g : SameT B C) : SameT A C := Eq.trans g h
theorem SameT.kp {T T' : List Nd} (h : SameT T T') : T'.map kp = T.map kp := by
  have := congrArg (List.map (fun (z : Int × Nat × Nat) => ((z.1, Value.pointer (some ⟨z.2.1, 0, none⟩)) : Int × Value))) h
  rw [List.map_map, List.map_map] at this
  exact this
theorem SameT.at {T T' : List Nd} (h : SameT T T') {i : Nat} {x : Nd} (hi : T[i]? = some x) : ∃ x', T'[i]? = some x' ∧ x'.n.id = x.n.id ∧ x'.b = x.b ∧ x'.ib = x.ib := by
  have := congrArg (fun l => l[i]?) h
  simp only [List.getElem?_map, hi, Option.map_some] at this
  obtain ⟨x', h1, h2⟩ := Option.map_eq_some_iff.1 this
  simp only [Prod.mk.injEq] at h2
  exact ⟨x', h1, h2.1, h2.2.1, h2.2.2⟩
theorem SameT.set {T : List Nd} {i : Nat} {x x' : Nd} (hi : T[i]? = some x) (h : x'.n.id = x.n.id ∧ x'.b = x.b ∧ x'.ib = x.ib) : SameT T (T.set i x') := by
  unfold SameT
  apply List.ext_getElem?
  intro j
  simp only [List.getElem?_map, List.getElem?_set]
  split
  · rename_i e; subst e
    obtain ⟨hil, rfl⟩ := List.getElem?_eq_some_iff.1 hi
    simp [hil, h.1, h.2.1, h.2.2]
  · rfl
theorem OkT.mem_n {N : List Nr} {T : List Nd} (h : OkT N T) {x : Nd} (hx : x ∈ T) : x.n ∈ N := h.n ▸ List.mem_map.2 ⟨x, hx, rfl⟩
theorem OkT.of_n {N : List Nr} {T : List Nd} (h : OkT N T) {y : Nr} (hy : y ∈ N) : ∃ (i : Nat) (x : Nd), T[i]? = some x ∧ x.n = y := by
  rw [← h.n] at hy
  obtain ⟨x, hx, rfl⟩ := List.mem_map.1 hy
  obtain ⟨i, hi⟩ := List.mem_iff_getElem?.1 hx
  exact ⟨i, x, hi, rfl⟩
theorem OkT.len {N : List Nr} {T : List Nd} (h : OkT N T) : T.length = N.length := by rw [← h.n, List.length_map]
theorem OkT.ix {N : List Nr} {T : List Nd} (h : OkT N T) (hn : (N.map (·.id)).Nodup) {i j : Nat} {x y : Nd} (hi : T[i]? = some x) (hj : T[j]? = some y) (he : x.n.id = y.n.id) : i = j := by
  have hN : N.map (·.id) = T.map (fun x : Nd => x.n.id) := by rw [← h.n]; simp [List.map_map, Function.comp_def]
  rw [hN] at hn
  obtain ⟨hil, rfl⟩ := List.getElem?_eq_some_iff.1 hi
  obtain ⟨hjl, rfl⟩ := List.getElem?_eq_some_iff.1 hj
  exact (List.getElem_inj (h₀ := by simpa using hil) (h₁ := by simpa using hjl) hn).1 (by simpa using he)
theorem OkT.at {N : List Nr} {T : List Nd} (h : OkT N T) (hn : (N.map (·.id)).Nodup) {i : Nat} {x : Nd} (hi : T[i]? = some x) : gt N x.n.id = some x.n := gt_of hn (h.mem_n (List.mem_of_getElem? hi))
/-- One that is told by its number. -/
theorem OkT.get {N : List Nr} {T : List Nd} (h : OkT N T) {k : Int} {y : Nr} (hg : gt N k = some y) : ∃ (i : Nat) (x : Nd), T[i]? = some x ∧ x.n = y ∧ x.n.id = k := by
  obtain ⟨h1, h2⟩ := gt_mem hg
  obtain ⟨i, x, hi, hx⟩ := h.of_n h1
  exact ⟨i, x, hi, hx, by rw [hx, h2]⟩
theorem lkE_kp (T : List Nd) (k : Int) : lkE (T.map kp) k = (T.find? (fun x : Nd => x.n.id == k)).map (fun x => .pointer (some ⟨x.b, 0, none⟩)) := by
  induction T with
  | nil => rfl
  | cons a T ih =>
    simp only [List.map_cons, lkE, kp, List.find?_cons]
    cases a.n.id == k with
    | true => rfl
    | false => simpa using ih
theorem lk_some {N : List Nr} {T : List Nd} (h : OkT N T) (hn : (N.map (·.id)).Nodup) {i : Nat} {x : Nd} {k : Int} (hi : T[i]? = some x) (hk : x.n.id = k) : lkE (T.map kp) k = some (.pointer (some ⟨x.b, 0, none⟩)) := by
  rw [lkE_kp]
  cases hf : T.find? (fun x : Nd => x.n.id == k) with
  | none => simp only [List.find?_eq_none, beq_iff_eq] at hf; exact absurd hk (hf x (List.mem_of_getElem? hi))
  | some y =>
    have hy := List.mem_of_find?_eq_some hf
    obtain ⟨j, hj⟩ := List.mem_iff_getElem?.1 hy
    have hyk : y.n.id = k := by simpa using List.find?_some hf
    have := h.ix hn hi hj (by rw [hk, hyk])
    subst this
    rw [hi] at hj
    cases hj
    rfl
theorem lk_none {N : List Nr} {T : List Nd} (h : OkT N T) {k : Int} (hg : gt N k = none) : lkE (T.map kp) k = none := by
  rw [lkE_kp]
  cases hf : T.find? (fun x : Nd => x.n.id == k) with
  | none => rfl
  | some y => exact absurd (by simpa using List.find?_some hf) (gt_none.1 hg _ (h.mem_n (List.mem_of_find?_eq_some hf)))
theorem set_up {N : List Nr} {T : List Nd} (h : T.map (·.n) = N) (hn : (N.map (·.id)).Nodup) {i : Nat} {x : Nd} (hi : T[i]? = some x) (f : Nr → Nr) (x' : Nd) (hx' : x'.n = f x.n) : (T.set i x').map (·.n) = upN N x.n.id f := by
  subst h
  apply List.ext_getElem?
  intro j
  obtain ⟨hil, hxi⟩ := List.getElem?_eq_some_iff.1 hi
  simp only [upN, List.getElem?_map, List.getElem?_set]
  by_cases c : i = j
  · subst c
    simp [hil, hxi, hx']
  · rw [if_neg c]
    cases hj : T[j]? with
    | none => simp
    | some y =>
      have : y.n.id ≠ x.n.id := by
        intro e
        obtain ⟨hjl, hyj⟩ := List.getElem?_eq_some_iff.1 hj
        refine c ((List.getElem_inj (h₀ := by simpa using hil) (h₁ := by simpa using hjl) hn).1 ?_)
        simp [hxi, hyj, e]
      simp [this]
/-- A node has changed, of which its group learns nothing. -/
theorem OkT.one {N : List Nr} {T : List Nd} (h : OkT N T) (hn : (N.map (·.id)).Nodup) {i : Nat} {x : Nd} (hi : T[i]? = some x) {f : Nr → Nr} (hf : Skel f) (hs : (∀ y ∈ N, y.id ≠ x.n.par) ∨ ((f x.n).rdy = x.n.rdy ∧ ((f x.n).pass = x.n.pass ∨ x.n.rdy = false))) :
    OkT (upN N x.n.id f) (T.set i { x with n := f x.n }) := by
  have key : ∀ z ∈ T, ∀ p k, (p, k) ∈ z.q ↔ KD (upN N x.n.id f) z.n.id p k := by
    intro z hz p k
    rw [KD_same hn (h.mem_n (List.mem_of_getElem? hi)) hf]
    · exact h.mem z hz p k
    · rcases hs with hs | hs
      · exact .inl fun e => hs z.n (h.mem_n hz) e.symm
      · exact .inr hs
  refine ⟨set_up h.n hn hi f _ rfl, fun z hz => ?_, fun z hz p k => ?_⟩
  · rcases List.mem_or_eq_of_mem_set hz with hz | rfl
    · exact h.srt z hz
    · exact h.srt x (List.mem_of_getElem? hi)
  · rcases List.mem_or_eq_of_mem_set hz with hz | rfl
    · exact key z hz p k
    · have := key x (List.mem_of_getElem? hi) p k
      show (p, k) ∈ x.q ↔ KD (upN N x.n.id f) (f x.n).id p k
      rw [hf.id]
      exact this
/-- A node and its group's index have changed. -/
theorem OkT.two {N : List Nr} {T : List Nd} (h : OkT N T) (hn : (N.map (·.id)).Nodup) {i j : Nat} {x p : Nd} (hi : T[i]? = some x) (hj : T[j]? = some p) (hp : p.n.id = x.n.par) (hij : i ≠ j) {f : Nr → Nr} (hf : Skel f) {q : List (Int × Int)} (hq : SrtE q)
    (hm : ∀ s k, (s, k) ∈ q ↔ KD (upN N x.n.id f) p.n.id s k) : OkT (upN N x.n.id f) ((T.set i { x with n := f x.n }).set j { p with q := q }) := by
  have hx := h.mem_n (List.mem_of_getElem? hi)
  have hj' : (T.set i { x with n := f x.n })[j]? = some p := by rw [List.getElem?_set, if_neg hij]; exact hj
  have hset : ((T.set i { x with n := f x.n }).set j { p with q := q }).map (·.n) = (T.set i { x with n := f x.n }).map (·.n) := by
    apply List.ext_getElem?
    intro l
    simp only [List.getElem?_map, List.getElem?_set (i := j)]
    by_cases c : j = l
    · subst c
      rw [hj', if_pos rfl, if_pos (List.getElem?_eq_some_iff.1 hj').1]
      rfl
    · rw [if_neg c]
  refine ⟨hset.trans (set_up h.n hn hi f _ rfl), ?_, ?_⟩
  · intro z hz
    rcases List.mem_or_eq_of_mem_set hz with hz | rfl
    · rcases List.mem_or_eq_of_mem_set hz with hz | rfl
      · exact h.srt z hz
      · exact h.srt x (List.mem_of_getElem? hi)
    · exact hq
  · intro z hz s k
    obtain ⟨l, hl⟩ := List.mem_iff_getElem?.1 hz
    rw [List.getElem?_set] at hl
    by_cases c : j = l
    · subst c
      rw [if_pos rfl] at hl
      split at hl
      · cases hl; exact hm s k
      · cases hl
    · rw [if_neg c, List.getElem?_set] at hl
      by_cases c2 : i = l
      · subst c2
        rw [if_pos rfl] at hl
        split at hl
        · cases hl
          have hne : x.n.par ≠ x.n.id := fun e => hij (h.ix hn hi hj (by rw [hp, e]))
          rw [show ({ x with n := f x.n } : Nd).n.id = x.n.id from hf.id _]
          show (s, k) ∈ x.q ↔ KD (upN N x.n.id f) x.n.id s k
          rw [KD_same hn hx hf (.inl hne)]
          exact h.mem x (List.mem_of_getElem? hi) s k
        · cases hl
      · rw [if_neg c2] at hl
        have hne : x.n.par ≠ z.n.id := fun e => c (h.ix hn hj hl (by rw [hp, e]))
        show (s, k) ∈ z.q ↔ KD (upN N x.n.id f) z.n.id s k
        rw [KD_same hn hx hf (.inl hne)]
        exact h.mem z (List.mem_of_getElem? hl) s k
end Go.Proofs.YtlhjibkkkhgonaaGreat
set_option linter.unusedVariables false
set_option linter.unusedSimpArgs false
namespace Go.Proofs.YtlhjibkkkhgonaaGreat
open Go.RowKit G
namespace G
theorem bltY {P : Program} {n : Nat} {L : List (Nat × Value)} {c : Code} {S : World → Prop} {i : Nat} (b : Builtin) (x y : Operand) (ats : Array TypeId) (vx vy v : Value) (d : Option Tmp) (hg : ∀ rest, goes n c i L rest = true) (hd : (opAt c i).dst = d)
    (hop : (opAt c i).op = .call { callee := .builtin b, args := #[x, y], argTypes := ats }) (hx : ∀ rest, evalL L rest x = vx) (hy : ∀ rest, evalL L rest y = vy)
    (hr : ∀ w ty cs, (builtin b ats ty cs #[vx, vy]).run P w = .ok (.value v) w) : Yld P n L S c i d v := by
  refine ⟨hg, hd, fun rest w _ hs => ?_⟩
  unfold execOp
  simp only [hop, resolve, invoke, Sem.run_bind, Sem.run_pure, Result.andThen_ok, List.map_toArray, List.map_cons, List.map_nil, hx rest, hy rest, hr]
/-- An element's place in an array. -/
theorem aidxY {P : Program} {n : Nat} {L : List (Nat × Value)} {c : Code} {S : World → Prop} {i : Nat} (t : TypeId) (x ix : Operand) (b o len J sz : Nat) (E : TypeId) (j : Int) (k : IntKind) (d : Option Tmp) (hg : ∀ rest, goes n c i L rest = true) (hd : (opAt c i).dst = d) (hop : (opAt c i).op = .indexAddr t x ix)
    (hx : ∀ rest, evalL L rest x = .pointer (some ⟨b, o, none⟩)) (hix : ∀ rest, evalL L rest ix = .int k j) (hu : P.underlying t = some (.array len E)) (hsz : (P.info? E).map (·.size) = some sz) (hj : j = (J : Int)) (hJ : J < len) : Yld P n L S c i d (.pointer (some ⟨b, o + J * sz, none⟩)) := by
  refine ⟨hg, hd, fun rest w _ hs => ?_⟩
  have hi : ∃ q, P.info? E = some q ∧ q.size = sz := by
    cases hq : P.info? E with
    | none => rw [hq] at hsz; cases hsz
    | some q => rw [hq] at hsz; exact ⟨q, rfl, by simpa using hsz⟩
  obtain ⟨q, hq, hqs⟩ := hi
  subst hj
  unfold execOp
  simp only [hop, hx rest, hix rest]
  simp [Instr.indexAt, Instr.sureAddr, asIntOf, run_underlying hu, sizeOf, typeInfo, hq, hqs, hJ, Addr.add_lit]
/-- One operation that reckons. -/
def calmOk (P : Program) (n : Nat) (c : Code) (i : Nat) (L : List (Nat × Value)) (rest : Nat → Value) : Option (Value × Option Tmp) :=
  match goes n c i L rest with
  | true => (match calmL P (execOp (evalL L rest) (opAt c i)) [] with
    | some (.value v, [], _) => some (v, (opAt c i).dst)
    | _ => none)
  | false => none
theorem calmS {P : Program} {n : Nat} {L : List (Nat × Value)} {H : List SP} {c : Code} {i : Nat} (v : Value) (d : Option Tmp) (h : ∀ rest, calmOk P n c i L rest = some (v, d)) : Step (ι := Unit) P n L H c i d (fun _ => v) (fun _ => H) := by
  have key : ∀ rest, goes n c i L rest = true ∧ (opAt c i).dst = d ∧ ∃ r, calmL P (execOp (evalL L rest) (opAt c i)) [] = some (.value v, [], r) := by
    intro rest
    have h0 := h rest
    unfold calmOk at h0
    cases hg : goes n c i L rest with
    | false => rw [hg] at h0; cases h0
    | true =>
      rw [hg] at h0
      simp only at h0
      cases hr : calmL P (execOp (evalL L rest) (opAt c i)) [] with
      | none => rw [hr] at h0; cases h0
      | some z =>
        obtain ⟨x, cs, r⟩ := z
        rw [hr] at h0
        cases x with
        | value u =>
          cases cs with
          | cons _ _ => cases h0
          | nil =>
            simp only [Option.some.injEq, Prod.mk.injEq] at h0
            obtain ⟨rfl, rfl⟩ := h0
            exact ⟨rfl, rfl, r, rfl⟩
        | _ => cases h0
  refine valueS d _ _ (fun rest => (key rest).1) (key fun _ => undef).2.1 ?_
  intro rest w _ hs
  obtain ⟨r, hr⟩ := (key rest).2.2
  exact ⟨(), w, (calmL_run (w := w) _ hr (fun p hp => by simp at hp) (fun p hp => by simp at hp)).1, hs⟩
end G
theorem max_flt {P : Program} {a b : Int} {ats : Array TypeId} (ha : a.natAbs < 2 ^ 53) (hb : b.natAbs < 2 ^ 53) (w : World) (ty : TypeId) (cs : Array Bool) :
    (builtin .max ats ty cs #[.float .f64 (floatOfInt .f64 a), .float .f64 (floatOfInt .f64 b)]).run P w = .ok (.value (.float .f64 (floatOfInt .f64 (mxI a b)))) w := by
  have ho : FloatKind.f64.format.order (floatOfInt .f64 a) (floatOfInt .f64 b) = some (compare a b) := fi_order a b ha hb
  have h2 : (Builtin.max2 (.float .f64 (floatOfInt .f64 a)) (.float .f64 (floatOfInt .f64 b))).run P w = .ok (.float .f64 (floatOfInt .f64 (mxI a b))) w := by
    unfold Builtin.max2
    simp only [ho]
    unfold mxI
    rcases Int.lt_trichotomy a b with h | h | h
    · rw [Int.compare_eq_lt.2 h]
      simp [h]
    · subst h
      rw [Int.compare_eq_eq.2 rfl]
      simp
    · rw [Int.compare_eq_gt.2 h]
      simp [Int.lt_asymm h]
  simp [builtin, Builtin.max_, Sem.run_bind, h2]
/-- A block of elements as a row. -/
theorem Sat.blkRows {α : Type} {E : Enc α} {T : TypeId} {H : List SP} {w : World} {b : Nat} {xs : List α} (hl : xs.length ≤ maxLen) (h : Sat w (blk b T (E.flat xs) :: H)) : Sat w (row E T (.slice (some ⟨b, 0, none⟩) xs.length xs.length) xs :: H) :=
  Sat.change h fun G hG => by
    refine ⟨Upd.refl _ w, OneB b, .inr ⟨b, 0, xs.length, _, rfl, rfl, hG.1, Nat.le_refl _, hl, by simp [E.flat_length], ?_⟩, fun x hx => .inl ((hG.2 x).2 hx)⟩
    simp only [List.drop_zero]
    rw [← E.flat_length xs]; exact List.take_length
theorem PT.blkRows {α : Type} {E : Enc α} {T : TypeId} {H : List SP} {n : Nat} {L : List (Nat × Value)} {Φ : Act → World → Prop} {b : Nat} {cs : List Value} (xs : List α) (hl : xs.length ≤ maxLen) (hc : cs = E.flat xs) (h : PT n L (row E T (.slice (some ⟨b, 0, none⟩) xs.length xs.length) xs :: H) Φ) : PT n L (blk b T cs :: H) Φ :=
  PT.sat (fun w hs => Sat.blkRows hl (hc ▸ hs)) h
/-! ## nodes come out of the memory, and go in again -/
theorem Sat.nds {A B : SP} {T T' : List Nd} {H : List SP} (h : T.Perm T') {w : World} (hs : Sat w (A :: B :: (nodesL T ++ H))) : Sat w (A :: B :: (nodesL T' ++ H)) := Sat.perm ((((nodesL_perm h).append_right H).cons B).cons A) hs
theorem PT.open1 {n : Nat} {L : List (Nat × Value)} {A B : SP} {T R : List Nd} {H : List SP} {x : Nd} {Φ : Act → World → Prop} (h : T.Perm (x :: R))
    (hn : PT n L (A :: B :: blk x.b 80 (ndc x) :: idxS x.ib 60 x.q :: (nodesL R ++ H)) Φ) : PT n L (A :: B :: (nodesL T ++ H)) Φ := PT.sat (fun _ hs => Sat.nds h hs) hn
theorem PT.open2 {n : Nat} {L : List (Nat × Value)} {A B : SP} {T R : List Nd} {H : List SP} {x p : Nd} {Φ : Act → World → Prop} (h : T.Perm (x :: p :: R))
    (hn : PT n L (A :: B :: blk x.b 80 (ndc x) :: idxS x.ib 60 x.q :: blk p.b 80 (ndc p) :: idxS p.ib 60 p.q :: (nodesL R ++ H)) Φ) : PT n L (A :: B :: (nodesL T ++ H)) Φ := PT.sat (fun _ hs => Sat.nds h hs) hn
theorem PT.close1 {n : Nat} {L : List (Nat × Value)} {A B : SP} {T R : List Nd} {H : List SP} (x : Nd) {Φ : Act → World → Prop} (h : T.Perm (x :: R))
    (hn : PT n L (A :: B :: (nodesL T ++ H)) Φ) : PT n L (A :: B :: blk x.b 80 (ndc x) :: idxS x.ib 60 x.q :: (nodesL R ++ H)) Φ := PT.sat (fun _ hs => Sat.nds (T := x :: R) h.symm hs) hn
theorem PT.close2 {n : Nat} {L : List (Nat × Value)} {A B : SP} {T R : List Nd} {H : List SP} (x p : Nd) {Φ : Act → World → Prop} (h : T.Perm (x :: p :: R))
    (hn : PT n L (A :: B :: (nodesL T ++ H)) Φ) : PT n L (A :: B :: blk x.b 80 (ndc x) :: idxS x.ib 60 x.q :: blk p.b 80 (ndc p) :: idxS p.ib 60 p.q :: (nodesL R ++ H)) Φ := PT.sat (fun _ hs => Sat.nds (T := x :: p :: R) h.symm hs) hn
theorem Sat.nds3 {A B C : SP} {T T' : List Nd} {H : List SP} (h : T.Perm T') {w : World} (hs : Sat w (A :: B :: C :: (nodesL T ++ H))) : Sat w (A :: B :: C :: (nodesL T' ++ H)) := Sat.perm (((((nodesL_perm h).append_right H).cons C).cons B).cons A) hs
theorem PT.open1c {n : Nat} {L : List (Nat × Value)} {A B C : SP} {T R : List Nd} {H : List SP} {x : Nd} {Φ : Act → World → Prop} (h : T.Perm (x :: R))
    (hn : PT n L (A :: B :: C :: blk x.b 80 (ndc x) :: idxS x.ib 60 x.q :: (nodesL R ++ H)) Φ) : PT n L (A :: B :: C :: (nodesL T ++ H)) Φ := PT.sat (fun _ hs => Sat.nds3 h hs) hn
theorem PT.close1c {n : Nat} {L : List (Nat × Value)} {A B C : SP} {T R : List Nd} {H : List SP} (x : Nd) {Φ : Act → World → Prop} (h : T.Perm (x :: R))
    (hn : PT n L (A :: B :: C :: (nodesL T ++ H)) Φ) : PT n L (A :: B :: C :: blk x.b 80 (ndc x) :: idxS x.ib 60 x.q :: (nodesL R ++ H)) Φ := PT.sat (fun _ hs => Sat.nds3 (T := x :: R) h.symm hs) hn
theorem Sat.nds4 {A B C D : SP} {T T' : List Nd} {H : List SP} (h : T.Perm T') {w : World} (hs : Sat w (A :: B :: C :: D :: (nodesL T ++ H))) : Sat w (A :: B :: C :: D :: (nodesL T' ++ H)) := Sat.perm ((((((nodesL_perm h).append_right H).cons D).cons C).cons B).cons A) hs
theorem PT.open1d {n : Nat} {L : List (Nat × Value)} {A B C D : SP} {T R : List Nd} {H : List SP} {x : Nd} {Φ : Act → World → Prop} (h : T.Perm (x :: R))
    (hn : PT n L (A :: B :: C :: D :: blk x.b 80 (ndc x) :: idxS x.ib 60 x.q :: (nodesL R ++ H)) Φ) : PT n L (A :: B :: C :: D :: (nodesL T ++ H)) Φ := PT.sat (fun _ hs => Sat.nds4 h hs) hn
theorem PT.close1d {n : Nat} {L : List (Nat × Value)} {A B C D : SP} {T R : List Nd} {H : List SP} (x : Nd) {Φ : Act → World → Prop} (h : T.Perm (x :: R))
    (hn : PT n L (A :: B :: C :: D :: (nodesL T ++ H)) Φ) : PT n L (A :: B :: C :: D :: blk x.b 80 (ndc x) :: idxS x.ib 60 x.q :: (nodesL R ++ H)) Φ := PT.sat (fun _ hs => Sat.nds4 (T := x :: R) h.symm hs) hn
end Go.Proofs.YtlhjibkkkhgonaaGreat
set_option linter.unusedVariables false
set_option linter.unusedSimpArgs false
namespace Go.Proofs.YtlhjibkkkhgonaaGreat
open Go.RowKit G
set_option maxRecDepth 100000 in
theorem strIs_walk (H : List SP) (w_ : Int) : ∀ w, Sat w H → Calls Tryz.prog 44 #[.int .i64 w_] w (Ret (ι := Unit) (fun _ => .bool (isW w_)) fun _ => H) := by
  refine enterG (fn := Tryz.f44) 9 [.int .i64 w_] Tryz.func44 (by kernel_rfl) (by kernel_rfl) (by kernel_rfl) ?_
  refine seqR (by kernel_rfl) ?_
  refine regionR 1 (by kernel_rfl) (by kernel_rfl) ?_
  refine (run0 (z := 0) 1 [0, 2] [(0, .int .i64 w_), (2, .bool false)] (fun _ => by kernel_rfl) (endR ?_) : RT _ _ _ _ _ _ 1 _)
  refine seqR (by kernel_rfl) ?_
  refine regionR 7 (by kernel_rfl) (by kernel_rfl) ?_
  refine (run0 (z := 4) 3 [0, 2, 5] [(0, .int .i64 w_), (2, .bool false), (5, .bool (decide (w_ ≥ 1)))] (fun _ => by kernel_rfl) ?_ : RT _ _ _ _ _ _ 7 _)
  refine (segR (ι := Unit) (z := 1) 3 (fun _ => [(2, .bool false), (8, .bool ((decide (w_ ≥ 1)) && (decide (w_ ≤ 16))))]) (fun _ => (H)) ?_ (fun _ => ?_) : RT _ _ _ _ _ _ 4 _)
  · cases hg3 : (decide (w_ ≥ 1)) with
    | true =>
      refine (run0 (z := 0) 3 [2, 8] [(2, .bool false), (8, .bool (decide (w_ ≤ 16)))] (fun _ => by kernel_rfl) (endR ?_) : RT _ _ _ _ _ _ 3 _)
      refine PT.keep (L' := [(2, .bool false), (8, .bool (true && (decide (w_ ≤ 16))))]) [2, 8] rfl ?_
      exact midR () rfl rfl
    | false =>
      refine (run0 (z := 0) 3 [2, 8] [(2, .bool false), (8, .bool false)] (fun _ => by kernel_rfl) (endR ?_) : RT _ _ _ _ _ _ 3 _)
      refine PT.keep (L' := [(2, .bool false), (8, .bool (false && (decide (w_ ≤ 16))))]) [2, 8] rfl ?_
      exact midR () rfl rfl
  refine (run0 (z := 0) 1 [2] [(2, .bool ((decide (w_ ≥ 1)) && (decide (w_ ≤ 16))))] (fun _ => by kernel_rfl) (endR ?_) : RT _ _ _ _ _ _ 1 _)
  refine retR (by kernel_rfl) ?_
  refine done0 (.bool ((decide (w_ ≥ 1)) && (decide (w_ ≤ 16)))) (fun _ => by kernel_rfl) (fun w hs => ?_) .ret (.inr rfl)
  exact ⟨(), rfl, hs⟩
set_option maxRecDepth 100000 in
theorem strOf_walk (H : List SP) (w_ : Int) : ∀ w, Sat w H → Calls Tryz.prog 74 #[.int .i64 w_] w (Ret (ι := Unit) (fun _ => .int .i64 (strd w_)) fun _ => H) := by
  refine enterG (fn := Tryz.f74) 8 [.int .i64 w_] Tryz.func74 (by kernel_rfl) (by kernel_rfl) (by kernel_rfl) ?_
  refine seqR (by kernel_rfl) ?_
  refine regionR 1 (by kernel_rfl) (by kernel_rfl) ?_
  refine (run0 (z := 0) 1 [0, 2] [(0, .int .i64 w_), (2, .int .i64 0)] (fun _ => by kernel_rfl) (endR ?_) : RT _ _ _ _ _ _ 1 _)
  refine seqR (by kernel_rfl) ?_
  refine seqR (by kernel_rfl) ?_
  refine regionR 3 (by kernel_rfl) (by kernel_rfl) ?_
  refine (run0 (z := 2) 1 [0, 2, 3] [(0, .int .i64 w_), (2, .int .i64 0), (3, .int .i64 w_)] (fun _ => by kernel_rfl) ?_ : RT _ _ _ _ _ _ 3 _)
  refine (stepR (z := 1) (callS 44 [.int .i64 w_] (some 4) (fun _ => .bool (isW w_)) (fun (_ : Unit) => (H)) (fun _ => by kernel_rfl) (strIs_walk _ w_)) (fun _ => ?_) : RT _ _ _ _ _ _ 2 _)
  refine (run0 (z := 0) 1 [0, 2, 5] [(0, .int .i64 w_), (2, .int .i64 0), (5, .bool (!(isW w_)))] (fun _ => by kernel_rfl) (endR ?_) : RT _ _ _ _ _ _ 1 _)
  refine condR (b := !(isW w_)) (by kernel_rfl) (fun _ => by kernel_rfl) (fun h1 => ?_) (fun h1 => ?_)
  · skip
    refine seqR (by kernel_rfl) ?_
    refine regionR 1 (by kernel_rfl) (by kernel_rfl) ?_
    refine (run0 (z := 0) 1 [0, 2] [(0, .int .i64 w_), (2, .int .i64 0)] (fun _ => by kernel_rfl) (endR ?_) : RT _ _ _ _ _ _ 1 _)
    refine retR (by kernel_rfl) ?_
    refine thenV ?_
    refine done0 (.int .i64 0) (fun _ => by kernel_rfl) (fun w hs => ?_) .ret (.inr rfl)
    exact ⟨(), by rw [strd, if_neg (by simpa using h1)], hs⟩
  · skip
    refine skipR (by kernel_rfl) ?_
    refine seqR (by kernel_rfl) ?_
    refine regionR 3 (by kernel_rfl) (by kernel_rfl) ?_
    refine (run0 (z := 2) 1 [2, 6] [(2, .int .i64 0), (6, .int .i64 w_)] (fun _ => by kernel_rfl) ?_ : RT _ _ _ _ _ _ 3 _)
    have hw : isW w_ = true := by simpa using h1
    refine (stepR (z := 1) (yldS (binY .quo 3 3 (.const (.int .i64 720720)) (.tmp 6) (.int .i64 720720) (.int .i64 w_) (.int .i64 (IntKind.i64.wrap ((720720 : Int).tdiv w_))) (some 7) (fun _ => by kernel_rfl) (by kernel_rfl) (by kernel_rfl) (fun _ => by kernel_rfl) (fun _ => by kernel_rfl) (quoR (t' := 0) (by have := isW_cases hw; omega)))) (fun _ => ?_) : RT _ _ _ _ _ _ 2 _)
    refine (run0 (z := 0) 1 [2] [(2, .int .i64 (IntKind.i64.wrap ((720720 : Int).tdiv w_)))] (fun _ => by kernel_rfl) (endR ?_) : RT _ _ _ _ _ _ 1 _)
    refine retR (by kernel_rfl) ?_
    refine done0 (.int .i64 (IntKind.i64.wrap ((720720 : Int).tdiv w_))) (fun _ => by kernel_rfl) (fun w hs => ?_) .ret (.inr rfl)
    exact ⟨(), by rw [show IntKind.i64.wrap ((720720 : Int).tdiv w_) = strd w_ from ?_]; rw [strd, if_pos hw]; have h2 := strd_pos hw; rw [strd, if_pos hw] at h2; exact w64 (by omega) (by omega), hs⟩
set_option maxRecDepth 100000 in
theorem strNext_walk (H : List SP) (p w_ : Int) (hp : 0 ≤ p ∧ p ≤ 1099511627776) (hw : isW w_ = true) : ∀ w, Sat w H → Calls Tryz.prog 58 #[.int .i64 p, .int .i64 w_] w (Ret (ι := Unit) (fun _ => .int .i64 (p + strd w_)) fun _ => H) := by
  refine enterG (fn := Tryz.f58) 9 [.int .i64 p, .int .i64 w_] Tryz.func58 (by kernel_rfl) (by kernel_rfl) (by kernel_rfl) ?_
  refine seqR (by kernel_rfl) ?_
  refine regionR 1 (by kernel_rfl) (by kernel_rfl) ?_
  refine (run0 (z := 0) 1 [0, 1, 4] [(0, .int .i64 p), (1, .int .i64 w_), (4, .int .i64 0)] (fun _ => by kernel_rfl) (endR ?_) : RT _ _ _ _ _ _ 1 _)
  refine seqR (by kernel_rfl) ?_
  refine regionR 5 (by kernel_rfl) (by kernel_rfl) ?_
  refine (run0 (z := 3) 2 [4, 5, 6] [(4, .int .i64 0), (5, .int .i64 p), (6, .int .i64 w_)] (fun _ => by kernel_rfl) ?_ : RT _ _ _ _ _ _ 5 _)
  refine (stepR (z := 2) (callS 74 [.int .i64 w_] (some 7) (fun _ => .int .i64 (strd w_)) (fun (_ : Unit) => (H)) (fun _ => by kernel_rfl) (strOf_walk _ w_)) (fun _ => ?_) : RT _ _ _ _ _ _ 3 _)
  refine (run0 (z := 0) 2 [4] [(4, .int .i64 (IntKind.i64.wrap (p + (strd w_))))] (fun _ => by kernel_rfl) (endR ?_) : RT _ _ _ _ _ _ 2 _)
  refine retR (by kernel_rfl) ?_
  have h2 := strd_pos hw
  refine done0 (.int .i64 (IntKind.i64.wrap (p + (strd w_)))) (fun _ => by kernel_rfl) (fun w hs => ?_) .ret (.inr rfl)
  exact ⟨(), by rw [w64 (by omega) (by omega)], hs⟩
set_option maxRecDepth 100000 in
theorem pair_walk (H : List SP) (a b : Int) : ∀ w, Sat w H → Calls Tryz.prog 66 #[.int .i64 a, .int .i64 b] w (Ret (ι := Unit) (fun _ => .complex .f64 (floatOfInt .f64 a) (floatOfInt .f64 b)) fun _ => H) := by
  refine enterG (fn := Tryz.f66) 10 [.int .i64 a, .int .i64 b] Tryz.func66 (by kernel_rfl) (by kernel_rfl) (by kernel_rfl) ?_
  refine seqR (by kernel_rfl) ?_
  refine regionR 1 (by kernel_rfl) (by kernel_rfl) ?_
  refine (run0 (z := 0) 1 [0, 1, 4] [(0, .int .i64 a), (1, .int .i64 b), (4, .complex .f64 0 0)] (fun _ => by kernel_rfl) (endR ?_) : RT _ _ _ _ _ _ 1 _)
  refine seqR (by kernel_rfl) ?_
  refine regionR 6 (by kernel_rfl) (by kernel_rfl) ?_
  refine (run0 (z := 0) 6 [4] [(4, .complex .f64 (floatOfInt .f64 a) (floatOfInt .f64 b))] (fun _ => by kernel_rfl) (endR ?_) : RT _ _ _ _ _ _ 6 _)
  refine retR (by kernel_rfl) ?_
  refine done0 (.complex .f64 (floatOfInt .f64 a) (floatOfInt .f64 b)) (fun _ => by kernel_rfl) (fun w hs => ?_) .ret (.inr rfl)
  exact ⟨(), rfl, hs⟩
set_option maxRecDepth 100000 in
theorem later_walk (H : List SP) (a b : Int) (ha : a.natAbs < 2 ^ 53) (hb : b.natAbs < 2 ^ 53) : ∀ w, Sat w H → Calls Tryz.prog 65 #[.complex .f64 (floatOfInt .f64 a) (floatOfInt .f64 b)] w (Ret (ι := Unit) (fun _ => .int .i64 (mxI a b)) fun _ => H) := by
  refine enterG (fn := Tryz.f65) 9 [.complex .f64 (floatOfInt .f64 a) (floatOfInt .f64 b)] Tryz.func65 (by kernel_rfl) (by kernel_rfl) (by kernel_rfl) ?_
  refine seqR (by kernel_rfl) ?_
  refine regionR 1 (by kernel_rfl) (by kernel_rfl) ?_
  refine (run0 (z := 0) 1 [0, 2] [(0, .complex .f64 (floatOfInt .f64 a) (floatOfInt .f64 b)), (2, .int .i64 0)] (fun _ => by kernel_rfl) (endR ?_) : RT _ _ _ _ _ _ 1 _)
  refine seqR (by kernel_rfl) ?_
  refine regionR 7 (by kernel_rfl) (by kernel_rfl) ?_
  refine (run0 (z := 3) 4 [2, 4, 6] [(2, .int .i64 0), (4, .float .f64 (floatOfInt .f64 a)), (6, .float .f64 (floatOfInt .f64 b))] (fun _ => by kernel_rfl) ?_ : RT _ _ _ _ _ _ 7 _)
  refine (stepR (z := 2) (yldS (bltY .max (.tmp 4) (.tmp 6) #[141, 141] (.float .f64 (floatOfInt .f64 a)) (.float .f64 (floatOfInt .f64 b)) (.float .f64 (floatOfInt .f64 (mxI a b))) (some 7) (fun _ => by kernel_rfl) (by kernel_rfl) (by kernel_rfl) (fun _ => by kernel_rfl) (fun _ => by kernel_rfl) (max_flt (by omega) (by omega)))) (fun _ => ?_) : RT _ _ _ _ _ _ 3 _)
  refine (stepR (z := 1) (yldS (cvtY 141 3 (.tmp 7) (.float .f64 (floatOfInt .f64 (mxI a b))) (.int .i64 (mxI a b)) (some 8) (fun _ => by kernel_rfl) (by kernel_rfl) (by kernel_rfl) (fun _ => by kernel_rfl) (cvt_int (by unfold mxI; split <;> omega)))) (fun _ => ?_) : RT _ _ _ _ _ _ 2 _)
  refine (run0 (z := 0) 1 [2] [(2, .int .i64 (mxI a b))] (fun _ => by kernel_rfl) (endR ?_) : RT _ _ _ _ _ _ 1 _)
  refine retR (by kernel_rfl) ?_
  refine done0 (.int .i64 (mxI a b)) (fun _ => by kernel_rfl) (fun w hs => ?_) .ret (.inr rfl)
  exact ⟨(), rfl, hs⟩
end Go.Proofs.YtlhjibkkkhgonaaGreat
set_option linter.unusedVariables false
set_option linter.unusedSimpArgs false
namespace Go.Proofs.YtlhjibkkkhgonaaGreat
open Go.RowKit G
def idxL (l : List Int) (id : Int) : Int := match l.findIdx? (fun e => e == id) with | none => -1 | some i => (i : Int)
theorem idxL_none {l : List Int} {id : Int} (h : ∀ e ∈ l, e ≠ id) : idxL l id = -1 := by
  rw [idxL, List.findIdx?_eq_none_iff.2 fun e he => by simpa using h e he]
theorem idxL_some {l : List Int} {id : Int} {i : Nat} (he : l[i]? = some id) (hno : ∀ v e, v < i → l[v]? = some e → e ≠ id) : idxL l id = i := by
  have : l.findIdx? (fun e => e == id) = some i := by
    obtain ⟨hi, rfl⟩ := List.getElem?_eq_some_iff.1 he
    refine List.findIdx?_eq_some_iff_getElem.2 ⟨hi, by simp, fun j hj => ?_⟩
    simpa using hno j l[j] hj (List.getElem?_eq_getElem _)
  rw [idxL, this]
theorem idxL_has (l : List Int) (id : Int) : decide (idxL l id ≥ 0) = l.contains id := by
  unfold idxL
  cases h : l.findIdx? (fun e => e == id) with
  | none =>
    have := List.findIdx?_eq_none_iff.1 h
    have h2 : l.contains id = false := by
      cases c : l.contains id with
      | false => rfl
      | true => have := this id (by simpa using c); simp at this
    rw [h2]; rfl
  | some i =>
    obtain ⟨h1, h2, _⟩ := List.findIdx?_eq_some_iff_getElem.1 h
    have h3 : l.contains id = true := by
      have : l[i] = id := by simpa using h2
      simp only [List.contains_iff_mem]
      exact this ▸ List.getElem_mem h1
    rw [h3]; simp
set_option maxRecDepth 100000 in
theorem idxL_walk (H : List SP) (s : SV Int) (hk : KR H (kE .i64) s) (hl : s.l.length ≤ 1000000) (id : Int) : ∀ w, Sat w H → Calls Tryz.prog 84 #[.slice s.a s.l.length s.c, .int .i64 id] w (Ret (ι := Unit) (fun _ => .int .i64 (idxL s.l id)) fun _ => H) := by
  refine enterG (fn := Tryz.f84) 19 [.slice s.a s.l.length s.c, .int .i64 id] Tryz.func84 (by kernel_rfl) (by kernel_rfl) (by kernel_rfl) ?_
  refine seqR (by kernel_rfl) ?_
  refine regionR 1 (by kernel_rfl) (by kernel_rfl) ?_
  refine (run0 (z := 0) 1 [0, 1, 4] [(0, .slice s.a s.l.length s.c), (1, .int .i64 id), (4, .int .i64 0)] (fun _ => by kernel_rfl) (endR ?_) : RT _ _ _ _ _ _ 1 _)
  refine seqR (by kernel_rfl) ?_
  refine seqR (by kernel_rfl) ?_
  refine regionR 3 (by kernel_rfl) (by kernel_rfl) ?_
  refine (run0 (z := 0) 3 [0, 1, 4, 7, 8] [(0, .slice s.a s.l.length s.c), (1, .int .i64 id), (4, .int .i64 0), (7, .int .i64 (s.l.length : Int)), (8, .int .i64 0)] (fun _ => by kernel_rfl) (endR ?_) : RT _ _ _ _ _ _ 3 _)
  refine blockR 0 (by kernel_rfl) (by kernel_rfl) ?_
  refine PT.keep (L' := [(0, .slice s.a s.l.length s.c), (1, .int .i64 id), (7, .int .i64 (s.l.length : Int)), (8, .int .i64 0)]) [0, 1, 7, 8] rfl ?_
  refine loopG (fun (v : Nat) => [(0, .slice s.a s.l.length s.c), (1, .int .i64 id), (7, .int .i64 (s.l.length : Int)), (8, .int .i64 (v : Int))]) (fun (v : Nat) => (H)) (fun k (v : Nat) => k + v = s.l.length ∧ ∀ u e, u < v → s.l[u]? = some e → e ≠ id) s.l.length 0 (by kernel_rfl) ⟨by simp, fun u e h => by omega⟩ ?_
  rintro k v ⟨hkv, hno⟩
  refine seqR (by kernel_rfl) ?_
  refine regionR 1 (by kernel_rfl) (by kernel_rfl) ?_
  refine (run0 (z := 0) 1 [0, 1, 7, 8, 9] [(0, .slice s.a s.l.length s.c), (1, .int .i64 id), (7, .int .i64 (s.l.length : Int)), (8, .int .i64 (v : Int)), (9, .bool (decide ((v : Int) < (s.l.length : Int))))] (fun _ => by kernel_rfl) (endR ?_) : RT _ _ _ _ _ _ 1 _)
  refine seqR (by kernel_rfl) ?_
  refine condR (b := decide ((v : Int) < (s.l.length : Int))) (by kernel_rfl) (fun _ => by kernel_rfl) (fun h1 => ?_) (fun h1 => ?_)
  · skip
    have hv := of_decide_eq_true h1
    obtain ⟨x, hx⟩ : ∃ x, s.l[v]? = some x := ⟨_, List.getElem?_eq_getElem (by omega)⟩
    refine PT.know ((hk).isSome (List.ne_nil_of_length_pos (by omega))) ?_
    rintro ⟨sb, so, hA'⟩
    try rw [hA']
    refine skipR (by kernel_rfl) ?_
    refine seqR (by kernel_rfl) ?_
    refine blockR 1 (by kernel_rfl) (by kernel_rfl) ?_
    refine seqR (by kernel_rfl) ?_
    refine regionR 2 (by kernel_rfl) (by kernel_rfl) ?_
    refine (run0 (z := 0) 2 [0, 1, 7, 8, 5] [(0, .slice (some ⟨sb, so, none⟩) s.l.length s.c), (1, .int .i64 id), (7, .int .i64 (s.l.length : Int)), (8, .int .i64 (v : Int)), (5, .int .i64 (v : Int))] (fun _ => by kernel_rfl) (endR ?_) : RT _ _ _ _ _ _ 2 _)
    refine seqR (by kernel_rfl) ?_
    refine regionR 6 (by kernel_rfl) (by kernel_rfl) ?_
    refine (run0 (z := 3) 3 [0, 1, 7, 8, 5, 11, 12, 13] [(0, .slice (some ⟨sb, so, none⟩) s.l.length s.c), (1, .int .i64 id), (7, .int .i64 (s.l.length : Int)), (8, .int .i64 (v : Int)), (5, .int .i64 (v : Int)), (11, .int .i64 id), (12, .slice (some ⟨sb, so, none⟩) s.l.length s.c), (13, .int .i64 (v : Int))] (fun _ => by kernel_rfl) ?_ : RT _ _ _ _ _ _ 6 _)
    refine (stepR (z := 2) (yldS (idxY 42 (.tmp 12) (.tmp 13) sb so s.l.length s.c v 1 3 (v : Int) .i64 (some 14) (fun _ => by kernel_rfl) (by kernel_rfl) (by kernel_rfl) (fun _ => by kernel_rfl) (fun _ => by kernel_rfl) Tryz.underlying42 (by kernel_rfl) (by first | rfl | assumption | simp) (by first | omega | (simp; done) | (simp; omega) | (simp at *; omega)))) (fun _ => ?_) : RT _ _ _ _ _ _ 3 _)
    refine (runR (H := (H)) (z := 0) 2 [0, 1, 7, 8, 5, 16] [(0, .slice (some ⟨sb, so, none⟩) s.l.length s.c), (1, .int .i64 id), (7, .int .i64 (s.l.length : Int)), (8, .int .i64 (v : Int)), (5, .int .i64 (v : Int)), (16, .bool (id == x))] [(⟨sb, so + v * 1, none⟩, .int .i64 x)] (hasC (hk.cell hA' (i := v) (x := x) hx (j := 0) rfl) has0) (fun _ => by kernel_rfl) (endR ?_) : RT _ _ _ _ _ _ 2 _)
    refine condR (b := id == x) (by kernel_rfl) (fun _ => by kernel_rfl) (fun h2 => ?_) (fun h2 => ?_)
    · skip
      have e2 : id = x := by simpa using h2
      refine seqR (by kernel_rfl) ?_
      refine regionR 2 (by kernel_rfl) (by kernel_rfl) ?_
      refine (run0 (z := 0) 2 [0, 1, 7, 8, 4] [(0, .slice (some ⟨sb, so, none⟩) s.l.length s.c), (1, .int .i64 id), (7, .int .i64 (s.l.length : Int)), (8, .int .i64 (v : Int)), (4, .int .i64 (v : Int))] (fun _ => by kernel_rfl) (endR ?_) : RT _ _ _ _ _ _ 2 _)
      refine retR (by kernel_rfl) ?_
      refine blockV ?_
      refine thenV ?_
      refine thenV ?_
      refine blockV ?_
      refine thenV ?_
      try rw [← hA']
      refine done0 (.int .i64 (v : Int)) (fun _ => by kernel_rfl) (fun w hs => ?_) .ret (.inr rfl)
      exact ⟨(), by rw [idxL_some (i := v) (by rw [hx, e2]) hno], hs⟩
    · skip
      have e2 : ¬ id = x := by simpa using h2
      refine skipR (by kernel_rfl) ?_
      refine regionR 2 (by kernel_rfl) (by kernel_rfl) ?_
      refine (run0 (z := 0) 2 [0, 1, 7, 8] [(0, .slice (some ⟨sb, so, none⟩) s.l.length s.c), (1, .int .i64 id), (7, .int .i64 (s.l.length : Int)), (8, .int .i64 (IntKind.i64.wrap ((v : Int) + 1)))] (fun _ => by kernel_rfl) (endR ?_) : RT _ _ _ _ _ _ 2 _)
      try rw [← hA']
      rw [show IntKind.i64.wrap ((v : Int) + 1) = ((v : Int) + 1) by rw [w64 (by omega) (by omega)]]
      refine PT.keep (L' := [(0, .slice s.a s.l.length s.c), (1, .int .i64 id), (7, .int .i64 (s.l.length : Int)), (8, .int .i64 ((v : Int) + 1))]) [0, 1, 7, 8] rfl ?_
      exact againG (k - 1) (v + 1) rfl rfl (by omega) ⟨by omega, fun u e hu he => by rcases Nat.lt_succ_iff_lt_or_eq.1 hu with hu | rfl; exact hno u e hu he; rw [hx] at he; cases he; exact fun e => e2 e.symm⟩
  · skip
    have hv : ¬ (v : Int) < s.l.length := of_decide_eq_false h1
    refine exitR 0 (by kernel_rfl) (by kernel_rfl) ?_
    refine thenX ?_
    refine thenX ?_
    refine leaveR ?_
    refine seqR (by kernel_rfl) ?_
    refine regionR 1 (by kernel_rfl) (by kernel_rfl) ?_
    refine (run0 (z := 0) 1 [4] [(4, .int .i64 (-1))] (fun _ => by kernel_rfl) (endR ?_) : RT _ _ _ _ _ _ 1 _)
    refine retR (by kernel_rfl) ?_
    refine done0 (.int .i64 (-1)) (fun _ => by kernel_rfl) (fun w hs => ?_) .ret (.inr rfl)
    exact ⟨(), by rw [idxL_none fun e he => by obtain ⟨u, hu⟩ := List.getElem?_of_mem he; exact hno u e (by have := (List.getElem?_eq_some_iff.1 hu).1; omega) hu], hs⟩
set_option maxRecDepth 100000 in
theorem contains_walk (H : List SP) (s : SV Int) (hk : KR H (kE .i64) s) (hl : s.l.length ≤ 1000000) (id : Int) : ∀ w, Sat w H → Calls Tryz.prog 70 #[.slice s.a s.l.length s.c, .int .i64 id] w (Ret (ι := Unit) (fun _ => .bool (s.l.contains id)) fun _ => H) := by
  refine enterG (fn := Tryz.f70) 9 [.slice s.a s.l.length s.c, .int .i64 id] Tryz.func70 (by kernel_rfl) (by kernel_rfl) (by kernel_rfl) ?_
  refine seqR (by kernel_rfl) ?_
  refine regionR 1 (by kernel_rfl) (by kernel_rfl) ?_
  refine (run0 (z := 0) 1 [0, 1, 4] [(0, .slice s.a s.l.length s.c), (1, .int .i64 id), (4, .bool false)] (fun _ => by kernel_rfl) (endR ?_) : RT _ _ _ _ _ _ 1 _)
  refine seqR (by kernel_rfl) ?_
  refine regionR 5 (by kernel_rfl) (by kernel_rfl) ?_
  refine (run0 (z := 3) 2 [4, 5, 6] [(4, .bool false), (5, .slice s.a s.l.length s.c), (6, .int .i64 id)] (fun _ => by kernel_rfl) ?_ : RT _ _ _ _ _ _ 5 _)
  refine (stepR (z := 2) (callS 84 [.slice s.a s.l.length s.c, .int .i64 id] (some 7) (fun _ => .int .i64 (idxL s.l id)) (fun _ => (H)) (fun _ => by kernel_rfl) (idxL_walk _ s hk hl id)) (fun _ => ?_) : RT _ _ _ _ _ _ 3 _)
  refine (run0 (z := 0) 2 [4] [(4, .bool (decide ((idxL s.l id) ≥ 0)))] (fun _ => by kernel_rfl) (endR ?_) : RT _ _ _ _ _ _ 2 _)
  refine retR (by kernel_rfl) ?_
  refine done0 (.bool (decide ((idxL s.l id) ≥ 0))) (fun _ => by kernel_rfl) (fun w hs => ?_) .ret (.inr rfl)
  exact ⟨(), by rw [← idxL_has], hs⟩
theorem delI_walk (H : List SP) (v : Value) (xs : List Int) (i : Nat) (hi : i < xs.length) (hn : xs.length ≤ 1000000000) :
    ∀ w, Sat w (row (kE .i64) 3 v xs :: H) → Calls Tryz.prog 61 #[v, .int .i64 i, .int .i64 ((i : Int) + 1)] w (Ret (ι := Option Addr × Nat) (fun p => .slice p.1 (xs.take i ++ xs.drop (i + 1)).length p.2) fun p => row (kE .i64) 3 (.slice p.1 (xs.take i ++ xs.drop (i + 1)).length p.2) (xs.take i ++ xs.drop (i + 1)) :: H) :=
  rowCall fun w F hr _ => del_in w F v xs hr i hi hn
end Go.Proofs.YtlhjibkkkhgonaaGreat
set_option linter.unusedVariables false
set_option linter.unusedSimpArgs false
namespace Go.Proofs.YtlhjibkkkhgonaaGreat
open Go.RowKit Go.Maps Go.Sort Go.Shelf G
def LyK_ren : Go.Shelf.Ren := ⟨fun | 7 => 63 | 10 => 79 | n => n, fun | 23 => 81 | 26 => 3 | 3 => 76 | 28 => 126 | 0 => 0 | 27 => 125 | 33 => 64 | 4 => 4 | n => n, fun | n => n⟩
theorem LyK : SlLaysZI.n7 Tryz.prog LyK_ren where
  mixed := by kernel_rfl
  f7 := ⟨ "maps.Keys[map[int]*tontine/tree.node,int,*tontine/tree.node]", by decide, Tryz.func63.trans (congrArg some (by kernel_rfl))⟩
  f10 := ⟨ "maps.Keys[map[int]*tontine/tree.node,int,*tontine/tree.node]$1", by decide, Tryz.func79.trans (congrArg some (by kernel_rfl))⟩
  t0 := Tryz.underlying0
  a0 := Tryz.isAgg0
  z0 := Tryz.sizeOf0
  v0 := Tryz.zeroValue0
  t4 := Tryz.underlying4
  a4 := Tryz.isAgg4
  z4 := Tryz.sizeOf4
  v4 := Tryz.zeroValue4
  t23 := Tryz.underlying81
  a23 := Tryz.isAgg81
  z23 := Tryz.sizeOf81
  v23 := Tryz.zeroValue81
  t26 := Tryz.underlying3
  a26 := Tryz.isAgg3
  z26 := Tryz.sizeOf3
  v26 := Tryz.zeroValue3
  t27 := Tryz.underlying125
  a27 := Tryz.isAgg125
  z27 := Tryz.sizeOf125
  v27 := Tryz.zeroValue125
  t28 := Tryz.underlying126
  a28 := Tryz.isAgg126
  z28 := Tryz.sizeOf126
  v28 := Tryz.zeroValue126
  t33 := Tryz.underlying64
  a33 := Tryz.isAgg64
  z33 := Tryz.sizeOf64
  v33 := Tryz.zeroValue64
def LyO_ren : Go.Shelf.Ren := ⟨fun | 6 => 62 | 8 => 77 | 9 => 78 | 11 => 88 | 13 => 90 | 12 => 89 | 23 => 106 | 24 => 107 | 14 => 97 | 15 => 98 | 16 => 99 | 17 => 100 | 18 => 101 | 19 => 102 | 20 => 103 | 21 => 104 | 22 => 105 | 25 => 119 | 26 => 120 | 27 => 121 | 28 => 122 | 29 => 123 | 30 => 118 | 31 => 128 | n => n, fun | 26 => 3 | 28 => 126 | 24 => 42 | 0 => 0 | 3 => 3 | 37 => 150 | 48 => 165 | 50 => 167 | 4 => 4 | 40 => 158 | 39 => 157 | 45 => 33 | 5 => 5 | 9 => 9 | 51 => 175 | 55 => 179 | 57 => 183 | 58 => 184 | 33 => 64 | n => n, fun | n => n⟩
theorem LyO : SlLaysZI.n6 Tryz.prog LyO_ren where
  mixed := by kernel_rfl
  f6 := ⟨ "slices.Sorted[int]", by decide, Tryz.func62.trans (congrArg some (by kernel_rfl))⟩
  f8 := ⟨ "slices.Collect[int]", by decide, Tryz.func77.trans (congrArg some (by kernel_rfl))⟩
  f11 := ⟨ "slices.AppendSeq[[]int,int]", by decide, Tryz.func88.trans (congrArg some (by kernel_rfl))⟩
  t0 := Tryz.underlying0
  a0 := Tryz.isAgg0
  z0 := Tryz.sizeOf0
  v0 := Tryz.zeroValue0
  t24 := Tryz.underlying42
  a24 := Tryz.isAgg42
  z24 := Tryz.sizeOf42
  v24 := Tryz.zeroValue42
  t26 := Tryz.underlying3
  a26 := Tryz.isAgg3
  z26 := Tryz.sizeOf3
  v26 := Tryz.zeroValue3
  t28 := Tryz.underlying126
  a28 := Tryz.isAgg126
  z28 := Tryz.sizeOf126
  v28 := Tryz.zeroValue126
  i26 := by kernel_rfl
def LyQ_ren : Go.Shelf.Ren := ⟨fun | 5 => 78 | 8 => 90 | 7 => 89 | 19 => 106 | 20 => 107 | 10 => 97 | 11 => 98 | 12 => 99 | 13 => 100 | 14 => 101 | 15 => 102 | 16 => 103 | 17 => 104 | 18 => 105 | 30 => 119 | 31 => 120 | 32 => 121 | 33 => 122 | 34 => 123 | 35 => 118 | 40 => 128 | n => n, fun | 23 => 42 | 25 => 3 | 3 => 3 | 32 => 150 | 22 => 42 | 0 => 0 | 44 => 165 | 46 => 167 | 4 => 4 | 36 => 158 | 35 => 157 | 41 => 33 | 5 => 5 | 9 => 9 | 53 => 175 | 57 => 179 | 63 => 183 | 64 => 184 | n => n, fun | n => n⟩
theorem LyQ : SlLaysM.n5 Tryz.prog LyQ_ren where
  mixed := by kernel_rfl
  f5 := ⟨ "slices.Sort[[]int,int]", by decide, Tryz.func78.trans (congrArg some (by kernel_rfl))⟩
  f7 := ⟨ "slices.pdqsortOrdered[int]", by decide, Tryz.func89.trans (congrArg some (by kernel_rfl))⟩
  f8 := Tryz.func90.trans (congrArg some (by kernel_rfl))
  f10 := ⟨ "slices.insertionSortOrdered[int]", by decide, Tryz.func97.trans (congrArg some (by kernel_rfl))⟩
  f11 := ⟨ "slices.heapSortOrdered[int]", by decide, Tryz.func98.trans (congrArg some (by kernel_rfl))⟩
  f12 := ⟨ "slices.breakPatternsOrdered[int]", by decide, Tryz.func99.trans (congrArg some (by kernel_rfl))⟩
  f13 := ⟨ "slices.choosePivotOrdered[int]", by decide, Tryz.func100.trans (congrArg some (by kernel_rfl))⟩
  f14 := ⟨ "slices.reverseRangeOrdered[int]", by decide, Tryz.func101.trans (congrArg some (by kernel_rfl))⟩
  f15 := ⟨ "slices.partialInsertionSortOrdered[int]", by decide, Tryz.func102.trans (congrArg some (by kernel_rfl))⟩
  f16 := ⟨ "cmp.Less[int]", by decide, Tryz.func103.trans (congrArg some (by kernel_rfl))⟩
  f17 := ⟨ "slices.partitionEqualOrdered[int]", by decide, Tryz.func104.trans (congrArg some (by kernel_rfl))⟩
  f18 := ⟨ "slices.partitionOrdered[int]", by decide, Tryz.func105.trans (congrArg some (by kernel_rfl))⟩
  f19 := Tryz.func106.trans (congrArg some (by kernel_rfl))
  f20 := Tryz.func107.trans (congrArg some (by kernel_rfl))
  f30 := ⟨ "slices.siftDownOrdered[int]", by decide, Tryz.func119.trans (congrArg some (by kernel_rfl))⟩
  f31 := Tryz.func120.trans (congrArg some (by kernel_rfl))
  f32 := Tryz.func121.trans (congrArg some (by kernel_rfl))
  f33 := ⟨ "slices.medianAdjacentOrdered[int]", by decide, Tryz.func122.trans (congrArg some (by kernel_rfl))⟩
  f34 := ⟨ "slices.medianOrdered[int]", by decide, Tryz.func123.trans (congrArg some (by kernel_rfl))⟩
  f35 := ⟨ "cmp.isNaN[int]", by decide, Tryz.func118.trans (congrArg some (by kernel_rfl))⟩
  f40 := ⟨ "slices.order2Ordered[int]", by decide, Tryz.func128.trans (congrArg some (by kernel_rfl))⟩
  t0 := Tryz.underlying0
  a0 := Tryz.isAgg0
  z0 := Tryz.sizeOf0
  v0 := Tryz.zeroValue0
  t3 := Tryz.underlying3
  a3 := Tryz.isAgg3
  z3 := Tryz.sizeOf3
  v3 := Tryz.zeroValue3
  t4 := Tryz.underlying4
  a4 := Tryz.isAgg4
  z4 := Tryz.sizeOf4
  v4 := Tryz.zeroValue4
  t5 := Tryz.underlying5
  a5 := Tryz.isAgg5
  z5 := Tryz.sizeOf5
  v5 := Tryz.zeroValue5
  t9 := Tryz.underlying9
  a9 := Tryz.isAgg9
  z9 := Tryz.sizeOf9
  v9 := Tryz.zeroValue9
  t22 := Tryz.underlying42
  a22 := Tryz.isAgg42
  z22 := Tryz.sizeOf42
  v22 := Tryz.zeroValue42
  t23 := Tryz.underlying42
  a23 := Tryz.isAgg42
  z23 := Tryz.sizeOf42
  v23 := Tryz.zeroValue42
  t25 := Tryz.underlying3
  a25 := Tryz.isAgg3
  z25 := Tryz.sizeOf3
  v25 := Tryz.zeroValue3
  t32 := Tryz.underlying150
  a32 := Tryz.isAgg150
  z32 := Tryz.sizeOf150
  v32 := Tryz.zeroValue150
  t35 := Tryz.underlying157
  a35 := Tryz.isAgg157
  z35 := Tryz.sizeOf157
  v35 := Tryz.zeroValue157
  t36 := Tryz.underlying158
  a36 := Tryz.isAgg158
  z36 := Tryz.sizeOf158
  v36 := Tryz.zeroValue158
  t41 := Tryz.underlying33
  a41 := Tryz.isAgg33
  z41 := Tryz.sizeOf33
  v41 := Tryz.zeroValue33
  t44 := Tryz.underlying165
  a44 := Tryz.isAgg165
  z44 := Tryz.sizeOf165
  v44 := Tryz.zeroValue165
  t46 := Tryz.underlying167
  a46 := Tryz.isAgg167
  z46 := Tryz.sizeOf167
  v46 := Tryz.zeroValue167
  t53 := Tryz.underlying175
  a53 := Tryz.isAgg175
  z53 := Tryz.sizeOf175
  v53 := Tryz.zeroValue175
  t57 := Tryz.underlying179
  a57 := Tryz.isAgg179
  z57 := Tryz.sizeOf179
  v57 := Tryz.zeroValue179
  t63 := Tryz.underlying183
  a63 := Tryz.isAgg183
  z63 := Tryz.sizeOf183
  v63 := Tryz.zeroValue183
  t64 := Tryz.underlying184
  a64 := Tryz.isAgg184
  z64 := Tryz.sizeOf184
  v64 := Tryz.zeroValue184
theorem sortsIn (m : Nat) : AnyZI.SortsIn Tryz.prog LyO_ren Fence.wide m :=
  ⟨fun blk off cap ss W hH hblk hsz => callsIn_wide.2 (AnyM.slices_Sort_int LyQ blk off cap ss W hH hblk hsz),
   fun p cap W => callsIn_wide.2 (AnyM.slices_Sort_int_none LyQ p cap W)⟩
theorem insert_perm {H : Type} (x : Lit × DataW H) : ∀ (l : List (Lit × DataW H)), (DataW.insert x l).Perm (x :: l)
  | [] => .refl _
  | y :: r => by
    unfold DataW.insert
    split
    · exact .refl _
    · exact ((insert_perm x r).cons y).trans (.swap _ _ _)
theorem foldr_insert_perm {H : Type} : ∀ (l : List (Lit × DataW H)), (l.foldr DataW.insert []).Perm l
  | [] => .refl _
  | x :: l => by
    rw [List.foldr_cons]
    exact (insert_perm x _).trans ((foldr_insert_perm l).cons x)
def noR : Value → Option (DataW Unit × List MemPlace) := fun _ => some (.nil, [])
/-- A map of numbers, as the shelf tells it. -/
theorem mapS_owns {b : Nat} {l : List (Int × Value)} {w : World} {F : Nat → Prop} (h : (mapS b l).holds w F) (hl : l.length ≤ 1000000) (hw : ∀ p ∈ l, (Lit.int .i64 p.1).wf = true) :
    ∃ D : DataW Unit, w.ownsMap Tryz.prog 3 noR b l.length D ∧ (intKeys D).Perm (l.map (·.1)) ∧ Maps.size D = l.length := by
  obtain ⟨⟨es, ck, hb, hst, he⟩, _⟩ := h
  have hlen : es.size = l.length := by simpa [mEnt] using congrArg List.length he
  have hkey : ∀ x ∈ es.toList, ∃ a : Int, x.key = .int .i64 a ∧ (Lit.int .i64 a).wf = true ∧ WideElems.rd Tryz.prog 3 noR x = some (.int .i64 a, .nil) := by
    intro x hx
    have hm : entOf x ∈ mEnt l := he ▸ List.mem_map.2 ⟨x, hx, rfl⟩
    obtain ⟨p, hp, hpe⟩ := List.mem_map.1 hm
    simp only [entOf, Prod.mk.injEq] at hpe
    refine ⟨p.1, hpe.1.symm, hw p hp, ?_⟩
    unfold WideElems.rd
    rw [← hpe.1, keyOf_int_mk Tryz.underlying3 (hw p hp)]
    rfl
  have hrg : es.toList.map (WideElems.rg Tryz.prog 3 noR) = l.map (fun p => (Lit.int .i64 p.1, DataW.nil)) := by
    have h1 : ∀ x ∈ es.toList, WideElems.rg Tryz.prog 3 noR x = (match (entOf x).1 with | .int _ a => (Lit.int .i64 a, DataW.nil) | _ => (.bool false, .nil)) := by
      intro x hx
      obtain ⟨a, ha, _, hr⟩ := hkey x hx
      unfold WideElems.rg
      rw [hr, entOf, ha]; rfl
    have h2 : es.toList.map (WideElems.rg Tryz.prog 3 noR) = (es.toList.map entOf).map (fun z => (match z.1 with | .int _ a => (Lit.int .i64 a, (DataW.nil : DataW Unit)) | _ => (.bool false, .nil))) := by
      rw [List.map_map]
      exact List.map_congr_left h1
    rw [h2, he, mEnt, List.map_map]
    rfl
  refine ⟨_, ⟨es, ck, hb, ⟨by unfold maxLen; omega, hst, fun x hx => by obtain ⟨a, _, _, hr⟩ := hkey x hx; exact ⟨_, hr⟩⟩, by omega, rfl⟩, ?_, ?_⟩
  · rw [hrg]
    show (List.map (fun p : Lit × DataW Unit => Go.intOf p.1) _).Perm _
    refine ((foldr_insert_perm _).map _).trans ?_
    rw [List.map_map]
    exact .refl _
  · rw [hrg]
    show (List.foldr DataW.insert [] _).length = _
    rw [(foldr_insert_perm _).length_eq, List.length_map]
def sortI (l : List Int) : List Int := l.mergeSort fun x y => decide (x ≤ y)
theorem sortI_perm {l l' : List Int} (h : l.Perm l') : sortI l = sortI l' := mergeSort_of_perm_i h
theorem sortI_len (l : List Int) : (sortI l).length = l.length := List.length_mergeSort l
theorem sortI_mem {l : List Int} {x : Int} : x ∈ sortI l ↔ x ∈ l := (List.mergeSort_perm l _).mem_iff
abbrev kyF : Nat := 79
theorem keys_walk (H : List SP) (mb : Nat) : ∀ w, Sat w H → Calls Tryz.prog 63 #[.map (some mb)] w (Ret (ι := Nat) (fun b => .func (.func 79) #[] #[.pointer (some ⟨b, 0, none⟩)]) fun b => blk b 81 [.map (some mb)] :: H) := by
  intro w hs
  refine ((callsIn_wide (n := 1)).1 (AnyZI.keys_in LyK Fence.wide 1 trivial rfl (some mb) w)).mono ?_
  rintro e w' ⟨rfl, rfl⟩
  exact ⟨w.heap.size, rfl, Sat.fresh hs (Upd.alloc _ _ _) (G' := fun b => b = w.heap.size) ⟨Blk.new w _ _, fun _ => Iff.rfl⟩ (fun b hb => by omega)⟩
set_option maxRecDepth 100000 in
theorem sorted_walk (H : List SP) (b mb : Nat) (l : List (Int × Value)) (hl : l.length ≤ 1000000) (hwf : ∀ p ∈ l, (Lit.int .i64 p.1).wf = true) : ∀ w, Sat w (blk b 81 [.map (some mb)] :: mapS mb l :: H) → Calls Tryz.prog 62 #[.func (.func 79) #[] #[.pointer (some ⟨b, 0, none⟩)]] w
    (Ret (ι := Option Addr × Nat) (fun x => .slice x.1 (sortI (l.map (·.1))).length x.2) fun x => row intE 3 (.slice x.1 (sortI (l.map (·.1))).length x.2) (sortI (l.map (·.1))) :: blk b 81 [.map (some mb)] :: mapS mb l :: H) := by
  intro w hs
  obtain ⟨G1, ⟨hb, _⟩⟩ := hs.head
  obtain ⟨G2, hm⟩ := hs.tail.head
  obtain ⟨D, hown, hperm, hsize⟩ := mapS_owns hm hl hwf
  have hbl : b < w.heap.size := hb.lt
  have hcell : w.cell? ⟨b, 0, none⟩ = some (.map (some mb)) := hb.cell 0
  have hseq : SeqGives Fence.wide 2 Tryz.prog 79 #[.pointer (some ⟨b, 0, none⟩)] encZ (fun ss => ss.Perm (intKeys D)) (Maps.size D) w :=
    AnyZI.keys_gives (ρ := LyK_ren) { LyK with } Fence.wide _ trivial rfl (by omega) b mb l.length D w hbl hcell hown
  have cS := AnyZI.sorted_in LyO Fence.wide 5 trivial trivial trivial trivial rfl (by omega) (sortsIn _) (enters_of Tryz.func78 (by kernel_rfl) rfl) 79 #[.pointer (some ⟨b, 0, none⟩)] trivial (enters_of Tryz.func79 (by kernel_rfl) rfl) _ _ (by rw [hsize]; unfold maxLen; omega) (by rw [hsize]; omega) _ hseq
  refine (callsIn_wide.1 cS).mono ?_
  rintro e w' ⟨v, ss, rfl, hS, hrow, hnil, hbel⟩
  have hsort : ss.mergeSort (fun x y => decide (x ≤ y)) = sortI (l.map (·.1)) := mergeSort_of_perm_i (hS.trans hperm)
  have hlen : ss.length = (sortI (l.map (·.1))).length := by rw [← hsort, List.length_mergeSort]
  rw [hsort, hlen] at hrow
  have hflat : ∀ xs : List Int, intE.flat xs = xs.map encZ := by
    intro xs
    induction xs with
    | nil => rfl
    | cons a r ih =>
      show [Value.int .i64 a] ++ intE.flat r = _
      rw [ih]; rfl
  have hu : Upd NoB w w' := Upd.ofBelow hbel
  rcases hrow.2 with ⟨rfl, hz⟩ | ⟨g, cap, cur, rfl, hbase, hgb, r1, r2, r3, r4⟩
  · have h0 : sortI (l.map (·.1)) = [] := List.eq_nil_of_length_eq_zero hz
    refine ⟨(none, 0), by rw [hz], ?_⟩
    rw [h0]
    exact Sat.fresh hs hu (G' := NoB) (.inl ⟨rfl, rfl, rfl⟩) (fun _ h => h.elim)
  · refine ⟨(some ⟨g, 0, none⟩, cap), rfl, Sat.fresh hs hu (G' := OneB g) (.inr ⟨g, 0, cap, cur, rfl, rfl, hgb, r1, r2, ?_, ?_⟩) (fun b' hb' => by cases hb'; exact hbase)⟩
    · rw [r3]; show 0 + cap * 1 ≤ cap * 1; omega
    · rw [List.drop_zero, hflat]; exact r4
end Go.Proofs.YtlhjibkkkhgonaaGreat
set_option linter.unusedVariables false
set_option linter.unusedSimpArgs false
namespace Go.Proofs.YtlhjibkkkhgonaaGreat
open Go.RowKit G
def rootN : Nr := ⟨0, -1, 1, 0, false, false, 0⟩
def rootT (b ib : Nat) : Nd := ⟨rootN, [], b, ib⟩
set_option maxRecDepth 100000 in
theorem tnew_walk (H : List SP) : ∀ w, Sat w H → Calls Tryz.prog 25 #[] w (Ret (ι := Nat × Nat × Nat × Nat) (fun x => .pointer (some ⟨x.1, 0, none⟩)) fun x => blk x.1 83 [.map (some x.2.1)] :: mapS x.2.1 ([rootT x.2.2.1 x.2.2.2].map kp) :: (nodesL [rootT x.2.2.1 x.2.2.2] ++ H)) := by
  refine enterG (fn := Tryz.f25) 11 [] Tryz.func25 (by kernel_rfl) (by kernel_rfl) (by kernel_rfl) ?_
  refine seqR (by kernel_rfl) ?_
  refine regionR 1 (by kernel_rfl) (by kernel_rfl) ?_
  refine (run0 (z := 0) 1 [0] [(0, .pointer none)] (fun _ => by kernel_rfl) (endR ?_) : RT _ _ _ _ _ _ 1 _)
  refine seqR (by kernel_rfl) ?_
  refine regionR 5 (by kernel_rfl) (by kernel_rfl) ?_
  refine (run0 (z := 4) 1 [0, 2] [(0, .pointer none), (2, .agg #[.int .i64 0, .int .i64 (-1), .int .i64 1, .int .i64 0, .bool false, .bool false])] (fun _ => by kernel_rfl) ?_ : RT _ _ _ _ _ _ 5 _)
  refine (stepR (z := 3) (callS 43 [.int .i64 60] (some 3) (fun (ib : Nat) => .pointer (some ⟨ib, 0, none⟩)) (fun (ib : Nat) => (idxS ib 60 ([] : List (Int × Int)) :: H)) (fun _ => by kernel_rfl) (new_walk _ 60)) (fun (ib : Nat) => ?_) : RT _ _ _ _ _ _ 4 _)
  refine (run0 (z := 2) 1 [0, 4] [(0, .pointer none), (4, .agg #[.int .i64 0, .int .i64 (-1), .int .i64 1, .int .i64 0, .bool false, .bool false, .int .i64 0, .pointer (some ⟨ib, 0, none⟩)])] (fun _ => by kernel_rfl) ?_ : RT _ _ _ _ _ _ 3 _)
  refine (stepR (z := 1) (newS 80 [.int .i64 0, .int .i64 (-1), .int .i64 1, .int .i64 0, .bool false, .bool false, .int .i64 0, .pointer (some ⟨ib, 0, none⟩)] (some 5) (fun b => .pointer (some ⟨b, 0, none⟩)) (fun _ _ => by kernel_rfl)) (fun b1 => ?_) : RT _ _ _ _ _ _ 2 _)
  refine (run0 (z := 0) 1 [0, 1] [(0, .pointer none), (1, .pointer (some ⟨b1, 0, none⟩))] (fun _ => by kernel_rfl) (endR ?_) : RT _ _ _ _ _ _ 1 _)
  refine seqR (by kernel_rfl) ?_
  refine regionR 7 (by kernel_rfl) (by kernel_rfl) ?_
  refine (stepR (z := 6) (newMapS (some 6) (fun b => .map (some b)) (fun _ _ => by kernel_rfl)) (fun b2 => ?_) : RT _ _ _ _ _ _ 7 _)
  refine (run0 (z := 5) 1 [6, 0, 7] [(6, .map (some b2)), (0, .pointer none), (7, .pointer (some ⟨b1, 0, none⟩))] (fun _ => by kernel_rfl) ?_ : RT _ _ _ _ _ _ 6 _)
  refine (stepR (z := 4) (updS 81 (.tmp 6) (.const (.int .i64 0)) (.tmp 7) b2 0 [] (.pointer (some ⟨b1, 0, none⟩)) 3 76 (fun _ => by kernel_rfl) (by kernel_rfl) (.inr (by kernel_rfl)) (fun _ => by kernel_rfl) (fun _ => by kernel_rfl) (fun _ => by kernel_rfl) Tryz.underlying81 (by kernel_rfl) (rfl)) (fun _ => ?_) : RT _ _ _ _ _ _ 5 _)
  refine (run0 (z := 2) 2 [0, 9] [(0, .pointer none), (9, .agg #[.map (some b2)])] (fun _ => by kernel_rfl) ?_ : RT _ _ _ _ _ _ 4 _)
  refine (stepR (z := 1) (newS 83 [.map (some b2)] (some 10) (fun b => .pointer (some ⟨b, 0, none⟩)) (fun _ _ => by kernel_rfl)) (fun b3 => ?_) : RT _ _ _ _ _ _ 2 _)
  refine (run0 (z := 0) 1 [0] [(0, .pointer (some ⟨b3, 0, none⟩))] (fun _ => by kernel_rfl) (endR ?_) : RT _ _ _ _ _ _ 1 _)
  refine retR (by kernel_rfl) ?_
  refine done0 (.pointer (some ⟨b3, 0, none⟩)) (fun _ => by kernel_rfl) (fun w hs => ?_) .ret (.inr rfl)
  exact ⟨(b3, b2, b1, ib), rfl, hs⟩
theorem deepN_rk {N : List Nr} (h : SK N) {rk : Int → Nat} (hr : ∀ x ∈ N, (x.id = 0 → rk x.id = 1) ∧ (x.id ≠ 0 → rk x.id = rk x.par + 1) ∧ rk x.id ≤ 5 ∧ (x.thr = false → rk x.id ≤ 4)) :
    ∀ (f : Nat) (x : Nr), x ∈ N → rk x.id ≤ f → deepN f N x.id = rk x.id
  | 0, x, hx, hf => by
    by_cases c : x.id = 0
    · have := (hr x hx).1 c; omega
    · have := (hr x hx).2.1 c; omega
  | f + 1, x, hx, hf => by
    rw [deepN, gt_of h.nd hx]
    simp only
    by_cases c : x.id = 0
    · rw [(hr x hx).1 c, (h.rt x hx c).1]
      have : gt N (-1) = none := gt_none.2 fun y hy e => by
        by_cases c2 : y.id = 0
        · omega
        · have := (h.pa y hy c2).1; omega
      cases f with
      | zero => rfl
      | succ f => rw [deepN, this]
    · obtain ⟨_, p, hp, hpi, _⟩ := h.pa x hx c
      have h1 := (hr x hx).2.1 c
      rw [← hpi, deepN_rk h hr f p hp (by rw [hpi]; omega), h1, hpi]
theorem SK.neg {N : List Nr} (h : SK N) {k : Int} (hk : k < 0) : gt N k = none := gt_none.2 fun y hy e => by
  by_cases c2 : y.id = 0
  · omega
  · have := (h.pa y hy c2).1; omega
set_option maxRecDepth 100000 in
theorem deep_walk {N : List Nr} {T : List Nd} (hT : OkT N T) (hsk : SK N) (H : List SP) (t mb : Nat) (k0 : Int) : ∀ w, Sat w (blk t 83 [.map (some mb)] :: mapS mb (T.map kp) :: (nodesL T ++ H)) → Calls Tryz.prog 64 #[.pointer (some ⟨t, 0, none⟩), .int .i64 k0] w (Ret (ι := Unit) (fun _ => .int .i64 (deepN 6 N k0 : Int)) fun _ => blk t 83 [.map (some mb)] :: mapS mb (T.map kp) :: (nodesL T ++ H)) := by
  obtain ⟨rk, hrk⟩ := hsk.rk
  have hnd := hsk.nd
  refine enterG (fn := Tryz.f64) 27 [.pointer (some ⟨t, 0, none⟩), .int .i64 k0] Tryz.func64 (by kernel_rfl) (by kernel_rfl) (by kernel_rfl) ?_
  refine seqR (by kernel_rfl) ?_
  refine regionR 1 (by kernel_rfl) (by kernel_rfl) ?_
  refine (run0 (z := 0) 1 [0, 1, 4] [(0, .pointer (some ⟨t, 0, none⟩)), (1, .int .i64 k0), (4, .int .i64 0)] (fun _ => by kernel_rfl) (endR ?_) : RT _ _ _ _ _ _ 1 _)
  refine scopeG 0 (fun (x : Int × Nat) => [(0, .pointer (some ⟨t, 0, none⟩)), (1, .int .i64 x.1), (5, .int .i64 (x.2 : Int))]) (fun _ => (blk t 83 [.map (some mb)] :: mapS mb (T.map kp) :: (nodesL T ++ H))) (fun k (x : Int × Nat) => k + x.2 = 6 ∧ deepN 6 N k0 = x.2 + deepN k N x.1 ∧ ∀ y ∈ N, y.id = x.1 → rk y.id + x.2 ≤ 5) (by kernel_rfl) (by kernel_rfl) (by kernel_rfl) (by kernel_rfl) ?_ ?_
  · skip
    rintro k ⟨id, n⟩ ⟨hkn, hd, hb⟩ K hK
    simp only at hkn hd hb
    cases hg : gt N id with
    | none =>
      refine seqR (by kernel_rfl) ?_
      refine regionR 11 (by kernel_rfl) (by kernel_rfl) ?_
      refine (runR (H := (blk t 83 [.map (some mb)] :: mapS mb (T.map kp) :: (nodesL T ++ H))) (z := 6) 5 [0, 1, 5, 12, 13] [(0, .pointer (some ⟨t, 0, none⟩)), (1, .int .i64 id), (5, .int .i64 (n : Int)), (12, .map (some mb)), (13, .int .i64 id)] [(⟨t, 0, none⟩, .map (some mb))] (hasC (blkAt (T := 83) (cs := [.map (some mb)]) 0 rfl rfl) has0) (fun _ => by kernel_rfl) ?_ : RT _ _ _ _ _ _ 11 _)
      refine (stepR (z := 5) (yldS (lookY 81 (.tmp 12) (.tmp 13) true mb id (T.map kp) (.pointer none) (.tuple #[.pointer none, .bool false]) 3 76 (some 14) (fun _ => by kernel_rfl) (by kernel_rfl) (by kernel_rfl) (fun _ => by kernel_rfl) (fun _ => by kernel_rfl) Tryz.underlying81 (by kernel_rfl) (fun _ => by kernel_rfl) (mapAt (H := (blk t 83 [.map (some mb)] :: mapS mb (T.map kp) :: (nodesL T ++ H))) (i := 1) rfl) (by rw [lk_none hT hg]; rfl))) (fun _ => ?_) : RT _ _ _ _ _ _ 6 _)
      refine (run0 (z := 0) 5 [0, 1, 5, 6, 7] [(0, .pointer (some ⟨t, 0, none⟩)), (1, .int .i64 id), (5, .int .i64 (n : Int)), (6, .pointer none), (7, .bool false)] (fun _ => by kernel_rfl) (endR ?_) : RT _ _ _ _ _ _ 5 _)
      refine seqR (by kernel_rfl) ?_
      refine seqR (by kernel_rfl) ?_
      refine regionR 2 (by kernel_rfl) (by kernel_rfl) ?_
      refine (run0 (z := 0) 2 [0, 1, 5, 6, 18] [(0, .pointer (some ⟨t, 0, none⟩)), (1, .int .i64 id), (5, .int .i64 (n : Int)), (6, .pointer none), (18, .bool true)] (fun _ => by kernel_rfl) (endR ?_) : RT _ _ _ _ _ _ 2 _)
      refine condR (b := true) (by kernel_rfl) (fun _ => by kernel_rfl) (fun _ => ?_) (fun h => by cases h)
      refine seqR (by kernel_rfl) ?_
      refine regionR 2 (by kernel_rfl) (by kernel_rfl) ?_
      refine (run0 (z := 0) 2 [0, 1, 5, 6, 4] [(0, .pointer (some ⟨t, 0, none⟩)), (1, .int .i64 id), (5, .int .i64 (n : Int)), (6, .pointer none), (4, .int .i64 (n : Int))] (fun _ => by kernel_rfl) (endR ?_) : RT _ _ _ _ _ _ 2 _)
      refine retR (by kernel_rfl) ?_
      refine thenV ?_
      refine jumpV ?_
      have hz : deepN k N id = 0 := by cases k <;> simp [deepN, hg]
      refine done0 (.int .i64 (n : Int)) (fun _ => by kernel_rfl) (fun w hs => ?_) .ret (.inr rfl)
      exact ⟨(), by rw [hd, hz]; rfl, hs⟩
    | some y =>
      obtain ⟨i, z, hi, hzn, hzk⟩ := hT.get hg
      have hy := gt_mem hg
      have hr1 := hrk y hy.1
      have hb1 := hb y hy.1 hy.2
      refine seqR (by kernel_rfl) ?_
      refine regionR 11 (by kernel_rfl) (by kernel_rfl) ?_
      refine (runR (H := (blk t 83 [.map (some mb)] :: mapS mb (T.map kp) :: (nodesL T ++ H))) (z := 6) 5 [0, 1, 5, 12, 13] [(0, .pointer (some ⟨t, 0, none⟩)), (1, .int .i64 id), (5, .int .i64 (n : Int)), (12, .map (some mb)), (13, .int .i64 id)] [(⟨t, 0, none⟩, .map (some mb))] (hasC (blkAt (T := 83) (cs := [.map (some mb)]) 0 rfl rfl) has0) (fun _ => by kernel_rfl) ?_ : RT _ _ _ _ _ _ 11 _)
      refine (stepR (z := 5) (yldS (lookY 81 (.tmp 12) (.tmp 13) true mb id (T.map kp) (.pointer none) (.tuple #[.pointer (some ⟨z.b, 0, none⟩), .bool true]) 3 76 (some 14) (fun _ => by kernel_rfl) (by kernel_rfl) (by kernel_rfl) (fun _ => by kernel_rfl) (fun _ => by kernel_rfl) Tryz.underlying81 (by kernel_rfl) (fun _ => by kernel_rfl) (mapAt (H := (blk t 83 [.map (some mb)] :: mapS mb (T.map kp) :: (nodesL T ++ H))) (i := 1) rfl) (by rw [lk_some hT hnd hi hzk]; rfl))) (fun _ => ?_) : RT _ _ _ _ _ _ 6 _)
      refine (run0 (z := 0) 5 [0, 1, 5, 6, 7] [(0, .pointer (some ⟨t, 0, none⟩)), (1, .int .i64 id), (5, .int .i64 (n : Int)), (6, .pointer (some ⟨z.b, 0, none⟩)), (7, .bool true)] (fun _ => by kernel_rfl) (endR ?_) : RT _ _ _ _ _ _ 5 _)
      refine seqR (by kernel_rfl) ?_
      refine seqR (by kernel_rfl) ?_
      refine regionR 2 (by kernel_rfl) (by kernel_rfl) ?_
      refine (run0 (z := 0) 2 [0, 1, 5, 6, 18] [(0, .pointer (some ⟨t, 0, none⟩)), (1, .int .i64 id), (5, .int .i64 (n : Int)), (6, .pointer (some ⟨z.b, 0, none⟩)), (18, .bool false)] (fun _ => by kernel_rfl) (endR ?_) : RT _ _ _ _ _ _ 2 _)
      refine condR (b := false) (by kernel_rfl) (fun _ => by kernel_rfl) (fun h => by cases h) (fun _ => ?_)
      refine skipR (by kernel_rfl) ?_
      refine seqR (by kernel_rfl) ?_
      refine regionR 3 (by kernel_rfl) (by kernel_rfl) ?_
      refine (run0 (z := 0) 3 [0, 1, 5, 6] [(0, .pointer (some ⟨t, 0, none⟩)), (1, .int .i64 id), (5, .int .i64 (IntKind.i64.wrap ((n : Int) + 1))), (6, .pointer (some ⟨z.b, 0, none⟩))] (fun _ => by kernel_rfl) (endR ?_) : RT _ _ _ _ _ _ 3 _)
      refine seqR (by kernel_rfl) ?_
      refine regionR 6 (by kernel_rfl) (by kernel_rfl) ?_
      refine (runR (H := (blk t 83 [.map (some mb)] :: mapS mb (T.map kp) :: (nodesL T ++ H))) (z := 0) 6 [0, 1, 5] [(0, .pointer (some ⟨t, 0, none⟩)), (1, .int .i64 z.n.par), (5, .int .i64 (IntKind.i64.wrap ((n : Int) + 1)))] [(⟨z.b, 1, none⟩, .int .i64 z.n.par)] (hasC (up (up (nodeAt (T := T) (List.mem_of_getElem? hi) (j := 1) rfl))) has0) (fun _ => by kernel_rfl) (endR ?_) : RT _ _ _ _ _ _ 6 _)
      refine gotoR 0 (by kernel_rfl) (by kernel_rfl) ?_
      obtain ⟨k, rfl⟩ : ∃ k', k = k' + 1 := ⟨k - 1, by omega⟩
      have hd2 : deepN (k + 1) N id = deepN k N z.n.par + 1 := by rw [deepN, hg, hzn]
      rw [show IntKind.i64.wrap ((n : Int) + 1) = ((n + 1 : Nat) : Int) by rw [w64 (by omega) (by omega)]; rfl]
      refine PT.keep (L' := [(0, .pointer (some ⟨t, 0, none⟩)), (1, .int .i64 z.n.par), (5, .int .i64 ((n + 1 : Nat) : Int))]) [0, 1, 5] rfl ?_
      exact jumpR (hK k (z.n.par, n + 1) (by omega) ⟨by simp only; omega, by simp only; rw [hd, hd2]; omega, fun p hp hpi => by simp only at hpi ⊢; rw [hzn] at hpi; by_cases c : y.id = 0; (have := (hsk.rt y hy.1 c).1; have h3 : gt N p.id = none := hsk.neg (by omega); rw [gt_of hnd hp] at h3; cases h3); (have := hr1.2.1 c; rw [hpi]; omega)⟩)
  · skip
    intro K hK
    refine seqR (by kernel_rfl) ?_
    refine regionR 1 (by kernel_rfl) (by kernel_rfl) ?_
    refine (run0 (z := 0) 1 [0, 1, 4, 5] [(0, .pointer (some ⟨t, 0, none⟩)), (1, .int .i64 k0), (4, .int .i64 0), (5, .int .i64 0)] (fun _ => by kernel_rfl) (endR ?_) : RT _ _ _ _ _ _ 1 _)
    refine seqR (by kernel_rfl) ?_
    refine labelR (by kernel_rfl) ?_
    refine PT.keep (L' := [(0, .pointer (some ⟨t, 0, none⟩)), (1, .int .i64 k0), (5, .int .i64 0)]) [0, 1, 5] rfl ?_
    refine codeR (by kernel_rfl) (hK 6 (k0, 0) ⟨rfl, by simp, fun y hy _ => by have := (hrk y hy).2.2.1; simpa using this⟩)
def ndV (x : Nr) : Value := .agg #[.int .i64 x.id, .int .i64 x.par, .int .i64 x.wt, .int .i64 x.pass, .bool x.thr, .bool x.rdy]
def zeroN : Nr := ⟨0, 0, 0, 0, false, false, 0⟩
set_option maxRecDepth 100000 in
theorem node_walk {N : List Nr} {T : List Nd} (hT : OkT N T) (hnd : (N.map (·.id)).Nodup) (H : List SP) (t mb : Nat) (id : Int) : ∀ w, Sat w (blk t 83 [.map (some mb)] :: mapS mb (T.map kp) :: (nodesL T ++ H)) → Calls Tryz.prog 42 #[.pointer (some ⟨t, 0, none⟩), .int .i64 id] w (Ret (ι := Unit) (fun _ => .tuple #[ndV ((gt N id).getD zeroN), .bool (gt N id).isSome]) fun _ => blk t 83 [.map (some mb)] :: mapS mb (T.map kp) :: (nodesL T ++ H)) := by
  refine enterG (fn := Tryz.f42) 24 [.pointer (some ⟨t, 0, none⟩), .int .i64 id] Tryz.func42 (by kernel_rfl) (by kernel_rfl) (by kernel_rfl) ?_
  cases hg : gt N id with
  | none =>
    refine seqR (by kernel_rfl) ?_
    refine regionR 2 (by kernel_rfl) (by kernel_rfl) ?_
    refine (stepR (z := 1) (newS 71 [.int .i64 0, .int .i64 0, .int .i64 0, .int .i64 0, .bool false, .bool false] (some 4) (fun b => .pointer (some ⟨b, 0, none⟩)) (fun _ _ => by kernel_rfl)) (fun b1 => ?_) : RT _ _ _ _ _ _ 2 _)
    refine (run0 (z := 0) 1 [4, 0, 1, 5] [(4, .pointer (some ⟨b1, 0, none⟩)), (0, .pointer (some ⟨t, 0, none⟩)), (1, .int .i64 id), (5, .bool false)] (fun _ => by kernel_rfl) (endR ?_) : RT _ _ _ _ _ _ 1 _)
    refine seqR (by kernel_rfl) ?_
    refine regionR 11 (by kernel_rfl) (by kernel_rfl) ?_
    refine (runR (H := (blk b1 71 [.int .i64 0, .int .i64 0, .int .i64 0, .int .i64 0, .bool false, .bool false] :: blk t 83 [.map (some mb)] :: mapS mb (T.map kp) :: (nodesL T ++ H))) (z := 6) 5 [4, 5, 12, 13] [(4, .pointer (some ⟨b1, 0, none⟩)), (5, .bool false), (12, .map (some mb)), (13, .int .i64 id)] [(⟨t, 0, none⟩, .map (some mb))] (hasC (blkAt (T := 83) (cs := [.map (some mb)]) 1 rfl rfl) has0) (fun _ => by kernel_rfl) ?_ : RT _ _ _ _ _ _ 11 _)
    refine (stepR (z := 5) (yldS (lookY 81 (.tmp 12) (.tmp 13) true mb id (T.map kp) (.pointer none) (.tuple #[.pointer none, .bool false]) 3 76 (some 14) (fun _ => by kernel_rfl) (by kernel_rfl) (by kernel_rfl) (fun _ => by kernel_rfl) (fun _ => by kernel_rfl) Tryz.underlying81 (by kernel_rfl) (fun _ => by kernel_rfl) (mapAt (H := (blk b1 71 [.int .i64 0, .int .i64 0, .int .i64 0, .int .i64 0, .bool false, .bool false] :: blk t 83 [.map (some mb)] :: mapS mb (T.map kp) :: (nodesL T ++ H))) (i := 2) rfl) (by rw [lk_none hT hg]; rfl))) (fun _ => ?_) : RT _ _ _ _ _ _ 6 _)
    refine (run0 (z := 0) 5 [4, 5, 6, 7] [(4, .pointer (some ⟨b1, 0, none⟩)), (5, .bool false), (6, .pointer none), (7, .bool false)] (fun _ => by kernel_rfl) (endR ?_) : RT _ _ _ _ _ _ 5 _)
    refine seqR (by kernel_rfl) ?_
    refine seqR (by kernel_rfl) ?_
    refine regionR 2 (by kernel_rfl) (by kernel_rfl) ?_
    refine (run0 (z := 0) 2 [4, 5, 6, 18] [(4, .pointer (some ⟨b1, 0, none⟩)), (5, .bool false), (6, .pointer none), (18, .bool true)] (fun _ => by kernel_rfl) (endR ?_) : RT _ _ _ _ _ _ 2 _)
    refine condR (b := true) (by kernel_rfl) (fun _ => by kernel_rfl) (fun _ => ?_) (fun h => by cases h)
    refine seqR (by kernel_rfl) ?_
    refine regionR 3 (by kernel_rfl) (by kernel_rfl) ?_
    refine (run0 (z := 2) 1 [4, 5, 6, 19] [(4, .pointer (some ⟨b1, 0, none⟩)), (5, .bool false), (6, .pointer none), (19, .agg #[.int .i64 0, .int .i64 0, .int .i64 0, .int .i64 0, .bool false, .bool false])] (fun _ => by kernel_rfl) ?_ : RT _ _ _ _ _ _ 3 _)
    refine (stepR (z := 1) (storeS [(0, .int .i64 0), (1, .int .i64 0), (2, .int .i64 0), (3, .int .i64 0), (4, .bool false), (5, .bool false)] [.int .i64 0, .int .i64 0, .int .i64 0, .int .i64 0, .bool false, .bool false] (fun _ => by kernel_rfl) (by kernel_rfl) (by kernel_rfl)) (fun _ => ?_) : RT _ _ _ _ _ _ 2 _)
    refine (run0 (z := 0) 1 [4, 5, 6] [(4, .pointer (some ⟨b1, 0, none⟩)), (5, .bool false), (6, .pointer none)] (fun _ => by kernel_rfl) (endR ?_) : RT _ _ _ _ _ _ 1 _)
    refine retR (by kernel_rfl) ?_
    refine thenV ?_
    refine doneG (.tuple #[.agg #[.int .i64 0, .int .i64 0, .int .i64 0, .int .i64 0, .bool false, .bool false], .bool false]) [(⟨b1, 0, none⟩, .int .i64 0), (⟨b1, 1, none⟩, .int .i64 0), (⟨b1, 2, none⟩, .int .i64 0), (⟨b1, 3, none⟩, .int .i64 0), (⟨b1, 4, none⟩, .bool false), (⟨b1, 5, none⟩, .bool false)] (hasC (blkAt (T := 71) (cs := [.int .i64 0, .int .i64 0, .int .i64 0, .int .i64 0, .bool false, .bool false]) 0 rfl rfl) (hasC (blkAt (T := 71) (cs := [.int .i64 0, .int .i64 0, .int .i64 0, .int .i64 0, .bool false, .bool false]) 0 rfl rfl) (hasC (blkAt (T := 71) (cs := [.int .i64 0, .int .i64 0, .int .i64 0, .int .i64 0, .bool false, .bool false]) 0 rfl rfl) (hasC (blkAt (T := 71) (cs := [.int .i64 0, .int .i64 0, .int .i64 0, .int .i64 0, .bool false, .bool false]) 0 rfl rfl) (hasC (blkAt (T := 71) (cs := [.int .i64 0, .int .i64 0, .int .i64 0, .int .i64 0, .bool false, .bool false]) 0 rfl rfl) (hasC (blkAt (T := 71) (cs := [.int .i64 0, .int .i64 0, .int .i64 0, .int .i64 0, .bool false, .bool false]) 0 rfl rfl) has0)))))) (fun _ => by kernel_rfl) (fun w hs => ?_) .ret (.inr rfl)
    exact ⟨(), rfl, hs.tail⟩
  | some y =>
    obtain ⟨i, z, hi, hzn, hzk⟩ := hT.get hg
    refine seqR (by kernel_rfl) ?_
    refine regionR 2 (by kernel_rfl) (by kernel_rfl) ?_
    refine (stepR (z := 1) (newS 71 [.int .i64 0, .int .i64 0, .int .i64 0, .int .i64 0, .bool false, .bool false] (some 4) (fun b => .pointer (some ⟨b, 0, none⟩)) (fun _ _ => by kernel_rfl)) (fun b1 => ?_) : RT _ _ _ _ _ _ 2 _)
    refine (run0 (z := 0) 1 [4, 0, 1, 5] [(4, .pointer (some ⟨b1, 0, none⟩)), (0, .pointer (some ⟨t, 0, none⟩)), (1, .int .i64 id), (5, .bool false)] (fun _ => by kernel_rfl) (endR ?_) : RT _ _ _ _ _ _ 1 _)
    refine seqR (by kernel_rfl) ?_
    refine regionR 11 (by kernel_rfl) (by kernel_rfl) ?_
    refine (runR (H := (blk b1 71 [.int .i64 0, .int .i64 0, .int .i64 0, .int .i64 0, .bool false, .bool false] :: blk t 83 [.map (some mb)] :: mapS mb (T.map kp) :: (nodesL T ++ H))) (z := 6) 5 [4, 5, 12, 13] [(4, .pointer (some ⟨b1, 0, none⟩)), (5, .bool false), (12, .map (some mb)), (13, .int .i64 id)] [(⟨t, 0, none⟩, .map (some mb))] (hasC (blkAt (T := 83) (cs := [.map (some mb)]) 1 rfl rfl) has0) (fun _ => by kernel_rfl) ?_ : RT _ _ _ _ _ _ 11 _)
    refine (stepR (z := 5) (yldS (lookY 81 (.tmp 12) (.tmp 13) true mb id (T.map kp) (.pointer none) (.tuple #[.pointer (some ⟨z.b, 0, none⟩), .bool true]) 3 76 (some 14) (fun _ => by kernel_rfl) (by kernel_rfl) (by kernel_rfl) (fun _ => by kernel_rfl) (fun _ => by kernel_rfl) Tryz.underlying81 (by kernel_rfl) (fun _ => by kernel_rfl) (mapAt (H := (blk b1 71 [.int .i64 0, .int .i64 0, .int .i64 0, .int .i64 0, .bool false, .bool false] :: blk t 83 [.map (some mb)] :: mapS mb (T.map kp) :: (nodesL T ++ H))) (i := 2) rfl) (by rw [lk_some hT hnd hi hzk]; rfl))) (fun _ => ?_) : RT _ _ _ _ _ _ 6 _)
    refine (run0 (z := 0) 5 [4, 5, 6, 7] [(4, .pointer (some ⟨b1, 0, none⟩)), (5, .bool false), (6, .pointer (some ⟨z.b, 0, none⟩)), (7, .bool true)] (fun _ => by kernel_rfl) (endR ?_) : RT _ _ _ _ _ _ 5 _)
    refine seqR (by kernel_rfl) ?_
    refine seqR (by kernel_rfl) ?_
    refine regionR 2 (by kernel_rfl) (by kernel_rfl) ?_
    refine (run0 (z := 0) 2 [4, 5, 6, 18] [(4, .pointer (some ⟨b1, 0, none⟩)), (5, .bool false), (6, .pointer (some ⟨z.b, 0, none⟩)), (18, .bool false)] (fun _ => by kernel_rfl) (endR ?_) : RT _ _ _ _ _ _ 2 _)
    refine condR (b := false) (by kernel_rfl) (fun _ => by kernel_rfl) (fun h => by cases h) (fun _ => ?_)
    refine skipR (by kernel_rfl) ?_
    refine seqR (by kernel_rfl) ?_
    refine regionR 6 (by kernel_rfl) (by kernel_rfl) ?_
    refine (runR (H := (blk b1 71 [.int .i64 0, .int .i64 0, .int .i64 0, .int .i64 0, .bool false, .bool false] :: blk t 83 [.map (some mb)] :: mapS mb (T.map kp) :: (nodesL T ++ H))) (z := 2) 4 [4, 5, 23] [(4, .pointer (some ⟨b1, 0, none⟩)), (5, .bool false), (23, .agg #[.int .i64 z.n.id, .int .i64 z.n.par, .int .i64 z.n.wt, .int .i64 z.n.pass, .bool z.n.thr, .bool z.n.rdy])] [(⟨z.b, 0, none⟩, .int .i64 z.n.id), (⟨z.b, 1, none⟩, .int .i64 z.n.par), (⟨z.b, 2, none⟩, .int .i64 z.n.wt), (⟨z.b, 3, none⟩, .int .i64 z.n.pass), (⟨z.b, 4, none⟩, .bool z.n.thr), (⟨z.b, 5, none⟩, .bool z.n.rdy)] (hasC (up (up (up (nodeAt (T := T) (List.mem_of_getElem? hi) (j := 0) rfl)))) (hasC (up (up (up (nodeAt (T := T) (List.mem_of_getElem? hi) (j := 1) rfl)))) (hasC (up (up (up (nodeAt (T := T) (List.mem_of_getElem? hi) (j := 2) rfl)))) (hasC (up (up (up (nodeAt (T := T) (List.mem_of_getElem? hi) (j := 3) rfl)))) (hasC (up (up (up (nodeAt (T := T) (List.mem_of_getElem? hi) (j := 4) rfl)))) (hasC (up (up (up (nodeAt (T := T) (List.mem_of_getElem? hi) (j := 5) rfl)))) has0)))))) (fun _ => by kernel_rfl) ?_ : RT _ _ _ _ _ _ 6 _)
    refine (stepR (z := 1) (storeS [(0, .int .i64 z.n.id), (1, .int .i64 z.n.par), (2, .int .i64 z.n.wt), (3, .int .i64 z.n.pass), (4, .bool z.n.thr), (5, .bool z.n.rdy)] [.int .i64 z.n.id, .int .i64 z.n.par, .int .i64 z.n.wt, .int .i64 z.n.pass, .bool z.n.thr, .bool z.n.rdy] (fun _ => by kernel_rfl) (by kernel_rfl) (by kernel_rfl)) (fun _ => ?_) : RT _ _ _ _ _ _ 2 _)
    refine (run0 (z := 0) 1 [4, 5] [(4, .pointer (some ⟨b1, 0, none⟩)), (5, .bool true)] (fun _ => by kernel_rfl) (endR ?_) : RT _ _ _ _ _ _ 1 _)
    refine retR (by kernel_rfl) ?_
    subst hzn
    refine doneG (.tuple #[.agg #[.int .i64 z.n.id, .int .i64 z.n.par, .int .i64 z.n.wt, .int .i64 z.n.pass, .bool z.n.thr, .bool z.n.rdy], .bool true]) [(⟨b1, 0, none⟩, .int .i64 z.n.id), (⟨b1, 1, none⟩, .int .i64 z.n.par), (⟨b1, 2, none⟩, .int .i64 z.n.wt), (⟨b1, 3, none⟩, .int .i64 z.n.pass), (⟨b1, 4, none⟩, .bool z.n.thr), (⟨b1, 5, none⟩, .bool z.n.rdy)] (hasC (blkAt (T := 71) (cs := [.int .i64 z.n.id, .int .i64 z.n.par, .int .i64 z.n.wt, .int .i64 z.n.pass, .bool z.n.thr, .bool z.n.rdy]) 0 rfl rfl) (hasC (blkAt (T := 71) (cs := [.int .i64 z.n.id, .int .i64 z.n.par, .int .i64 z.n.wt, .int .i64 z.n.pass, .bool z.n.thr, .bool z.n.rdy]) 0 rfl rfl) (hasC (blkAt (T := 71) (cs := [.int .i64 z.n.id, .int .i64 z.n.par, .int .i64 z.n.wt, .int .i64 z.n.pass, .bool z.n.thr, .bool z.n.rdy]) 0 rfl rfl) (hasC (blkAt (T := 71) (cs := [.int .i64 z.n.id, .int .i64 z.n.par, .int .i64 z.n.wt, .int .i64 z.n.pass, .bool z.n.thr, .bool z.n.rdy]) 0 rfl rfl) (hasC (blkAt (T := 71) (cs := [.int .i64 z.n.id, .int .i64 z.n.par, .int .i64 z.n.wt, .int .i64 z.n.pass, .bool z.n.thr, .bool z.n.rdy]) 0 rfl rfl) (hasC (blkAt (T := 71) (cs := [.int .i64 z.n.id, .int .i64 z.n.par, .int .i64 z.n.wt, .int .i64 z.n.pass, .bool z.n.thr, .bool z.n.rdy]) 0 rfl rfl) has0)))))) (fun _ => by kernel_rfl) (fun w hs => ?_) .ret (.inr rfl)
    exact ⟨(), rfl, hs.tail⟩
end Go.Proofs.YtlhjibkkkhgonaaGreat
set_option linter.unusedVariables false
set_option linter.unusedSimpArgs false
namespace Go.Proofs.YtlhjibkkkhgonaaGreat
open Go.RowKit G
def RK (N : List Nr) (rk : Int → Nat) : Prop := ∀ x ∈ N, (x.id = 0 → rk x.id = 1) ∧ (x.id ≠ 0 → rk x.id = rk x.par + 1) ∧ rk x.id ≤ 5 ∧ (x.thr = false → rk x.id ≤ 4)
theorem RK.ups {N : List Nr} {rk : Int → Nat} (h : RK N rk) {k : Int} {f : Nr → Nr} (hf : Skel f) : RK (upN N k f) rk := fun x hx => by
  obtain ⟨y, hy, ⟨_, rfl⟩ | ⟨_, rfl⟩⟩ := mem_upN.1 hx
  · rw [hf.id, hf.par, hf.thr]; exact h y hy
  · exact h x hy
theorem RK.pos {N : List Nr} {rk : Int → Nat} (h : RK N rk) {x : Nr} (hx : x ∈ N) : 1 ≤ rk x.id := by
  by_cases c : x.id = 0
  · rw [(h x hx).1 c]; omega
  · rw [(h x hx).2.1 c]; omega
theorem RK.up {N : List Nr} {rk : Int → Nat} (hs : SK N) (h : RK N rk) {x p : Nr} (hx : x ∈ N) (hp : p ∈ N) (he : p.id = x.par) : rk x.id = rk p.id + 1 := by
  by_cases c : x.id = 0
  · have h1 := (hs.rt x hx c).1
    have h2 := hs.neg (k := p.id) (by omega)
    rw [gt_of hs.nd hp] at h2; cases h2
  · rw [(h x hx).2.1 c, he]
theorem SK.ne_par {N : List Nr} (hs : SK N) {x : Nr} (hx : x ∈ N) : x.id ≠ x.par := by
  obtain ⟨rk, h⟩ := hs.rk
  intro e
  have := RK.up hs h hx hx e
  omega
theorem SK.pos {N : List Nr} (hs : SK N) {x : Nr} (hx : x ∈ N) : 0 ≤ x.id := by
  by_cases c : x.id = 0
  · omega
  · have := (hs.pa x hx c).1; omega
/-- What an index holds: each number once; fewer than there may be. -/
theorem OkT.uni {N : List Nr} {T : List Nd} (h : OkT N T) (hs : SK N) {x : Nd} (hx : x ∈ T) {e e' : Int × Int} (he : e ∈ x.q) (he' : e' ∈ x.q) (hk : e.2 = e'.2) : e = e' := by
  obtain ⟨p, k⟩ := e
  obtain ⟨p', k'⟩ := e'
  simp only at hk; subst hk
  rw [KD_uni hs.nd ((h.mem x hx p k).1 he) ((h.mem x hx p' k).1 he')]
theorem OkT.qlen {N : List Nr} {T : List Nd} (h : OkT N T) (hs : SK N) {x : Nd} (hx : x ∈ T) : x.q.length < 60 := by
  have h1 : (x.n.id :: x.q.map (·.2)).Nodup := by
    refine List.nodup_cons.2 ⟨fun hm => ?_, ?_⟩
    · obtain ⟨⟨p, k⟩, he, hk⟩ := List.mem_map.1 hm
      obtain ⟨y, hy, h1, _, _, h4⟩ := (h.mem x hx p k).1 he
      simp only at hk
      have := hs.ne_par hy
      rw [h4, h1, hk] at this
      exact this rfl
    · refine List.pairwise_map.2 ((h.srt x hx).imp_of_mem fun {a b} ha hb hab e => ?_)
      have := h.uni hs hx ha hb e
      subst this
      exact eLt_irrefl _ hab
  have h2 : (x.n.id :: x.q.map (·.2)) ⊆ N.map (·.id) := by
    intro k hk
    rcases List.mem_cons.1 hk with rfl | hk
    · exact List.mem_map.2 ⟨x.n, h.mem_n hx, rfl⟩
    · obtain ⟨⟨p, k⟩, he, rfl⟩ := List.mem_map.1 hk
      obtain ⟨y, hy, _, _, _, h4⟩ := (h.mem x hx p k).1 he
      exact List.mem_map.2 ⟨y, hy, h4⟩
  have h3 := h1.length_le_of_subset h2
  have h4 := hs.len
  simp only [List.length_cons, List.length_map] at h3
  omega
theorem LB.ups {N : List Nr} (h : LB N) {x : Nr} (hn : (N.map (·.id)).Nodup) (hx : x ∈ N) {f : Nr → Nr} (h1 : isW (f x).wt = true) (h2 : 0 ≤ (f x).pass ∧ (f x).pass ≤ 1099511627776) (h3 : 0 ≤ (f x).now ∧ (f x).now ≤ 1099511627776) : LB (upN N x.id f) := by
  have key : ∀ y ∈ upN N x.id f, (y = f x) ∨ y ∈ N := fun y hy => by
    obtain ⟨z, hz, ⟨e, rfl⟩ | ⟨_, rfl⟩⟩ := mem_upN.1 hy
    · left; rw [nd_eq hn hz hx e]
    · exact .inr hz
  refine ⟨fun y hy => ?_, fun y hy => ?_, fun y hy => ?_⟩ <;> rcases key y hy with rfl | hy
  · exact h1
  · exact h.wt y hy
  · exact h2
  · exact h.pass y hy
  · exact h3
  · exact h.now y hy
def wkF (P : Int) (x : Nr) : Nr := { x with rdy := true, pass := mxI x.pass P }
def rsF (x : Nr) : Nr := { x with rdy := false }
def psF (P : Int) (x : Nr) : Nr := { x with pass := P }
theorem wkF_skel (P : Int) : Skel (wkF P) := ⟨fun _ => rfl, fun _ => rfl, fun _ => rfl⟩
theorem rsF_skel : Skel rsF := ⟨fun _ => rfl, fun _ => rfl, fun _ => rfl⟩
theorem psF_skel (P : Int) : Skel (psF P) := ⟨fun _ => rfl, fun _ => rfl, fun _ => rfl⟩
theorem same2 {T : List Nd} {i j : Nat} {x p x' p' : Nd} (hi : T[i]? = some x) (hj : T[j]? = some p) (hij : i ≠ j) (hx : x'.n.id = x.n.id ∧ x'.b = x.b ∧ x'.ib = x.ib) (hp : p'.n.id = p.n.id ∧ p'.b = p.b ∧ p'.ib = p.ib) : SameT T ((T.set i x').set j p') :=
  (SameT.set hi hx).trans (SameT.set (x := p) (by rw [List.getElem?_set, if_neg hij]; exact hj) hp)
/-- A round of waking. -/
theorem wake_round {N : List Nr} {T : List Nd} (hT : OkT N T) (hsk : SK N) (hlb : LB N) {i j : Nat} {x p : Nd} (hi : T[i]? = some x) (hj : T[j]? = some p) (hp : p.n.id = x.n.par) (hr : x.n.rdy = false) :
    i ≠ j ∧ putE 60 p.q (mxI x.n.pass p.n.now) x.n.id = (0, insE (mxI x.n.pass p.n.now, x.n.id) p.q) ∧ p.q.length < 1000000 ∧ SrtE p.q ∧ x.n.pass.natAbs < 2 ^ 53 ∧ p.n.now.natAbs < 2 ^ 53 ∧
    OkT (upN N x.n.id (wkF p.n.now)) ((T.set i { x with n := wkF p.n.now x.n }).set j { p with q := insE (mxI x.n.pass p.n.now, x.n.id) p.q }) ∧
    SameT T ((T.set i { x with n := wkF p.n.now x.n }).set j { p with q := insE (mxI x.n.pass p.n.now, x.n.id) p.q }) ∧ SK (upN N x.n.id (wkF p.n.now)) ∧ LB (upN N x.n.id (wkF p.n.now)) := by
  have hxT := List.mem_of_getElem? hi
  have hpT := List.mem_of_getElem? hj
  have hx := hT.mem_n hxT
  have hpn := hT.mem_n hpT
  have hij : i ≠ j := fun e => by subst e; rw [hi] at hj; cases hj; exact hsk.ne_par hx hp
  have hno : ∀ e ∈ p.q, e.2 ≠ x.n.id := fun e he hk => by
    obtain ⟨s, k⟩ := e
    simp only at hk; subst hk
    have := (KD_one hsk.nd hx).1 ((hT.mem p hpT s _).1 he)
    rw [hr] at this; cases this.2.1
  have hql := hT.qlen hsk hpT
  have h1 := hlb.pass x.n hx
  have h2 := hlb.now p.n hpn
  have hmx : 0 ≤ mxI x.n.pass p.n.now ∧ mxI x.n.pass p.n.now ≤ 1099511627776 := by unfold mxI; split <;> omega
  refine ⟨hij, putE_ok hmx (hsk.pos hx) hno (by omega), by omega, hT.srt p hpT, by omega, by omega, ?_, ?_, hsk.upN (wkF_skel _), hlb.ups hsk.nd hx (hlb.wt x.n hx) hmx (hlb.now x.n hx)⟩
  · refine hT.two hsk.nd hi hj hp hij (wkF_skel _) ((hT.srt p hpT).ins fun e he h => hno e he (by rw [h])) fun s k => ?_
    rw [mem_insE, KD_up hsk.nd hx (wkF_skel _), Prod.mk.injEq]
    show (s = mxI x.n.pass p.n.now ∧ k = x.n.id) ∨ (s, k) ∈ p.q ↔ (k ≠ x.n.id ∧ KD N p.n.id s k) ∨ (k = x.n.id ∧ x.n.par = p.n.id ∧ true = true ∧ mxI x.n.pass p.n.now = s)
    rw [hT.mem p hpT s k]
    show _ ∨ KD N p.n.id s k ↔ _
    constructor
    · rintro (⟨rfl, rfl⟩ | h)
      · exact .inr ⟨rfl, hp.symm, rfl, rfl⟩
      · exact .inl ⟨fun e => hno (s, k) ((hT.mem p hpT s k).2 h) e, h⟩
    · rintro (⟨_, h⟩ | ⟨h3, _, _, h4⟩)
      · exact .inr h
      · exact .inl ⟨h4.symm, h3⟩
  · exact same2 hi hj hij ⟨rfl, rfl, rfl⟩ ⟨rfl, rfl, rfl⟩
/-- A round of resting. -/
theorem rest_round {N : List Nr} {T : List Nd} (hT : OkT N T) (hsk : SK N) (hlb : LB N) {i j : Nat} {x p : Nd} (hi : T[i]? = some x) (hj : T[j]? = some p) (hp : p.n.id = x.n.par) (hr : x.n.rdy = true) :
    i ≠ j ∧ p.q.length < 1000000 ∧ ∃ q, dropE p.q x.n.id = (0, q) ∧ OkT (upN N x.n.id rsF) ((T.set i { x with n := rsF x.n }).set j { p with q := q }) ∧ SameT T ((T.set i { x with n := rsF x.n }).set j { p with q := q }) ∧ SK (upN N x.n.id rsF) ∧ LB (upN N x.n.id rsF) := by
  have hxT := List.mem_of_getElem? hi
  have hpT := List.mem_of_getElem? hj
  have hx := hT.mem_n hxT
  have hij : i ≠ j := fun e => by subst e; rw [hi] at hj; cases hj; exact hsk.ne_par hx hp
  have hin : (x.n.pass, x.n.id) ∈ p.q := (hT.mem p hpT _ _).2 ((KD_one hsk.nd hx).2 ⟨hp.symm, hr, rfl⟩)
  obtain ⟨q, h1, h2, _, h4⟩ := dropE_is (hT.srt p hpT) hin rfl (fun e' he' hk => hT.uni hsk hpT he' hin hk)
  have hql := hT.qlen hsk hpT
  refine ⟨hij, by omega, q, h1, ?_, same2 hi hj hij ⟨rfl, rfl, rfl⟩ ⟨rfl, rfl, rfl⟩, hsk.upN rsF_skel, hlb.ups hsk.nd hx (hlb.wt x.n hx) (hlb.pass x.n hx) (hlb.now x.n hx)⟩
  refine hT.two hsk.nd hi hj hp hij rsF_skel h2 fun s k => ?_
  rw [h4, KD_up hsk.nd hx rsF_skel, hT.mem p hpT s k]
  show KD N p.n.id s k ∧ k ≠ x.n.id ↔ (k ≠ x.n.id ∧ KD N p.n.id s k) ∨ (k = x.n.id ∧ x.n.par = p.n.id ∧ false = true ∧ x.n.pass = s)
  simp [And.comm]
/-- A ready node's other pass. -/
theorem sets_round {N : List Nr} {T : List Nd} (hT : OkT N T) (hsk : SK N) (hlb : LB N) {i j : Nat} {x p : Nd} (hi : T[i]? = some x) (hj : T[j]? = some p) (hp : p.n.id = x.n.par) (hr : x.n.rdy = true) {P : Int} (hP : 0 ≤ P ∧ P ≤ 1099511627776) :
    i ≠ j ∧ p.q.length < 1000000 ∧ SrtE p.q ∧ ∃ q, rekeyE p.q x.n.id P = (0, q) ∧ OkT (upN N x.n.id (psF P)) ((T.set i { x with n := psF P x.n }).set j { p with q := q }) ∧ SameT T ((T.set i { x with n := psF P x.n }).set j { p with q := q }) ∧ SK (upN N x.n.id (psF P)) ∧ LB (upN N x.n.id (psF P)) := by
  have hxT := List.mem_of_getElem? hi
  have hpT := List.mem_of_getElem? hj
  have hx := hT.mem_n hxT
  have hij : i ≠ j := fun e => by subst e; rw [hi] at hj; cases hj; exact hsk.ne_par hx hp
  have hin : (x.n.pass, x.n.id) ∈ p.q := (hT.mem p hpT _ _).2 ((KD_one hsk.nd hx).2 ⟨hp.symm, hr, rfl⟩)
  obtain ⟨q, h1, h2, _, h4⟩ := rekeyE_is (hT.srt p hpT) hin rfl (fun e' he' hk => hT.uni hsk hpT he' hin hk) hP
  have hql := hT.qlen hsk hpT
  refine ⟨hij, by omega, hT.srt p hpT, q, h1, ?_, same2 hi hj hij ⟨rfl, rfl, rfl⟩ ⟨rfl, rfl, rfl⟩, hsk.upN (psF_skel P), hlb.ups hsk.nd hx (hlb.wt x.n hx) hP (hlb.now x.n hx)⟩
  refine hT.two hsk.nd hi hj hp hij (psF_skel P) h2 fun s k => ?_
  rw [h4, KD_up hsk.nd hx (psF_skel P), hT.mem p hpT s k, Prod.mk.injEq]
  show (s = P ∧ k = x.n.id) ∨ (KD N p.n.id s k ∧ k ≠ x.n.id) ↔ (k ≠ x.n.id ∧ KD N p.n.id s k) ∨ (k = x.n.id ∧ x.n.par = p.n.id ∧ x.n.rdy = true ∧ P = s)
  rw [hr]
  constructor
  · rintro (⟨rfl, rfl⟩ | ⟨h5, h6⟩)
    · exact .inr ⟨rfl, hp.symm, rfl, rfl⟩
    · exact .inl ⟨h6, h5⟩
  · rintro (⟨h5, h6⟩ | ⟨h5, _, _, h6⟩)
    · exact .inr ⟨h6, h5⟩
    · exact .inl ⟨h6.symm, h5⟩
/-- A walk up from a node: what is still to do. -/
structure Climb (F : Nat → List Nr → Int → List Nr) (N : List Nr) (k0 : Int) (T : List Nd) (rk : Int → Nat) (k : Nat) (T1 : List Nd) (x1 : Nd) : Prop where
  ex : ∃ N1, OkT N1 T1 ∧ SK N1 ∧ LB N1 ∧ RK N1 rk ∧ F 6 N k0 = F k N1 x1.n.id
  same : SameT T T1
  mem : ∃ i : Nat, T1[i]? = some x1
  le : rk x1.n.id ≤ k
end Go.Proofs.YtlhjibkkkhgonaaGreat
set_option linter.unusedVariables false
set_option linter.unusedSimpArgs false
namespace Go.Proofs.YtlhjibkkkhgonaaGreat
open Go.RowKit G
set_option maxRecDepth 100000 in
theorem wakes_walk {N : List Nr} {T : List Nd} (hT : OkT N T) (hsk : SK N) (hlb : LB N) {i0 : Nat} {x : Nd} (hx : T[i0]? = some x) (H : List SP) (t mb : Nat) : ∀ w, Sat w (blk t 83 [.map (some mb)] :: mapS mb (T.map kp) :: (nodesL T ++ H)) → Calls Tryz.prog 47 #[.pointer (some ⟨t, 0, none⟩), .pointer (some ⟨x.b, 0, none⟩)] w (Ret (ι := { T' : List Nd // OkT (wakeN 6 N x.n.id) T' ∧ SameT T T' }) (fun _ => .tuple #[]) fun T' => blk t 83 [.map (some mb)] :: mapS mb (T'.1.map kp) :: (nodesL T'.1 ++ H)) := by
  obtain ⟨rk, hrk⟩ := hsk.rk
  refine enterG (fn := Tryz.f47) 58 [.pointer (some ⟨t, 0, none⟩), .pointer (some ⟨x.b, 0, none⟩)] Tryz.func47 (by kernel_rfl) (by kernel_rfl) (by kernel_rfl) ?_
  refine scopeG 0 (fun (s : List Nd × Nd) => [(0, .pointer (some ⟨t, 0, none⟩)), (1, .pointer (some ⟨s.2.b, 0, none⟩))]) (fun (s : List Nd × Nd) => (blk t 83 [.map (some mb)] :: mapS mb (s.1.map kp) :: (nodesL s.1 ++ H))) (fun k (s : List Nd × Nd) => Climb wakeN N x.n.id T rk k s.1 s.2) (by kernel_rfl) (by kernel_rfl) (by kernel_rfl) (by kernel_rfl) ?_ ?_
  · skip
    rintro k ⟨T1, x1⟩ hC K hK
    obtain ⟨⟨N1, hT1, hs1, hb1, hr1, he⟩, hsame, ⟨i, hi⟩, hle⟩ := hC
    simp only at hT1 hsame hi hle he
    have hm := List.mem_of_getElem? hi
    have hnd := hs1.nd
    have hpos := hr1.pos (hT1.mem_n hm)
    obtain ⟨k, rfl⟩ : ∃ k', k = k' + 1 := ⟨k - 1, by omega⟩
    have hgx := hT1.at hnd hi
    refine seqR (by kernel_rfl) ?_
    refine seqR (by kernel_rfl) ?_
    refine regionR 5 (by kernel_rfl) (by kernel_rfl) ?_
    refine (runR (H := (blk t 83 [.map (some mb)] :: mapS mb (T1.map kp) :: (nodesL T1 ++ H))) (z := 0) 5 [0, 1, 9] [(0, .pointer (some ⟨t, 0, none⟩)), (1, .pointer (some ⟨x1.b, 0, none⟩)), (9, .bool x1.n.rdy)] [(⟨x1.b, 5, none⟩, .bool x1.n.rdy)] (hasC (up (up (nodeAt (T := T1) hm (j := 5) rfl))) has0) (fun _ => by kernel_rfl) (endR ?_) : RT _ _ _ _ _ _ 5 _)
    refine condR (b := x1.n.rdy) (by kernel_rfl) (fun _ => by kernel_rfl) (fun h1 => ?_) (fun h1 => ?_)
    · skip
      refine retR (by kernel_rfl) ?_
      refine thenV ?_
      refine jumpV ?_
      refine done0 (.tuple #[]) (fun _ => by kernel_rfl) (fun w hs => ?_) .ret (.inr rfl)
      exact ⟨⟨T1, by rw [he, wakeN, hgx]; simp only [h1, if_true]; exact hT1, hsame⟩, rfl, hs⟩
    · skip
      cases hg : gt N1 x1.n.par with
      | none =>
        obtain ⟨R, hR, hR2⟩ := perm1 hi
        refine PT.open1 (hR) ?_
        refine skipR (by kernel_rfl) ?_
        refine seqR (by kernel_rfl) ?_
        refine regionR 5 (by kernel_rfl) (by kernel_rfl) ?_
        refine (run0 (z := 1) 4 [0, 1, 13] [(0, .pointer (some ⟨t, 0, none⟩)), (1, .pointer (some ⟨x1.b, 0, none⟩)), (13, .pointer (some ⟨x1.b, 5, none⟩))] (fun _ => by kernel_rfl) ?_ : RT _ _ _ _ _ _ 5 _)
        refine (RT.pick 2 rfl ?_ : RT _ _ _ (blk t 83 [.map (some mb)] :: mapS mb (T1.map kp) :: blk x1.b 80 [.int .i64 x1.n.id, .int .i64 x1.n.par, .int .i64 x1.n.wt, .int .i64 x1.n.pass, .bool x1.n.thr, .bool x1.n.rdy, .int .i64 x1.n.now, .pointer (some ⟨x1.ib, 0, none⟩)] :: idxS x1.ib 60 x1.q :: (nodesL R ++ H)) _ _ 1 _)
        refine (stepR (z := 0) (storeS [(5, .bool true)] [.int .i64 x1.n.id, .int .i64 x1.n.par, .int .i64 x1.n.wt, .int .i64 x1.n.pass, .bool x1.n.thr, .bool true, .int .i64 x1.n.now, .pointer (some ⟨x1.ib, 0, none⟩)] (fun _ => by kernel_rfl) (by kernel_rfl) (by kernel_rfl)) (fun _ => ?_) : RT _ _ _ _ _ _ 1 _)
        refine endR ?_
        refine seqR (by kernel_rfl) ?_
        refine drawR (fun w => Sat w (blk x1.b 80 [.int .i64 x1.n.id, .int .i64 x1.n.par, .int .i64 x1.n.wt, .int .i64 x1.n.pass, .bool x1.n.thr, .bool true, .int .i64 x1.n.now, .pointer (some ⟨x1.ib, 0, none⟩)] :: blk t 83 [.map (some mb)] :: mapS mb (T1.map kp) :: idxS x1.ib 60 x1.q :: (nodesL R ++ H))) [] 11 (by kernel_rfl) (by kernel_rfl) (by kernel_rfl) (fun _ h => by first | exact h | exact h.tail | exact h.tail.tail | exact h.tail.tail.tail | exact h.tail.tail.tail.tail) ?_
        refine takesR [0, 1, 2, 3, 4, 5, 6, 7, 8] [0, 1, 17, 22] 2 [true, true, true, true, true, true, true, true, true, false, false] [(0, .pointer (some ⟨t, 0, none⟩)), (1, .pointer (some ⟨x1.b, 0, none⟩)), (17, .map (some mb)), (22, .int .i64 x1.n.par)] [(⟨t, 0, none⟩, .map (some mb)), (⟨x1.b, 1, none⟩, .int .i64 x1.n.par)] rfl (fun _ d _ _ _ h => by cases d <;> exact h) (fun _ h => by first | exact h | exact h.tail | exact h.tail.tail | exact h.tail.tail.tail | exact h.tail.tail.tail.tail) (hasC (blkAt (T := 83) (cs := [.map (some mb)]) 1 rfl rfl) (hasC (blkAt (T := 80) (cs := [.int .i64 x1.n.id, .int .i64 x1.n.par, .int .i64 x1.n.wt, .int .i64 x1.n.pass, .bool x1.n.thr, .bool true, .int .i64 x1.n.now, .pointer (some ⟨x1.ib, 0, none⟩)]) 0 rfl rfl) has0)) (fun _ => by kernel_rfl) ?_
        refine takeR1 9 1 [true, true, true, true, true, true, true, true, true, true, false] rfl rfl (by kernel_rfl) (fun _ d _ _ _ h => by cases d <;> exact h) (fun _ h => by first | exact h | exact h.tail | exact h.tail.tail | exact h.tail.tail.tail | exact h.tail.tail.tail.tail) (lookY 81 (.tmp 17) (.tmp 22) false mb x1.n.par (T1.map kp) (.pointer none) (.pointer none) 3 76 (some 23) (fun _ => by kernel_rfl) (by kernel_rfl) (by kernel_rfl) (fun _ => by kernel_rfl) (fun _ => by kernel_rfl) Tryz.underlying81 (by kernel_rfl) (fun _ => by kernel_rfl) (mapAt (H := (blk x1.b 80 [.int .i64 x1.n.id, .int .i64 x1.n.par, .int .i64 x1.n.wt, .int .i64 x1.n.pass, .bool x1.n.thr, .bool true, .int .i64 x1.n.now, .pointer (some ⟨x1.ib, 0, none⟩)] :: blk t 83 [.map (some mb)] :: mapS mb (T1.map kp) :: idxS x1.ib 60 x1.q :: (nodesL R ++ H))) (i := 2) rfl) (by rw [lk_none hT1 hg]; rfl)) ?_
        refine takesR [10] [0, 1, 4] 0 [true, true, true, true, true, true, true, true, true, true, true] [(0, .pointer (some ⟨t, 0, none⟩)), (1, .pointer (some ⟨x1.b, 0, none⟩)), (4, .pointer none)] [] rfl (fun _ d _ _ _ h => by cases d <;> exact h) (fun _ h => by first | exact h | exact h.tail | exact h.tail.tail | exact h.tail.tail.tail | exact h.tail.tail.tail.tail) has0 (fun _ => by kernel_rfl) ?_
        refine drawnR (by kernel_rfl) ?_
        refine seqR (by kernel_rfl) ?_
        refine seqR (by kernel_rfl) ?_
        refine regionR 2 (by kernel_rfl) (by kernel_rfl) ?_
        refine (run0 (z := 0) 2 [0, 1, 4, 25] [(0, .pointer (some ⟨t, 0, none⟩)), (1, .pointer (some ⟨x1.b, 0, none⟩)), (4, .pointer none), (25, .bool true)] (fun _ => by kernel_rfl) (endR ?_) : RT _ _ _ _ _ _ 2 _)
        refine condR (b := true) (by kernel_rfl) (fun _ => by kernel_rfl) (fun _ => ?_) (fun h => by cases h)
        refine retR (by kernel_rfl) ?_
        refine thenV ?_
        refine jumpV ?_
        refine PT.pick 0 rfl ?_
        refine PT.pick 2 rfl ?_
        refine PT.pick 2 rfl ?_
        refine PT.close1 ({ x1 with n := { x1.n with rdy := true } }) (hR2 _) ?_
        have hsm : SameT T1 (T1.set i { x1 with n := { x1.n with rdy := true } }) := SameT.set hi ⟨rfl, rfl, rfl⟩
        rw [← hsm.kp]
        refine done0 (.tuple #[]) (fun _ => by kernel_rfl) (fun w hs => ?_) .ret (.inr rfl)
        exact ⟨⟨_, by rw [he, wakeN, hgx]; simp only [h1, hg, Bool.false_eq_true, if_false]; exact hT1.one hnd hi (f := fun x => { x with rdy := true }) ⟨fun _ => rfl, fun _ => rfl, fun _ => rfl⟩ (.inl (gt_none.1 hg)), hsame.trans hsm⟩, rfl, hs⟩
      | some y =>
        obtain ⟨j, p, hj, hpn, hpk⟩ := hT1.get hg
        obtain ⟨hij, hput, hql, hqs, hf1, hf2, hT2, hsm, hs2, hb2⟩ := wake_round hT1 hs1 hb1 hi hj hpk h1
        obtain ⟨R, hR, hR2⟩ := perm2 hi hj hij
        refine PT.open2 (hR) ?_
        refine skipR (by kernel_rfl) ?_
        refine seqR (by kernel_rfl) ?_
        refine regionR 5 (by kernel_rfl) (by kernel_rfl) ?_
        refine (run0 (z := 1) 4 [0, 1, 13] [(0, .pointer (some ⟨t, 0, none⟩)), (1, .pointer (some ⟨x1.b, 0, none⟩)), (13, .pointer (some ⟨x1.b, 5, none⟩))] (fun _ => by kernel_rfl) ?_ : RT _ _ _ _ _ _ 5 _)
        refine (RT.pick 2 rfl ?_ : RT _ _ _ (blk t 83 [.map (some mb)] :: mapS mb (T1.map kp) :: blk x1.b 80 [.int .i64 x1.n.id, .int .i64 x1.n.par, .int .i64 x1.n.wt, .int .i64 x1.n.pass, .bool x1.n.thr, .bool x1.n.rdy, .int .i64 x1.n.now, .pointer (some ⟨x1.ib, 0, none⟩)] :: idxS x1.ib 60 x1.q :: blk p.b 80 [.int .i64 p.n.id, .int .i64 p.n.par, .int .i64 p.n.wt, .int .i64 p.n.pass, .bool p.n.thr, .bool p.n.rdy, .int .i64 p.n.now, .pointer (some ⟨p.ib, 0, none⟩)] :: idxS p.ib 60 p.q :: (nodesL R ++ H)) _ _ 1 _)
        refine (stepR (z := 0) (storeS [(5, .bool true)] [.int .i64 x1.n.id, .int .i64 x1.n.par, .int .i64 x1.n.wt, .int .i64 x1.n.pass, .bool x1.n.thr, .bool true, .int .i64 x1.n.now, .pointer (some ⟨x1.ib, 0, none⟩)] (fun _ => by kernel_rfl) (by kernel_rfl) (by kernel_rfl)) (fun _ => ?_) : RT _ _ _ _ _ _ 1 _)
        refine endR ?_
        refine seqR (by kernel_rfl) ?_
        refine drawR (fun w => Sat w (blk x1.b 80 [.int .i64 x1.n.id, .int .i64 x1.n.par, .int .i64 x1.n.wt, .int .i64 x1.n.pass, .bool x1.n.thr, .bool true, .int .i64 x1.n.now, .pointer (some ⟨x1.ib, 0, none⟩)] :: blk t 83 [.map (some mb)] :: mapS mb (T1.map kp) :: idxS x1.ib 60 x1.q :: blk p.b 80 [.int .i64 p.n.id, .int .i64 p.n.par, .int .i64 p.n.wt, .int .i64 p.n.pass, .bool p.n.thr, .bool p.n.rdy, .int .i64 p.n.now, .pointer (some ⟨p.ib, 0, none⟩)] :: idxS p.ib 60 p.q :: (nodesL R ++ H))) [] 11 (by kernel_rfl) (by kernel_rfl) (by kernel_rfl) (fun _ h => by first | exact h | exact h.tail | exact h.tail.tail | exact h.tail.tail.tail | exact h.tail.tail.tail.tail) ?_
        refine takesR [0, 1, 2, 3, 4, 5, 6, 7, 8] [0, 1, 17, 22] 2 [true, true, true, true, true, true, true, true, true, false, false] [(0, .pointer (some ⟨t, 0, none⟩)), (1, .pointer (some ⟨x1.b, 0, none⟩)), (17, .map (some mb)), (22, .int .i64 x1.n.par)] [(⟨t, 0, none⟩, .map (some mb)), (⟨x1.b, 1, none⟩, .int .i64 x1.n.par)] rfl (fun _ d _ _ _ h => by cases d <;> exact h) (fun _ h => by first | exact h | exact h.tail | exact h.tail.tail | exact h.tail.tail.tail | exact h.tail.tail.tail.tail) (hasC (blkAt (T := 83) (cs := [.map (some mb)]) 1 rfl rfl) (hasC (blkAt (T := 80) (cs := [.int .i64 x1.n.id, .int .i64 x1.n.par, .int .i64 x1.n.wt, .int .i64 x1.n.pass, .bool x1.n.thr, .bool true, .int .i64 x1.n.now, .pointer (some ⟨x1.ib, 0, none⟩)]) 0 rfl rfl) has0)) (fun _ => by kernel_rfl) ?_
        refine takeR1 9 1 [true, true, true, true, true, true, true, true, true, true, false] rfl rfl (by kernel_rfl) (fun _ d _ _ _ h => by cases d <;> exact h) (fun _ h => by first | exact h | exact h.tail | exact h.tail.tail | exact h.tail.tail.tail | exact h.tail.tail.tail.tail) (lookY 81 (.tmp 17) (.tmp 22) false mb x1.n.par (T1.map kp) (.pointer none) (.pointer (some ⟨p.b, 0, none⟩)) 3 76 (some 23) (fun _ => by kernel_rfl) (by kernel_rfl) (by kernel_rfl) (fun _ => by kernel_rfl) (fun _ => by kernel_rfl) Tryz.underlying81 (by kernel_rfl) (fun _ => by kernel_rfl) (mapAt (H := (blk x1.b 80 [.int .i64 x1.n.id, .int .i64 x1.n.par, .int .i64 x1.n.wt, .int .i64 x1.n.pass, .bool x1.n.thr, .bool true, .int .i64 x1.n.now, .pointer (some ⟨x1.ib, 0, none⟩)] :: blk t 83 [.map (some mb)] :: mapS mb (T1.map kp) :: idxS x1.ib 60 x1.q :: blk p.b 80 [.int .i64 p.n.id, .int .i64 p.n.par, .int .i64 p.n.wt, .int .i64 p.n.pass, .bool p.n.thr, .bool p.n.rdy, .int .i64 p.n.now, .pointer (some ⟨p.ib, 0, none⟩)] :: idxS p.ib 60 p.q :: (nodesL R ++ H))) (i := 2) rfl) (by rw [lk_some hT1 hnd hj hpk]; rfl)) ?_
        refine takesR [10] [0, 1, 4] 0 [true, true, true, true, true, true, true, true, true, true, true] [(0, .pointer (some ⟨t, 0, none⟩)), (1, .pointer (some ⟨x1.b, 0, none⟩)), (4, .pointer (some ⟨p.b, 0, none⟩))] [] rfl (fun _ d _ _ _ h => by cases d <;> exact h) (fun _ h => by first | exact h | exact h.tail | exact h.tail.tail | exact h.tail.tail.tail | exact h.tail.tail.tail.tail) has0 (fun _ => by kernel_rfl) ?_
        refine drawnR (by kernel_rfl) ?_
        refine seqR (by kernel_rfl) ?_
        refine seqR (by kernel_rfl) ?_
        refine regionR 2 (by kernel_rfl) (by kernel_rfl) ?_
        refine (run0 (z := 0) 2 [0, 1, 4, 25] [(0, .pointer (some ⟨t, 0, none⟩)), (1, .pointer (some ⟨x1.b, 0, none⟩)), (4, .pointer (some ⟨p.b, 0, none⟩)), (25, .bool false)] (fun _ => by kernel_rfl) (endR ?_) : RT _ _ _ _ _ _ 2 _)
        refine condR (b := false) (by kernel_rfl) (fun _ => by kernel_rfl) (fun h => by cases h) (fun _ => ?_)
        refine skipR (by kernel_rfl) ?_
        refine seqR (by kernel_rfl) ?_
        refine drawR (fun w => Sat w (blk x1.b 80 [.int .i64 x1.n.id, .int .i64 x1.n.par, .int .i64 x1.n.wt, .int .i64 x1.n.pass, .bool x1.n.thr, .bool true, .int .i64 x1.n.now, .pointer (some ⟨x1.ib, 0, none⟩)] :: blk t 83 [.map (some mb)] :: mapS mb (T1.map kp) :: idxS x1.ib 60 x1.q :: blk p.b 80 [.int .i64 p.n.id, .int .i64 p.n.par, .int .i64 p.n.wt, .int .i64 p.n.pass, .bool p.n.thr, .bool p.n.rdy, .int .i64 p.n.now, .pointer (some ⟨p.ib, 0, none⟩)] :: idxS p.ib 60 p.q :: (nodesL R ++ H))) [15] 16 (by kernel_rfl) (by kernel_rfl) (by kernel_rfl) (fun _ h => by first | exact h | exact h.tail | exact h.tail.tail | exact h.tail.tail.tail | exact h.tail.tail.tail.tail) ?_
        refine takesR [0, 1, 2, 3, 4, 5, 6, 7, 8, 9] [0, 1, 4, 26, 31, 35] 6 [true, true, true, true, true, true, true, true, true, true, false, false, false, false, false, false] [(0, .pointer (some ⟨t, 0, none⟩)), (1, .pointer (some ⟨x1.b, 0, none⟩)), (4, .pointer (some ⟨p.b, 0, none⟩)), (26, .pointer (some ⟨x1.b, 0, none⟩)), (31, .int .i64 x1.n.pass), (35, .int .i64 p.n.now)] [(⟨x1.b, 3, none⟩, .int .i64 x1.n.pass), (⟨p.b, 6, none⟩, .int .i64 p.n.now)] rfl (fun _ d _ _ _ h => by cases d <;> exact h) (fun _ h => by first | exact h | exact h.tail | exact h.tail.tail | exact h.tail.tail.tail | exact h.tail.tail.tail.tail) (hasC (blkAt (T := 80) (cs := [.int .i64 x1.n.id, .int .i64 x1.n.par, .int .i64 x1.n.wt, .int .i64 x1.n.pass, .bool x1.n.thr, .bool true, .int .i64 x1.n.now, .pointer (some ⟨x1.ib, 0, none⟩)]) 0 rfl rfl) (hasC (blkAt (T := 80) (cs := [.int .i64 p.n.id, .int .i64 p.n.par, .int .i64 p.n.wt, .int .i64 p.n.pass, .bool p.n.thr, .bool p.n.rdy, .int .i64 p.n.now, .pointer (some ⟨p.ib, 0, none⟩)]) 4 rfl rfl) has0)) (fun _ => by kernel_rfl) ?_
        refine oneR 10 5 [true, true, true, true, true, true, true, true, true, true, true, false, false, false, false, false] rfl rfl (by kernel_rfl) (callS 66 [.int .i64 x1.n.pass, .int .i64 p.n.now] (some 36) (fun _ => .complex .f64 (floatOfInt .f64 x1.n.pass) (floatOfInt .f64 p.n.now)) (fun (_ : Unit) => (blk x1.b 80 [.int .i64 x1.n.id, .int .i64 x1.n.par, .int .i64 x1.n.wt, .int .i64 x1.n.pass, .bool x1.n.thr, .bool true, .int .i64 x1.n.now, .pointer (some ⟨x1.ib, 0, none⟩)] :: blk t 83 [.map (some mb)] :: mapS mb (T1.map kp) :: idxS x1.ib 60 x1.q :: blk p.b 80 [.int .i64 p.n.id, .int .i64 p.n.par, .int .i64 p.n.wt, .int .i64 p.n.pass, .bool p.n.thr, .bool p.n.rdy, .int .i64 p.n.now, .pointer (some ⟨p.ib, 0, none⟩)] :: idxS p.ib 60 p.q :: (nodesL R ++ H))) (fun _ => by kernel_rfl) (pair_walk _ x1.n.pass p.n.now)) (fun _ _ h hn => by first | exact h | exact h.tail | exact h.tail.tail | exact h.tail.tail.tail | exact h.tail.tail.tail.tail | exact absurd hn (by decide)) (fun _ => ?_)
        refine oneR 11 4 [true, true, true, true, true, true, true, true, true, true, true, true, false, false, false, false] rfl rfl (by kernel_rfl) (callS 65 [.complex .f64 (floatOfInt .f64 x1.n.pass) (floatOfInt .f64 p.n.now)] (some 37) (fun _ => .int .i64 (mxI x1.n.pass p.n.now)) (fun _ => (blk x1.b 80 [.int .i64 x1.n.id, .int .i64 x1.n.par, .int .i64 x1.n.wt, .int .i64 x1.n.pass, .bool x1.n.thr, .bool true, .int .i64 x1.n.now, .pointer (some ⟨x1.ib, 0, none⟩)] :: blk t 83 [.map (some mb)] :: mapS mb (T1.map kp) :: idxS x1.ib 60 x1.q :: blk p.b 80 [.int .i64 p.n.id, .int .i64 p.n.par, .int .i64 p.n.wt, .int .i64 p.n.pass, .bool p.n.thr, .bool p.n.rdy, .int .i64 p.n.now, .pointer (some ⟨p.ib, 0, none⟩)] :: idxS p.ib 60 p.q :: (nodesL R ++ H))) (fun _ => by kernel_rfl) (later_walk _ x1.n.pass p.n.now hf1 hf2)) (fun _ _ h hn => by first | exact h | exact h.tail | exact h.tail.tail | exact h.tail.tail.tail | exact h.tail.tail.tail.tail | exact absurd hn (by decide)) (fun _ => ?_)
        refine takesR [12, 13, 14] [37, 0, 1, 4, 40] 1 [true, true, true, true, true, true, true, true, true, true, true, true, true, true, true, false] [(37, .int .i64 (mxI x1.n.pass p.n.now)), (0, .pointer (some ⟨t, 0, none⟩)), (1, .pointer (some ⟨x1.b, 0, none⟩)), (4, .pointer (some ⟨p.b, 0, none⟩)), (40, .pointer (some ⟨x1.b, 3, none⟩))] [] rfl (fun _ d _ _ _ h => by cases d <;> exact h) (fun _ h => by first | exact h | exact h.tail | exact h.tail.tail | exact h.tail.tail.tail | exact h.tail.tail.tail.tail) has0 (fun _ => by kernel_rfl) ?_
        refine oneR 15 0 [true, true, true, true, true, true, true, true, true, true, true, true, true, true, true, true] rfl rfl (by kernel_rfl) (storeS [(3, .int .i64 (mxI x1.n.pass p.n.now))] [.int .i64 x1.n.id, .int .i64 x1.n.par, .int .i64 x1.n.wt, .int .i64 (mxI x1.n.pass p.n.now), .bool x1.n.thr, .bool true, .int .i64 x1.n.now, .pointer (some ⟨x1.ib, 0, none⟩)] (fun _ => by kernel_rfl) (by kernel_rfl) (by kernel_rfl)) (fun _ _ h hn => by first | exact h | exact h.tail | exact h.tail.tail | exact h.tail.tail.tail | exact h.tail.tail.tail.tail | exact absurd hn (by decide)) (fun _ => ?_)
        refine drawnR (by kernel_rfl) ?_
        refine seqR (by kernel_rfl) ?_
        refine seqR (by kernel_rfl) ?_
        refine PT.pick 5 rfl ?_
        refine drawR (fun w => Sat w (blk x1.b 80 [.int .i64 x1.n.id, .int .i64 x1.n.par, .int .i64 x1.n.wt, .int .i64 (mxI x1.n.pass p.n.now), .bool x1.n.thr, .bool true, .int .i64 x1.n.now, .pointer (some ⟨x1.ib, 0, none⟩)] :: blk t 83 [.map (some mb)] :: mapS mb (T1.map kp) :: idxS x1.ib 60 x1.q :: blk p.b 80 [.int .i64 p.n.id, .int .i64 p.n.par, .int .i64 p.n.wt, .int .i64 p.n.pass, .bool p.n.thr, .bool p.n.rdy, .int .i64 p.n.now, .pointer (some ⟨p.ib, 0, none⟩)] :: (nodesL R ++ H))) [] 16 (by kernel_rfl) (by kernel_rfl) (by kernel_rfl) (fun _ h => by first | exact h | exact h.tail | exact h.tail.tail | exact h.tail.tail.tail | exact h.tail.tail.tail.tail) ?_
        refine takesR [0, 1, 2, 3, 4, 5, 6, 7, 8, 9, 10, 11, 12, 13] [0, 1, 4, 44, 49, 54] 2 [true, true, true, true, true, true, true, true, true, true, true, true, true, true, false, false] [(0, .pointer (some ⟨t, 0, none⟩)), (1, .pointer (some ⟨x1.b, 0, none⟩)), (4, .pointer (some ⟨p.b, 0, none⟩)), (44, .pointer (some ⟨p.ib, 0, none⟩)), (49, .int .i64 (mxI x1.n.pass p.n.now)), (54, .int .i64 x1.n.id)] [(⟨p.b, 7, none⟩, .pointer (some ⟨p.ib, 0, none⟩)), (⟨x1.b, 3, none⟩, .int .i64 (mxI x1.n.pass p.n.now)), (⟨x1.b, 0, none⟩, .int .i64 x1.n.id)] rfl (fun _ d _ _ _ h => by cases d <;> exact h) (fun _ h => by first | exact h | exact h.tail | exact h.tail.tail | exact h.tail.tail.tail | exact h.tail.tail.tail.tail) (hasC (blkAt (T := 80) (cs := [.int .i64 p.n.id, .int .i64 p.n.par, .int .i64 p.n.wt, .int .i64 p.n.pass, .bool p.n.thr, .bool p.n.rdy, .int .i64 p.n.now, .pointer (some ⟨p.ib, 0, none⟩)]) 4 rfl rfl) (hasC (blkAt (T := 80) (cs := [.int .i64 x1.n.id, .int .i64 x1.n.par, .int .i64 x1.n.wt, .int .i64 (mxI x1.n.pass p.n.now), .bool x1.n.thr, .bool true, .int .i64 x1.n.now, .pointer (some ⟨x1.ib, 0, none⟩)]) 0 rfl rfl) (hasC (blkAt (T := 80) (cs := [.int .i64 x1.n.id, .int .i64 x1.n.par, .int .i64 x1.n.wt, .int .i64 (mxI x1.n.pass p.n.now), .bool x1.n.thr, .bool true, .int .i64 x1.n.now, .pointer (some ⟨x1.ib, 0, none⟩)]) 0 rfl rfl) has0))) (fun _ => by kernel_rfl) ?_
        refine oneR 14 1 [true, true, true, true, true, true, true, true, true, true, true, true, true, true, true, false] rfl rfl (by kernel_rfl) (callS 67 [.pointer (some ⟨p.ib, 0, none⟩), .int .i64 (mxI x1.n.pass p.n.now), .int .i64 x1.n.id] (some 55) (fun _ => .nilIface) (fun _ => (idxS p.ib 60 (insE (mxI x1.n.pass p.n.now, x1.n.id) p.q) :: blk x1.b 80 [.int .i64 x1.n.id, .int .i64 x1.n.par, .int .i64 x1.n.wt, .int .i64 (mxI x1.n.pass p.n.now), .bool x1.n.thr, .bool true, .int .i64 x1.n.now, .pointer (some ⟨x1.ib, 0, none⟩)] :: blk t 83 [.map (some mb)] :: mapS mb (T1.map kp) :: idxS x1.ib 60 x1.q :: blk p.b 80 [.int .i64 p.n.id, .int .i64 p.n.par, .int .i64 p.n.wt, .int .i64 p.n.pass, .bool p.n.thr, .bool p.n.rdy, .int .i64 p.n.now, .pointer (some ⟨p.ib, 0, none⟩)] :: (nodesL R ++ H))) (fun _ => by kernel_rfl) (put_ok hput hqs hql _ _)) (fun _ _ h hn => by first | exact h | exact h.tail | exact h.tail.tail | exact h.tail.tail.tail | exact h.tail.tail.tail.tail | exact absurd hn (by decide)) (fun _ => ?_)
        refine takesR [15] [0, 1, 4, 56] 0 [true, true, true, true, true, true, true, true, true, true, true, true, true, true, true, true] [(0, .pointer (some ⟨t, 0, none⟩)), (1, .pointer (some ⟨x1.b, 0, none⟩)), (4, .pointer (some ⟨p.b, 0, none⟩)), (56, .bool false)] [] rfl (fun _ d _ _ _ h => by cases d <;> exact h) (fun _ h => by first | exact h | exact h.tail | exact h.tail.tail | exact h.tail.tail.tail | exact h.tail.tail.tail.tail) has0 (fun _ => by kernel_rfl) ?_
        refine drawnR (by kernel_rfl) ?_
        refine condR (b := false) (by kernel_rfl) (fun _ => by kernel_rfl) (fun h => by cases h) (fun _ => ?_)
        refine skipR (by kernel_rfl) ?_
        refine seqR (by kernel_rfl) ?_
        refine regionR 2 (by kernel_rfl) (by kernel_rfl) ?_
        refine (run0 (z := 0) 2 [0, 1] [(0, .pointer (some ⟨t, 0, none⟩)), (1, .pointer (some ⟨p.b, 0, none⟩))] (fun _ => by kernel_rfl) (endR ?_) : RT _ _ _ _ _ _ 2 _)
        refine gotoR 0 (by kernel_rfl) (by kernel_rfl) ?_
        refine PT.pick 0 rfl ?_
        refine PT.pick 5 rfl ?_
        refine PT.pick 5 rfl ?_
        refine PT.pick 3 rfl ?_
        refine PT.pick 5 rfl ?_
        refine PT.pick 5 rfl ?_
        refine PT.close2 ({ x1 with n := wkF p.n.now x1.n }) ({ p with q := insE (mxI x1.n.pass p.n.now, x1.n.id) p.q }) (hR2 _ _) ?_
        rw [← hsm.kp]
        have hpj : ((T1.set i { x1 with n := wkF p.n.now x1.n }).set j { p with q := insE (mxI x1.n.pass p.n.now, x1.n.id) p.q })[j]? = some { p with q := insE (mxI x1.n.pass p.n.now, x1.n.id) p.q } := by rw [List.getElem?_set_self (by rw [List.length_set]; exact (List.getElem?_eq_some_iff.1 hj).1)]
        refine PT.keep (L' := [(0, .pointer (some ⟨t, 0, none⟩)), (1, .pointer (some ⟨p.b, 0, none⟩))]) [0, 1] rfl ?_
        exact jumpR (hK k (_, { p with q := insE (mxI x1.n.pass p.n.now, x1.n.id) p.q }) (by omega) ⟨⟨_, hT2, hs2, hb2, hr1.ups (wkF_skel _), by rw [he, wakeN, hgx]; simp only [h1, hg, Bool.false_eq_true, if_false]; rw [← hpn, hpk]; rfl⟩, hsame.trans hsm, ⟨j, hpj⟩, by have := RK.up hs1 hr1 (hT1.mem_n hm) (hT1.mem_n (List.mem_of_getElem? hj)) hpk; simp only; omega⟩)
  · skip
    intro K hK
    refine seqR (by kernel_rfl) ?_
    refine labelR (by kernel_rfl) ?_
    refine PT.keep (L' := [(0, .pointer (some ⟨t, 0, none⟩)), (1, .pointer (some ⟨x.b, 0, none⟩))]) [0, 1] rfl ?_
    refine codeR (by kernel_rfl) (hK 6 (T, x) ⟨⟨N, hT, hsk, hlb, hrk, rfl⟩, SameT.refl T, ⟨i0, hx⟩, by have := (hrk _ (hT.mem_n (List.mem_of_getElem? hx))).2.2.1; simp only; omega⟩)
end Go.Proofs.YtlhjibkkkhgonaaGreat
set_option linter.unusedVariables false
set_option linter.unusedSimpArgs false
namespace Go.Proofs.YtlhjibkkkhgonaaGreat
open Go.RowKit G
theorem q_kid {N : List Nr} {T : List Nd} (h : OkT N T) {x : Nd} (hx : x ∈ T) : x.q ≠ [] ↔ kidR N x.n.id ≠ [] := by
  rw [kidR_ne]
  constructor
  · intro hq
    obtain ⟨⟨p, k⟩, he⟩ := List.exists_mem_of_ne_nil _ hq
    exact ⟨p, k, (h.mem x hx p k).1 he⟩
  · rintro ⟨p, k, hk⟩
    exact List.ne_nil_of_mem ((h.mem x hx p k).2 hk)
theorem rest_test {N : List Nr} {T : List Nd} (h : OkT N T) {x : Nd} (hx : x ∈ T) : (!x.n.rdy || decide ((x.q.length : Int) > 0)) = true ↔ (x.n.rdy = false ∨ kidR N x.n.id ≠ []) := by
  rw [← q_kid h hx, Bool.or_eq_true, decide_eq_true_eq, Bool.not_eq_true']
  have : ((x.q.length : Int) > 0) ↔ x.q ≠ [] := by
    constructor
    · intro h e; rw [e] at h; simp at h
    · intro h; have := List.length_pos_iff.2 h; omega
  rw [this]
set_option maxRecDepth 100000 in
theorem rests_walk {N : List Nr} {T : List Nd} (hT : OkT N T) (hsk : SK N) (hlb : LB N) {i0 : Nat} {x : Nd} (hx : T[i0]? = some x) (H : List SP) (t mb : Nat) : ∀ w, Sat w (blk t 83 [.map (some mb)] :: mapS mb (T.map kp) :: (nodesL T ++ H)) → Calls Tryz.prog 48 #[.pointer (some ⟨t, 0, none⟩), .pointer (some ⟨x.b, 0, none⟩)] w (Ret (ι := { T' : List Nd // OkT (restN 6 N x.n.id) T' ∧ SameT T T' }) (fun _ => .tuple #[]) fun T' => blk t 83 [.map (some mb)] :: mapS mb (T'.1.map kp) :: (nodesL T'.1 ++ H)) := by
  obtain ⟨rk, hrk⟩ := hsk.rk
  refine enterG (fn := Tryz.f48) 49 [.pointer (some ⟨t, 0, none⟩), .pointer (some ⟨x.b, 0, none⟩)] Tryz.func48 (by kernel_rfl) (by kernel_rfl) (by kernel_rfl) ?_
  refine scopeG 0 (fun (s : List Nd × Nd) => [(0, .pointer (some ⟨t, 0, none⟩)), (1, .pointer (some ⟨s.2.b, 0, none⟩))]) (fun (s : List Nd × Nd) => (blk t 83 [.map (some mb)] :: mapS mb (s.1.map kp) :: (nodesL s.1 ++ H))) (fun k (s : List Nd × Nd) => Climb restN N x.n.id T rk k s.1 s.2) (by kernel_rfl) (by kernel_rfl) (by kernel_rfl) (by kernel_rfl) ?_ ?_
  · skip
    rintro k ⟨T1, x1⟩ hC K hK
    obtain ⟨⟨N1, hT1, hs1, hb1, hr1, he⟩, hsame, ⟨i, hi⟩, hle⟩ := hC
    simp only at hT1 hsame hi hle he
    have hm := List.mem_of_getElem? hi
    have hnd := hs1.nd
    have hpos := hr1.pos (hT1.mem_n hm)
    obtain ⟨k, rfl⟩ : ∃ k', k = k' + 1 := ⟨k - 1, by omega⟩
    have hgx := hT1.at hnd hi
    have htest := rest_test hT1 hm
    cases hg : gt N1 x1.n.par with
    | none =>
      obtain ⟨R, hR, hR2⟩ := perm1 hi
      refine PT.open1 (hR) ?_
      refine seqR (by kernel_rfl) ?_
      refine seqR (by kernel_rfl) ?_
      refine regionR 14 (by kernel_rfl) (by kernel_rfl) ?_
      refine (runR (H := (blk t 83 [.map (some mb)] :: mapS mb (T1.map kp) :: blk x1.b 80 [.int .i64 x1.n.id, .int .i64 x1.n.par, .int .i64 x1.n.wt, .int .i64 x1.n.pass, .bool x1.n.thr, .bool x1.n.rdy, .int .i64 x1.n.now, .pointer (some ⟨x1.ib, 0, none⟩)] :: idxS x1.ib 60 x1.q :: (nodesL R ++ H))) (z := 7) 7 [0, 1, 11] [(0, .pointer (some ⟨t, 0, none⟩)), (1, .pointer (some ⟨x1.b, 0, none⟩)), (11, .bool (!x1.n.rdy))] [(⟨x1.b, 5, none⟩, .bool x1.n.rdy)] (hasC (blkAt (T := 80) (cs := [.int .i64 x1.n.id, .int .i64 x1.n.par, .int .i64 x1.n.wt, .int .i64 x1.n.pass, .bool x1.n.thr, .bool x1.n.rdy, .int .i64 x1.n.now, .pointer (some ⟨x1.ib, 0, none⟩)]) 2 rfl rfl) has0) (fun _ => by kernel_rfl) ?_ : RT _ _ _ _ _ _ 14 _)
      refine (segR (ι := Unit) (z := 0) 7 (fun _ => [(0, .pointer (some ⟨t, 0, none⟩)), (1, .pointer (some ⟨x1.b, 0, none⟩)), (18, .bool ((!x1.n.rdy) || (decide ((x1.q.length : Int) > 0))))]) (fun _ => (blk t 83 [.map (some mb)] :: mapS mb (T1.map kp) :: blk x1.b 80 [.int .i64 x1.n.id, .int .i64 x1.n.par, .int .i64 x1.n.wt, .int .i64 x1.n.pass, .bool x1.n.thr, .bool x1.n.rdy, .int .i64 x1.n.now, .pointer (some ⟨x1.ib, 0, none⟩)] :: idxS x1.ib 60 x1.q :: (nodesL R ++ H))) ?_ (fun _ => ?_) : RT _ _ _ _ _ _ 7 _)
      · cases hg7 : (!x1.n.rdy) with
        | true =>
          refine (run0 (z := 0) 7 [0, 1, 18] [(0, .pointer (some ⟨t, 0, none⟩)), (1, .pointer (some ⟨x1.b, 0, none⟩)), (18, .bool true)] (fun _ => by kernel_rfl) (endR ?_) : RT _ _ _ _ _ _ 7 _)
          refine PT.keep (L' := [(0, .pointer (some ⟨t, 0, none⟩)), (1, .pointer (some ⟨x1.b, 0, none⟩)), (18, .bool (true || (decide ((x1.q.length : Int) > 0))))]) [0, 1, 18] rfl ?_
          exact midR () rfl rfl
        | false =>
          refine (runR (H := (blk t 83 [.map (some mb)] :: mapS mb (T1.map kp) :: blk x1.b 80 [.int .i64 x1.n.id, .int .i64 x1.n.par, .int .i64 x1.n.wt, .int .i64 x1.n.pass, .bool x1.n.thr, .bool x1.n.rdy, .int .i64 x1.n.now, .pointer (some ⟨x1.ib, 0, none⟩)] :: idxS x1.ib 60 x1.q :: (nodesL R ++ H))) (z := 3) 4 [0, 1, 11, 15] [(0, .pointer (some ⟨t, 0, none⟩)), (1, .pointer (some ⟨x1.b, 0, none⟩)), (11, .bool false), (15, .pointer (some ⟨x1.ib, 0, none⟩))] [(⟨x1.b, 7, none⟩, .pointer (some ⟨x1.ib, 0, none⟩))] (hasC (blkAt (T := 80) (cs := [.int .i64 x1.n.id, .int .i64 x1.n.par, .int .i64 x1.n.wt, .int .i64 x1.n.pass, .bool x1.n.thr, .bool x1.n.rdy, .int .i64 x1.n.now, .pointer (some ⟨x1.ib, 0, none⟩)]) 2 rfl rfl) has0) (fun _ => by kernel_rfl) ?_ : RT _ _ _ _ _ _ 7 _)
          refine (stepR (z := 2) (callS 68 [.pointer (some ⟨x1.ib, 0, none⟩)] (some 16) (fun _ => .int .i64 (x1.q.length : Int)) (fun (_ : Unit) => (blk t 83 [.map (some mb)] :: mapS mb (T1.map kp) :: blk x1.b 80 [.int .i64 x1.n.id, .int .i64 x1.n.par, .int .i64 x1.n.wt, .int .i64 x1.n.pass, .bool x1.n.thr, .bool x1.n.rdy, .int .i64 x1.n.now, .pointer (some ⟨x1.ib, 0, none⟩)] :: idxS x1.ib 60 x1.q :: (nodesL R ++ H))) (fun _ => by kernel_rfl) (same_at 3 rfl (len_idx _ x1.ib 60 x1.q))) (fun _ => ?_) : RT _ _ _ _ _ _ 3 _)
          refine (run0 (z := 0) 2 [0, 1, 18] [(0, .pointer (some ⟨t, 0, none⟩)), (1, .pointer (some ⟨x1.b, 0, none⟩)), (18, .bool (decide ((x1.q.length : Int) > 0)))] (fun _ => by kernel_rfl) (endR ?_) : RT _ _ _ _ _ _ 2 _)
          refine PT.keep (L' := [(0, .pointer (some ⟨t, 0, none⟩)), (1, .pointer (some ⟨x1.b, 0, none⟩)), (18, .bool (false || (decide ((x1.q.length : Int) > 0))))]) [0, 1, 18] rfl ?_
          exact midR () rfl rfl
      refine endR ?_
      refine condR (b := (!x1.n.rdy) || (decide ((x1.q.length : Int) > 0))) (by kernel_rfl) (fun _ => by kernel_rfl) (fun h1 => ?_) (fun h1 => ?_)
      · skip
        refine PT.close1 x1 (hR) ?_
        refine retR (by kernel_rfl) ?_
        refine thenV ?_
        refine jumpV ?_
        refine done0 (.tuple #[]) (fun _ => by kernel_rfl) (fun w hs => ?_) .ret (.inr rfl)
        exact ⟨⟨T1, by rw [he, restN, hgx]; simp only [if_pos (htest.1 h1)]; exact hT1, hsame⟩, rfl, hs⟩
      · skip
        refine skipR (by kernel_rfl) ?_
        refine seqR (by kernel_rfl) ?_
        refine regionR 5 (by kernel_rfl) (by kernel_rfl) ?_
        refine (run0 (z := 1) 4 [0, 1, 22] [(0, .pointer (some ⟨t, 0, none⟩)), (1, .pointer (some ⟨x1.b, 0, none⟩)), (22, .pointer (some ⟨x1.b, 5, none⟩))] (fun _ => by kernel_rfl) ?_ : RT _ _ _ _ _ _ 5 _)
        refine (RT.pick 2 rfl ?_ : RT _ _ _ (blk t 83 [.map (some mb)] :: mapS mb (T1.map kp) :: blk x1.b 80 [.int .i64 x1.n.id, .int .i64 x1.n.par, .int .i64 x1.n.wt, .int .i64 x1.n.pass, .bool x1.n.thr, .bool x1.n.rdy, .int .i64 x1.n.now, .pointer (some ⟨x1.ib, 0, none⟩)] :: idxS x1.ib 60 x1.q :: (nodesL R ++ H)) _ _ 1 _)
        refine (stepR (z := 0) (storeS [(5, .bool false)] [.int .i64 x1.n.id, .int .i64 x1.n.par, .int .i64 x1.n.wt, .int .i64 x1.n.pass, .bool x1.n.thr, .bool false, .int .i64 x1.n.now, .pointer (some ⟨x1.ib, 0, none⟩)] (fun _ => by kernel_rfl) (by kernel_rfl) (by kernel_rfl)) (fun _ => ?_) : RT _ _ _ _ _ _ 1 _)
        refine endR ?_
        refine seqR (by kernel_rfl) ?_
        refine drawR (fun w => Sat w (blk x1.b 80 [.int .i64 x1.n.id, .int .i64 x1.n.par, .int .i64 x1.n.wt, .int .i64 x1.n.pass, .bool x1.n.thr, .bool false, .int .i64 x1.n.now, .pointer (some ⟨x1.ib, 0, none⟩)] :: blk t 83 [.map (some mb)] :: mapS mb (T1.map kp) :: idxS x1.ib 60 x1.q :: (nodesL R ++ H))) [] 11 (by kernel_rfl) (by kernel_rfl) (by kernel_rfl) (fun _ h => by first | exact h | exact h.tail | exact h.tail.tail | exact h.tail.tail.tail | exact h.tail.tail.tail.tail) ?_
        refine takesR [0, 1, 2, 3, 4, 5, 6, 7, 8] [0, 1, 26, 31] 2 [true, true, true, true, true, true, true, true, true, false, false] [(0, .pointer (some ⟨t, 0, none⟩)), (1, .pointer (some ⟨x1.b, 0, none⟩)), (26, .map (some mb)), (31, .int .i64 x1.n.par)] [(⟨t, 0, none⟩, .map (some mb)), (⟨x1.b, 1, none⟩, .int .i64 x1.n.par)] rfl (fun _ d _ _ _ h => by cases d <;> exact h) (fun _ h => by first | exact h | exact h.tail | exact h.tail.tail | exact h.tail.tail.tail | exact h.tail.tail.tail.tail) (hasC (blkAt (T := 83) (cs := [.map (some mb)]) 1 rfl rfl) (hasC (blkAt (T := 80) (cs := [.int .i64 x1.n.id, .int .i64 x1.n.par, .int .i64 x1.n.wt, .int .i64 x1.n.pass, .bool x1.n.thr, .bool false, .int .i64 x1.n.now, .pointer (some ⟨x1.ib, 0, none⟩)]) 0 rfl rfl) has0)) (fun _ => by kernel_rfl) ?_
        refine takeR1 9 1 [true, true, true, true, true, true, true, true, true, true, false] rfl rfl (by kernel_rfl) (fun _ d _ _ _ h => by cases d <;> exact h) (fun _ h => by first | exact h | exact h.tail | exact h.tail.tail | exact h.tail.tail.tail | exact h.tail.tail.tail.tail) (lookY 81 (.tmp 26) (.tmp 31) false mb x1.n.par (T1.map kp) (.pointer none) (.pointer none) 3 76 (some 32) (fun _ => by kernel_rfl) (by kernel_rfl) (by kernel_rfl) (fun _ => by kernel_rfl) (fun _ => by kernel_rfl) Tryz.underlying81 (by kernel_rfl) (fun _ => by kernel_rfl) (mapAt (H := (blk x1.b 80 [.int .i64 x1.n.id, .int .i64 x1.n.par, .int .i64 x1.n.wt, .int .i64 x1.n.pass, .bool x1.n.thr, .bool false, .int .i64 x1.n.now, .pointer (some ⟨x1.ib, 0, none⟩)] :: blk t 83 [.map (some mb)] :: mapS mb (T1.map kp) :: idxS x1.ib 60 x1.q :: (nodesL R ++ H))) (i := 2) rfl) (by rw [lk_none hT1 hg]; rfl)) ?_
        refine takesR [10] [0, 1, 4] 0 [true, true, true, true, true, true, true, true, true, true, true] [(0, .pointer (some ⟨t, 0, none⟩)), (1, .pointer (some ⟨x1.b, 0, none⟩)), (4, .pointer none)] [] rfl (fun _ d _ _ _ h => by cases d <;> exact h) (fun _ h => by first | exact h | exact h.tail | exact h.tail.tail | exact h.tail.tail.tail | exact h.tail.tail.tail.tail) has0 (fun _ => by kernel_rfl) ?_
        refine drawnR (by kernel_rfl) ?_
        refine seqR (by kernel_rfl) ?_
        refine seqR (by kernel_rfl) ?_
        refine drawR (fun w => Sat w (blk x1.b 80 [.int .i64 x1.n.id, .int .i64 x1.n.par, .int .i64 x1.n.wt, .int .i64 x1.n.pass, .bool x1.n.thr, .bool false, .int .i64 x1.n.now, .pointer (some ⟨x1.ib, 0, none⟩)] :: blk t 83 [.map (some mb)] :: mapS mb (T1.map kp) :: idxS x1.ib 60 x1.q :: (nodesL R ++ H))) [] 15 (by kernel_rfl) (by kernel_rfl) (by kernel_rfl) (fun _ h => by first | exact h | exact h.tail | exact h.tail.tail | exact h.tail.tail.tail | exact h.tail.tail.tail.tail) ?_
        refine takesR [0, 1, 2, 3, 4, 5, 6, 7, 8, 9, 10, 11, 12, 13, 14] [0, 1, 4, 47] 0 [true, true, true, true, true, true, true, true, true, true, true, true, true, true, true] [(0, .pointer (some ⟨t, 0, none⟩)), (1, .pointer (some ⟨x1.b, 0, none⟩)), (4, .pointer none), (47, .bool true)] [] rfl (fun _ d _ _ _ h => by cases d <;> exact h) (fun _ h => by first | exact h | exact h.tail | exact h.tail.tail | exact h.tail.tail.tail | exact h.tail.tail.tail.tail) has0 (fun _ => by kernel_rfl) ?_
        refine drawnR (by kernel_rfl) ?_
        refine condR (b := true) (by kernel_rfl) (fun _ => by kernel_rfl) (fun _ => ?_) (fun h => by cases h)
        refine retR (by kernel_rfl) ?_
        refine thenV ?_
        refine jumpV ?_
        refine PT.pick 0 rfl ?_
        refine PT.pick 2 rfl ?_
        refine PT.pick 2 rfl ?_
        refine PT.close1 ({ x1 with n := rsF x1.n }) (hR2 _) ?_
        have hsm : SameT T1 (T1.set i { x1 with n := rsF x1.n }) := SameT.set hi ⟨rfl, rfl, rfl⟩
        have h2 : ¬ (x1.n.rdy = false ∨ kidR N1 x1.n.id ≠ []) := fun h => by rw [htest.2 h] at h1; cases h1
        rw [← hsm.kp]
        refine done0 (.tuple #[]) (fun _ => by kernel_rfl) (fun w hs => ?_) .ret (.inr rfl)
        exact ⟨⟨_, by rw [he, restN, hgx]; simp only [if_neg h2, hg]; exact hT1.one hnd hi rsF_skel (.inl (gt_none.1 hg)), hsame.trans hsm⟩, rfl, hs⟩
    | some y =>
      obtain ⟨j, p, hj, hpn, hpk⟩ := hT1.get hg
      have hij : i ≠ j := fun e => by subst e; rw [hi] at hj; cases hj; exact hs1.ne_par (hT1.mem_n hm) hpk
      obtain ⟨R, hR, hR2⟩ := perm2 hi hj hij
      refine PT.open2 (hR) ?_
      refine seqR (by kernel_rfl) ?_
      refine seqR (by kernel_rfl) ?_
      refine regionR 14 (by kernel_rfl) (by kernel_rfl) ?_
      refine (runR (H := (blk t 83 [.map (some mb)] :: mapS mb (T1.map kp) :: blk x1.b 80 [.int .i64 x1.n.id, .int .i64 x1.n.par, .int .i64 x1.n.wt, .int .i64 x1.n.pass, .bool x1.n.thr, .bool x1.n.rdy, .int .i64 x1.n.now, .pointer (some ⟨x1.ib, 0, none⟩)] :: idxS x1.ib 60 x1.q :: blk p.b 80 [.int .i64 p.n.id, .int .i64 p.n.par, .int .i64 p.n.wt, .int .i64 p.n.pass, .bool p.n.thr, .bool p.n.rdy, .int .i64 p.n.now, .pointer (some ⟨p.ib, 0, none⟩)] :: idxS p.ib 60 p.q :: (nodesL R ++ H))) (z := 7) 7 [0, 1, 11] [(0, .pointer (some ⟨t, 0, none⟩)), (1, .pointer (some ⟨x1.b, 0, none⟩)), (11, .bool (!x1.n.rdy))] [(⟨x1.b, 5, none⟩, .bool x1.n.rdy)] (hasC (blkAt (T := 80) (cs := [.int .i64 x1.n.id, .int .i64 x1.n.par, .int .i64 x1.n.wt, .int .i64 x1.n.pass, .bool x1.n.thr, .bool x1.n.rdy, .int .i64 x1.n.now, .pointer (some ⟨x1.ib, 0, none⟩)]) 2 rfl rfl) has0) (fun _ => by kernel_rfl) ?_ : RT _ _ _ _ _ _ 14 _)
      refine (segR (ι := Unit) (z := 0) 7 (fun _ => [(0, .pointer (some ⟨t, 0, none⟩)), (1, .pointer (some ⟨x1.b, 0, none⟩)), (18, .bool ((!x1.n.rdy) || (decide ((x1.q.length : Int) > 0))))]) (fun _ => (blk t 83 [.map (some mb)] :: mapS mb (T1.map kp) :: blk x1.b 80 [.int .i64 x1.n.id, .int .i64 x1.n.par, .int .i64 x1.n.wt, .int .i64 x1.n.pass, .bool x1.n.thr, .bool x1.n.rdy, .int .i64 x1.n.now, .pointer (some ⟨x1.ib, 0, none⟩)] :: idxS x1.ib 60 x1.q :: blk p.b 80 [.int .i64 p.n.id, .int .i64 p.n.par, .int .i64 p.n.wt, .int .i64 p.n.pass, .bool p.n.thr, .bool p.n.rdy, .int .i64 p.n.now, .pointer (some ⟨p.ib, 0, none⟩)] :: idxS p.ib 60 p.q :: (nodesL R ++ H))) ?_ (fun _ => ?_) : RT _ _ _ _ _ _ 7 _)
      · cases hg7 : (!x1.n.rdy) with
        | true =>
          refine (run0 (z := 0) 7 [0, 1, 18] [(0, .pointer (some ⟨t, 0, none⟩)), (1, .pointer (some ⟨x1.b, 0, none⟩)), (18, .bool true)] (fun _ => by kernel_rfl) (endR ?_) : RT _ _ _ _ _ _ 7 _)
          refine PT.keep (L' := [(0, .pointer (some ⟨t, 0, none⟩)), (1, .pointer (some ⟨x1.b, 0, none⟩)), (18, .bool (true || (decide ((x1.q.length : Int) > 0))))]) [0, 1, 18] rfl ?_
          exact midR () rfl rfl
        | false =>
          refine (runR (H := (blk t 83 [.map (some mb)] :: mapS mb (T1.map kp) :: blk x1.b 80 [.int .i64 x1.n.id, .int .i64 x1.n.par, .int .i64 x1.n.wt, .int .i64 x1.n.pass, .bool x1.n.thr, .bool x1.n.rdy, .int .i64 x1.n.now, .pointer (some ⟨x1.ib, 0, none⟩)] :: idxS x1.ib 60 x1.q :: blk p.b 80 [.int .i64 p.n.id, .int .i64 p.n.par, .int .i64 p.n.wt, .int .i64 p.n.pass, .bool p.n.thr, .bool p.n.rdy, .int .i64 p.n.now, .pointer (some ⟨p.ib, 0, none⟩)] :: idxS p.ib 60 p.q :: (nodesL R ++ H))) (z := 3) 4 [0, 1, 11, 15] [(0, .pointer (some ⟨t, 0, none⟩)), (1, .pointer (some ⟨x1.b, 0, none⟩)), (11, .bool false), (15, .pointer (some ⟨x1.ib, 0, none⟩))] [(⟨x1.b, 7, none⟩, .pointer (some ⟨x1.ib, 0, none⟩))] (hasC (blkAt (T := 80) (cs := [.int .i64 x1.n.id, .int .i64 x1.n.par, .int .i64 x1.n.wt, .int .i64 x1.n.pass, .bool x1.n.thr, .bool x1.n.rdy, .int .i64 x1.n.now, .pointer (some ⟨x1.ib, 0, none⟩)]) 2 rfl rfl) has0) (fun _ => by kernel_rfl) ?_ : RT _ _ _ _ _ _ 7 _)
          refine (stepR (z := 2) (callS 68 [.pointer (some ⟨x1.ib, 0, none⟩)] (some 16) (fun _ => .int .i64 (x1.q.length : Int)) (fun (_ : Unit) => (blk t 83 [.map (some mb)] :: mapS mb (T1.map kp) :: blk x1.b 80 [.int .i64 x1.n.id, .int .i64 x1.n.par, .int .i64 x1.n.wt, .int .i64 x1.n.pass, .bool x1.n.thr, .bool x1.n.rdy, .int .i64 x1.n.now, .pointer (some ⟨x1.ib, 0, none⟩)] :: idxS x1.ib 60 x1.q :: blk p.b 80 [.int .i64 p.n.id, .int .i64 p.n.par, .int .i64 p.n.wt, .int .i64 p.n.pass, .bool p.n.thr, .bool p.n.rdy, .int .i64 p.n.now, .pointer (some ⟨p.ib, 0, none⟩)] :: idxS p.ib 60 p.q :: (nodesL R ++ H))) (fun _ => by kernel_rfl) (same_at 3 rfl (len_idx _ x1.ib 60 x1.q))) (fun _ => ?_) : RT _ _ _ _ _ _ 3 _)
          refine (run0 (z := 0) 2 [0, 1, 18] [(0, .pointer (some ⟨t, 0, none⟩)), (1, .pointer (some ⟨x1.b, 0, none⟩)), (18, .bool (decide ((x1.q.length : Int) > 0)))] (fun _ => by kernel_rfl) (endR ?_) : RT _ _ _ _ _ _ 2 _)
          refine PT.keep (L' := [(0, .pointer (some ⟨t, 0, none⟩)), (1, .pointer (some ⟨x1.b, 0, none⟩)), (18, .bool (false || (decide ((x1.q.length : Int) > 0))))]) [0, 1, 18] rfl ?_
          exact midR () rfl rfl
      refine endR ?_
      refine condR (b := (!x1.n.rdy) || (decide ((x1.q.length : Int) > 0))) (by kernel_rfl) (fun _ => by kernel_rfl) (fun h1 => ?_) (fun h1 => ?_)
      · skip
        refine PT.close2 x1 p (hR) ?_
        refine retR (by kernel_rfl) ?_
        refine thenV ?_
        refine jumpV ?_
        refine done0 (.tuple #[]) (fun _ => by kernel_rfl) (fun w hs => ?_) .ret (.inr rfl)
        exact ⟨⟨T1, by rw [he, restN, hgx]; simp only [if_pos (htest.1 h1)]; exact hT1, hsame⟩, rfl, hs⟩
      · skip
        have h2 : ¬ (x1.n.rdy = false ∨ kidR N1 x1.n.id ≠ []) := fun h => by rw [htest.2 h] at h1; cases h1
        have hrd : x1.n.rdy = true := by cases hc : x1.n.rdy with | true => rfl | false => exact absurd (.inl hc) h2
        obtain ⟨_, hql, q, hdr, hT2, hsm, hs2, hb2⟩ := rest_round hT1 hs1 hb1 hi hj hpk hrd
        refine skipR (by kernel_rfl) ?_
        refine seqR (by kernel_rfl) ?_
        refine regionR 5 (by kernel_rfl) (by kernel_rfl) ?_
        refine (run0 (z := 1) 4 [0, 1, 22] [(0, .pointer (some ⟨t, 0, none⟩)), (1, .pointer (some ⟨x1.b, 0, none⟩)), (22, .pointer (some ⟨x1.b, 5, none⟩))] (fun _ => by kernel_rfl) ?_ : RT _ _ _ _ _ _ 5 _)
        refine (RT.pick 2 rfl ?_ : RT _ _ _ (blk t 83 [.map (some mb)] :: mapS mb (T1.map kp) :: blk x1.b 80 [.int .i64 x1.n.id, .int .i64 x1.n.par, .int .i64 x1.n.wt, .int .i64 x1.n.pass, .bool x1.n.thr, .bool x1.n.rdy, .int .i64 x1.n.now, .pointer (some ⟨x1.ib, 0, none⟩)] :: idxS x1.ib 60 x1.q :: blk p.b 80 [.int .i64 p.n.id, .int .i64 p.n.par, .int .i64 p.n.wt, .int .i64 p.n.pass, .bool p.n.thr, .bool p.n.rdy, .int .i64 p.n.now, .pointer (some ⟨p.ib, 0, none⟩)] :: idxS p.ib 60 p.q :: (nodesL R ++ H)) _ _ 1 _)
        refine (stepR (z := 0) (storeS [(5, .bool false)] [.int .i64 x1.n.id, .int .i64 x1.n.par, .int .i64 x1.n.wt, .int .i64 x1.n.pass, .bool x1.n.thr, .bool false, .int .i64 x1.n.now, .pointer (some ⟨x1.ib, 0, none⟩)] (fun _ => by kernel_rfl) (by kernel_rfl) (by kernel_rfl)) (fun _ => ?_) : RT _ _ _ _ _ _ 1 _)
        refine endR ?_
        refine seqR (by kernel_rfl) ?_
        refine drawR (fun w => Sat w (blk x1.b 80 [.int .i64 x1.n.id, .int .i64 x1.n.par, .int .i64 x1.n.wt, .int .i64 x1.n.pass, .bool x1.n.thr, .bool false, .int .i64 x1.n.now, .pointer (some ⟨x1.ib, 0, none⟩)] :: blk t 83 [.map (some mb)] :: mapS mb (T1.map kp) :: idxS x1.ib 60 x1.q :: blk p.b 80 [.int .i64 p.n.id, .int .i64 p.n.par, .int .i64 p.n.wt, .int .i64 p.n.pass, .bool p.n.thr, .bool p.n.rdy, .int .i64 p.n.now, .pointer (some ⟨p.ib, 0, none⟩)] :: idxS p.ib 60 p.q :: (nodesL R ++ H))) [] 11 (by kernel_rfl) (by kernel_rfl) (by kernel_rfl) (fun _ h => by first | exact h | exact h.tail | exact h.tail.tail | exact h.tail.tail.tail | exact h.tail.tail.tail.tail) ?_
        refine takesR [0, 1, 2, 3, 4, 5, 6, 7, 8] [0, 1, 26, 31] 2 [true, true, true, true, true, true, true, true, true, false, false] [(0, .pointer (some ⟨t, 0, none⟩)), (1, .pointer (some ⟨x1.b, 0, none⟩)), (26, .map (some mb)), (31, .int .i64 x1.n.par)] [(⟨t, 0, none⟩, .map (some mb)), (⟨x1.b, 1, none⟩, .int .i64 x1.n.par)] rfl (fun _ d _ _ _ h => by cases d <;> exact h) (fun _ h => by first | exact h | exact h.tail | exact h.tail.tail | exact h.tail.tail.tail | exact h.tail.tail.tail.tail) (hasC (blkAt (T := 83) (cs := [.map (some mb)]) 1 rfl rfl) (hasC (blkAt (T := 80) (cs := [.int .i64 x1.n.id, .int .i64 x1.n.par, .int .i64 x1.n.wt, .int .i64 x1.n.pass, .bool x1.n.thr, .bool false, .int .i64 x1.n.now, .pointer (some ⟨x1.ib, 0, none⟩)]) 0 rfl rfl) has0)) (fun _ => by kernel_rfl) ?_
        refine takeR1 9 1 [true, true, true, true, true, true, true, true, true, true, false] rfl rfl (by kernel_rfl) (fun _ d _ _ _ h => by cases d <;> exact h) (fun _ h => by first | exact h | exact h.tail | exact h.tail.tail | exact h.tail.tail.tail | exact h.tail.tail.tail.tail) (lookY 81 (.tmp 26) (.tmp 31) false mb x1.n.par (T1.map kp) (.pointer none) (.pointer (some ⟨p.b, 0, none⟩)) 3 76 (some 32) (fun _ => by kernel_rfl) (by kernel_rfl) (by kernel_rfl) (fun _ => by kernel_rfl) (fun _ => by kernel_rfl) Tryz.underlying81 (by kernel_rfl) (fun _ => by kernel_rfl) (mapAt (H := (blk x1.b 80 [.int .i64 x1.n.id, .int .i64 x1.n.par, .int .i64 x1.n.wt, .int .i64 x1.n.pass, .bool x1.n.thr, .bool false, .int .i64 x1.n.now, .pointer (some ⟨x1.ib, 0, none⟩)] :: blk t 83 [.map (some mb)] :: mapS mb (T1.map kp) :: idxS x1.ib 60 x1.q :: blk p.b 80 [.int .i64 p.n.id, .int .i64 p.n.par, .int .i64 p.n.wt, .int .i64 p.n.pass, .bool p.n.thr, .bool p.n.rdy, .int .i64 p.n.now, .pointer (some ⟨p.ib, 0, none⟩)] :: idxS p.ib 60 p.q :: (nodesL R ++ H))) (i := 2) rfl) (by rw [lk_some hT1 hnd hj hpk]; rfl)) ?_
        refine takesR [10] [0, 1, 4] 0 [true, true, true, true, true, true, true, true, true, true, true] [(0, .pointer (some ⟨t, 0, none⟩)), (1, .pointer (some ⟨x1.b, 0, none⟩)), (4, .pointer (some ⟨p.b, 0, none⟩))] [] rfl (fun _ d _ _ _ h => by cases d <;> exact h) (fun _ h => by first | exact h | exact h.tail | exact h.tail.tail | exact h.tail.tail.tail | exact h.tail.tail.tail.tail) has0 (fun _ => by kernel_rfl) ?_
        refine drawnR (by kernel_rfl) ?_
        refine seqR (by kernel_rfl) ?_
        refine seqR (by kernel_rfl) ?_
        refine PT.pick 5 rfl ?_
        refine drawR (fun w => Sat w (blk x1.b 80 [.int .i64 x1.n.id, .int .i64 x1.n.par, .int .i64 x1.n.wt, .int .i64 x1.n.pass, .bool x1.n.thr, .bool false, .int .i64 x1.n.now, .pointer (some ⟨x1.ib, 0, none⟩)] :: blk t 83 [.map (some mb)] :: mapS mb (T1.map kp) :: idxS x1.ib 60 x1.q :: blk p.b 80 [.int .i64 p.n.id, .int .i64 p.n.par, .int .i64 p.n.wt, .int .i64 p.n.pass, .bool p.n.thr, .bool p.n.rdy, .int .i64 p.n.now, .pointer (some ⟨p.ib, 0, none⟩)] :: (nodesL R ++ H))) [] 15 (by kernel_rfl) (by kernel_rfl) (by kernel_rfl) (fun _ h => by first | exact h | exact h.tail | exact h.tail.tail | exact h.tail.tail.tail | exact h.tail.tail.tail.tail) ?_
        refine takesR [0, 1, 2, 3, 4, 5, 6, 7, 8, 9, 10, 11] [0, 1, 4, 35, 39, 44] 3 [true, true, true, true, true, true, true, true, true, true, true, true, false, false, false] [(0, .pointer (some ⟨t, 0, none⟩)), (1, .pointer (some ⟨x1.b, 0, none⟩)), (4, .pointer (some ⟨p.b, 0, none⟩)), (35, .bool false), (39, .pointer (some ⟨p.ib, 0, none⟩)), (44, .int .i64 x1.n.id)] [(⟨p.b, 7, none⟩, .pointer (some ⟨p.ib, 0, none⟩)), (⟨x1.b, 0, none⟩, .int .i64 x1.n.id)] rfl (fun _ d _ _ _ h => by cases d <;> exact h) (fun _ h => by first | exact h | exact h.tail | exact h.tail.tail | exact h.tail.tail.tail | exact h.tail.tail.tail.tail) (hasC (blkAt (T := 80) (cs := [.int .i64 p.n.id, .int .i64 p.n.par, .int .i64 p.n.wt, .int .i64 p.n.pass, .bool p.n.thr, .bool p.n.rdy, .int .i64 p.n.now, .pointer (some ⟨p.ib, 0, none⟩)]) 4 rfl rfl) (hasC (blkAt (T := 80) (cs := [.int .i64 x1.n.id, .int .i64 x1.n.par, .int .i64 x1.n.wt, .int .i64 x1.n.pass, .bool x1.n.thr, .bool false, .int .i64 x1.n.now, .pointer (some ⟨x1.ib, 0, none⟩)]) 0 rfl rfl) has0)) (fun _ => by kernel_rfl) ?_
        refine oneR 12 2 [true, true, true, true, true, true, true, true, true, true, true, true, true, false, false] rfl rfl (by kernel_rfl) (callS 69 [.pointer (some ⟨p.ib, 0, none⟩), .int .i64 x1.n.id] (some 45) (fun _ => .nilIface) (fun _ => (idxS p.ib 60 q :: blk x1.b 80 [.int .i64 x1.n.id, .int .i64 x1.n.par, .int .i64 x1.n.wt, .int .i64 x1.n.pass, .bool x1.n.thr, .bool false, .int .i64 x1.n.now, .pointer (some ⟨x1.ib, 0, none⟩)] :: blk t 83 [.map (some mb)] :: mapS mb (T1.map kp) :: idxS x1.ib 60 x1.q :: blk p.b 80 [.int .i64 p.n.id, .int .i64 p.n.par, .int .i64 p.n.wt, .int .i64 p.n.pass, .bool p.n.thr, .bool p.n.rdy, .int .i64 p.n.now, .pointer (some ⟨p.ib, 0, none⟩)] :: (nodesL R ++ H))) (fun _ => by kernel_rfl) (drop_ok hdr hql _ _)) (fun _ _ h hn => by first | exact h | exact h.tail | exact h.tail.tail | exact h.tail.tail.tail | exact h.tail.tail.tail.tail | exact absurd hn (by decide)) (fun _ => ?_)
        refine takesR [13, 14] [0, 1, 4, 47] 0 [true, true, true, true, true, true, true, true, true, true, true, true, true, true, true] [(0, .pointer (some ⟨t, 0, none⟩)), (1, .pointer (some ⟨x1.b, 0, none⟩)), (4, .pointer (some ⟨p.b, 0, none⟩)), (47, .bool false)] [] rfl (fun _ d _ _ _ h => by cases d <;> exact h) (fun _ h => by first | exact h | exact h.tail | exact h.tail.tail | exact h.tail.tail.tail | exact h.tail.tail.tail.tail) has0 (fun _ => by kernel_rfl) ?_
        refine drawnR (by kernel_rfl) ?_
        refine condR (b := false) (by kernel_rfl) (fun _ => by kernel_rfl) (fun h => by cases h) (fun _ => ?_)
        refine skipR (by kernel_rfl) ?_
        refine seqR (by kernel_rfl) ?_
        refine regionR 2 (by kernel_rfl) (by kernel_rfl) ?_
        refine (run0 (z := 0) 2 [0, 1] [(0, .pointer (some ⟨t, 0, none⟩)), (1, .pointer (some ⟨p.b, 0, none⟩))] (fun _ => by kernel_rfl) (endR ?_) : RT _ _ _ _ _ _ 2 _)
        refine gotoR 0 (by kernel_rfl) (by kernel_rfl) ?_
        refine PT.pick 0 rfl ?_
        refine PT.pick 5 rfl ?_
        refine PT.pick 5 rfl ?_
        refine PT.pick 3 rfl ?_
        refine PT.pick 5 rfl ?_
        refine PT.pick 5 rfl ?_
        refine PT.close2 ({ x1 with n := rsF x1.n }) ({ p with q := q }) (hR2 _ _) ?_
        rw [← hsm.kp]
        have hpj : ((T1.set i { x1 with n := rsF x1.n }).set j { p with q := q })[j]? = some { p with q := q } := by rw [List.getElem?_set_self (by rw [List.length_set]; exact (List.getElem?_eq_some_iff.1 hj).1)]
        refine PT.keep (L' := [(0, .pointer (some ⟨t, 0, none⟩)), (1, .pointer (some ⟨p.b, 0, none⟩))]) [0, 1] rfl ?_
        exact jumpR (hK k (_, { p with q := q }) (by omega) ⟨⟨_, hT2, hs2, hb2, hr1.ups rsF_skel, by rw [he, restN, hgx]; simp only [if_neg h2, hg]; rw [hpk]; rfl⟩, hsame.trans hsm, ⟨j, hpj⟩, by have := RK.up hs1 hr1 (hT1.mem_n hm) (hT1.mem_n (List.mem_of_getElem? hj)) hpk; simp only; omega⟩)
  · skip
    intro K hK
    refine seqR (by kernel_rfl) ?_
    refine labelR (by kernel_rfl) ?_
    refine PT.keep (L' := [(0, .pointer (some ⟨t, 0, none⟩)), (1, .pointer (some ⟨x.b, 0, none⟩))]) [0, 1] rfl ?_
    refine codeR (by kernel_rfl) (hK 6 (T, x) ⟨⟨N, hT, hsk, hlb, hrk, rfl⟩, SameT.refl T, ⟨i0, hx⟩, by have := (hrk _ (hT.mem_n (List.mem_of_getElem? hx))).2.2.1; simp only; omega⟩)
end Go.Proofs.YtlhjibkkkhgonaaGreat
set_option linter.unusedVariables false
set_option linter.unusedSimpArgs false
namespace Go.Proofs.YtlhjibkkkhgonaaGreat
open Go.RowKit G
set_option maxRecDepth 100000 in
theorem ready_walk {N : List Nr} {T : List Nd} (hT : OkT N T) (hsk : SK N) (hlb : LB N) (H : List SP) (t mb : Nat) (id : Int) (r : Bool) : ∀ w, Sat w (blk t 83 [.map (some mb)] :: mapS mb (T.map kp) :: (nodesL T ++ H)) → Calls Tryz.prog 29 #[.pointer (some ⟨t, 0, none⟩), .int .i64 id, .bool r] w (Ret (ι := { T' : List Nd // OkT (readyN N id r).2 T' ∧ SameT T T' }) (fun _ => pqErr (readyN N id r).1) fun T' => blk t 83 [.map (some mb)] :: mapS mb (T'.1.map kp) :: (nodesL T'.1 ++ H)) := by
  refine enterG (fn := Tryz.f29) 38 [.pointer (some ⟨t, 0, none⟩), .int .i64 id, .bool r] Tryz.func29 (by kernel_rfl) (by kernel_rfl) (by kernel_rfl) ?_
  cases hg : gt N id with
  | none =>
    refine seqR (by kernel_rfl) ?_
    refine regionR 1 (by kernel_rfl) (by kernel_rfl) ?_
    refine (run0 (z := 0) 1 [0, 1, 2, 6] [(0, .pointer (some ⟨t, 0, none⟩)), (1, .int .i64 id), (2, .bool r), (6, .nilIface)] (fun _ => by kernel_rfl) (endR ?_) : RT _ _ _ _ _ _ 1 _)
    refine seqR (by kernel_rfl) ?_
    refine regionR 11 (by kernel_rfl) (by kernel_rfl) ?_
    refine (runR (H := (blk t 83 [.map (some mb)] :: mapS mb (T.map kp) :: (nodesL T ++ H))) (z := 6) 5 [0, 2, 6, 13, 14] [(0, .pointer (some ⟨t, 0, none⟩)), (2, .bool r), (6, .nilIface), (13, .map (some mb)), (14, .int .i64 id)] [(⟨t, 0, none⟩, .map (some mb))] (hasC (blkAt (T := 83) (cs := [.map (some mb)]) 0 rfl rfl) has0) (fun _ => by kernel_rfl) ?_ : RT _ _ _ _ _ _ 11 _)
    refine (stepR (z := 5) (yldS (lookY 81 (.tmp 13) (.tmp 14) true mb id (T.map kp) (.pointer none) (.tuple #[.pointer none, .bool false]) 3 76 (some 15) (fun _ => by kernel_rfl) (by kernel_rfl) (by kernel_rfl) (fun _ => by kernel_rfl) (fun _ => by kernel_rfl) Tryz.underlying81 (by kernel_rfl) (fun _ => by kernel_rfl) (mapAt (H := (blk t 83 [.map (some mb)] :: mapS mb (T.map kp) :: (nodesL T ++ H))) (i := 1) rfl) (by rw [lk_none hT hg]; rfl))) (fun _ => ?_) : RT _ _ _ _ _ _ 6 _)
    refine (run0 (z := 0) 5 [0, 2, 6, 7, 8] [(0, .pointer (some ⟨t, 0, none⟩)), (2, .bool r), (6, .nilIface), (7, .pointer none), (8, .bool false)] (fun _ => by kernel_rfl) (endR ?_) : RT _ _ _ _ _ _ 5 _)
    refine seqR (by kernel_rfl) ?_
    refine blockR 0 (by kernel_rfl) (by kernel_rfl) ?_
    refine seqR (by kernel_rfl) ?_
    refine regionR 11 (by kernel_rfl) (by kernel_rfl) ?_
    refine (run0 (z := 0) 11 [0, 2, 6, 7, 21] [(0, .pointer (some ⟨t, 0, none⟩)), (2, .bool r), (6, .nilIface), (7, .pointer none), (21, .bool true)] (fun _ => by kernel_rfl) (endR ?_) : RT _ _ _ _ _ _ 11 _)
    refine condR (b := true) (by kernel_rfl) (fun _ => by kernel_rfl) (fun _ => ?_) (fun h => by cases h)
    refine seqR (by kernel_rfl) ?_
    refine regionR 2 (by kernel_rfl) (by kernel_rfl) ?_
    refine (run0 (z := 0) 2 [6] [(6, .iface 40 (.int .i64 13))] (fun _ => by kernel_rfl) (endR ?_) : RT _ _ _ _ _ _ 2 _)
    refine retR (by kernel_rfl) ?_
    refine blockV ?_
    refine thenV ?_
    have hrn : readyN N id r = (13, N) := by rw [readyN, hg]
    refine done0 (.iface 40 (.int .i64 13)) (fun _ => by kernel_rfl) (fun w hs => ?_) .ret (.inr rfl)
    exact ⟨⟨T, by rw [hrn]; exact hT, SameT.refl T⟩, by show _ = Ending.returned (pqErr (readyN N id r).1); rw [hrn]; rfl, hs⟩
  | some y =>
    obtain ⟨i, z, hi, hzn, hzk⟩ := hT.get hg
    have hm := List.mem_of_getElem? hi
    refine seqR (by kernel_rfl) ?_
    refine regionR 1 (by kernel_rfl) (by kernel_rfl) ?_
    refine (run0 (z := 0) 1 [0, 1, 2, 6] [(0, .pointer (some ⟨t, 0, none⟩)), (1, .int .i64 id), (2, .bool r), (6, .nilIface)] (fun _ => by kernel_rfl) (endR ?_) : RT _ _ _ _ _ _ 1 _)
    refine seqR (by kernel_rfl) ?_
    refine regionR 11 (by kernel_rfl) (by kernel_rfl) ?_
    refine (runR (H := (blk t 83 [.map (some mb)] :: mapS mb (T.map kp) :: (nodesL T ++ H))) (z := 6) 5 [0, 2, 6, 13, 14] [(0, .pointer (some ⟨t, 0, none⟩)), (2, .bool r), (6, .nilIface), (13, .map (some mb)), (14, .int .i64 id)] [(⟨t, 0, none⟩, .map (some mb))] (hasC (blkAt (T := 83) (cs := [.map (some mb)]) 0 rfl rfl) has0) (fun _ => by kernel_rfl) ?_ : RT _ _ _ _ _ _ 11 _)
    refine (stepR (z := 5) (yldS (lookY 81 (.tmp 13) (.tmp 14) true mb id (T.map kp) (.pointer none) (.tuple #[.pointer (some ⟨z.b, 0, none⟩), .bool true]) 3 76 (some 15) (fun _ => by kernel_rfl) (by kernel_rfl) (by kernel_rfl) (fun _ => by kernel_rfl) (fun _ => by kernel_rfl) Tryz.underlying81 (by kernel_rfl) (fun _ => by kernel_rfl) (mapAt (H := (blk t 83 [.map (some mb)] :: mapS mb (T.map kp) :: (nodesL T ++ H))) (i := 1) rfl) (by rw [lk_some hT hsk.nd hi hzk]; rfl))) (fun _ => ?_) : RT _ _ _ _ _ _ 6 _)
    refine (run0 (z := 0) 5 [0, 2, 6, 7, 8] [(0, .pointer (some ⟨t, 0, none⟩)), (2, .bool r), (6, .nilIface), (7, .pointer (some ⟨z.b, 0, none⟩)), (8, .bool true)] (fun _ => by kernel_rfl) (endR ?_) : RT _ _ _ _ _ _ 5 _)
    refine seqR (by kernel_rfl) ?_
    refine blockR 0 (by kernel_rfl) (by kernel_rfl) ?_
    refine seqR (by kernel_rfl) ?_
    refine regionR 11 (by kernel_rfl) (by kernel_rfl) ?_
    refine (runR (H := (blk t 83 [.map (some mb)] :: mapS mb (T.map kp) :: (nodesL T ++ H))) (z := 0) 11 [0, 2, 6, 7, 21] [(0, .pointer (some ⟨t, 0, none⟩)), (2, .bool r), (6, .nilIface), (7, .pointer (some ⟨z.b, 0, none⟩)), (21, .bool (!z.n.thr))] [(⟨z.b, 4, none⟩, .bool z.n.thr)] (hasC (up (up (nodeAt (T := T) hm (j := 4) rfl))) has0) (fun _ => by kernel_rfl) (endR ?_) : RT _ _ _ _ _ _ 11 _)
    refine condR (b := !z.n.thr) (by kernel_rfl) (fun _ => by kernel_rfl) (fun h1 => ?_) (fun h1 => ?_)
    · skip
      have hth : y.thr = false := by rw [← hzn]; simpa using h1
      refine seqR (by kernel_rfl) ?_
      refine regionR 2 (by kernel_rfl) (by kernel_rfl) ?_
      refine (run0 (z := 0) 2 [6] [(6, .iface 40 (.int .i64 13))] (fun _ => by kernel_rfl) (endR ?_) : RT _ _ _ _ _ _ 2 _)
      refine retR (by kernel_rfl) ?_
      refine blockV ?_
      refine thenV ?_
      have hrn : readyN N id r = (13, N) := by rw [readyN, hg]; simp only [hth]; rfl
      refine done0 (.iface 40 (.int .i64 13)) (fun _ => by kernel_rfl) (fun w hs => ?_) .ret (.inr rfl)
      exact ⟨⟨T, by rw [hrn]; exact hT, SameT.refl T⟩, by show _ = Ending.returned (pqErr (readyN N id r).1); rw [hrn]; rfl, hs⟩
    · skip
      have hth : y.thr = true := by rw [← hzn]; simpa using h1
      refine seqR (by kernel_rfl) ?_
      refine regionR 2 (by kernel_rfl) (by kernel_rfl) ?_
      refine (run0 (z := 0) 2 [0, 6, 7, 33] [(0, .pointer (some ⟨t, 0, none⟩)), (6, .nilIface), (7, .pointer (some ⟨z.b, 0, none⟩)), (33, .bool r)] (fun _ => by kernel_rfl) (endR ?_) : RT _ _ _ _ _ _ 2 _)
      refine condR (b := r) (by kernel_rfl) (fun _ => by kernel_rfl) (fun h2 => ?_) (fun h2 => ?_)
      · skip
        refine regionR 3 (by kernel_rfl) (by kernel_rfl) ?_
        refine (run0 (z := 1) 2 [6, 35, 36] [(6, .nilIface), (35, .pointer (some ⟨t, 0, none⟩)), (36, .pointer (some ⟨z.b, 0, none⟩))] (fun _ => by kernel_rfl) ?_ : RT _ _ _ _ _ _ 3 _)
        refine (stepR (z := 0) (callS 47 [.pointer (some ⟨t, 0, none⟩), .pointer (some ⟨z.b, 0, none⟩)] (some 37) (fun (T' : { T' : List Nd // OkT (wakeN 6 N z.n.id) T' ∧ SameT T T' }) => .tuple #[]) (fun (T' : { T' : List Nd // OkT (wakeN 6 N z.n.id) T' ∧ SameT T T' }) => blk t 83 [.map (some mb)] :: mapS mb (T'.1.map kp) :: (nodesL T'.1 ++ H)) (fun _ => by kernel_rfl) (wakes_walk hT hsk hlb hi H t mb)) (fun (T' : { T' : List Nd // OkT (wakeN 6 N z.n.id) T' ∧ SameT T T' }) => ?_) : RT _ _ _ _ _ _ 1 _)
        refine endR ?_
        refine seqR (by kernel_rfl) ?_
        refine regionR 1 (by kernel_rfl) (by kernel_rfl) ?_
        refine (run0 (z := 0) 1 [6] [(6, .nilIface)] (fun _ => by kernel_rfl) (endR ?_) : RT _ _ _ _ _ _ 1 _)
        refine retR (by kernel_rfl) ?_
        have hrn : readyN N id r = (0, wakeN 6 N z.n.id) := by rw [readyN, hg]; simp only [hth, h2, if_true]; rw [← hzk]
        refine done0 (.nilIface) (fun _ => by kernel_rfl) (fun w hs => ?_) .ret (.inr rfl)
        exact ⟨⟨T'.1, by rw [hrn]; exact T'.2.1, T'.2.2⟩, by show _ = Ending.returned (pqErr (readyN N id r).1); rw [hrn]; rfl, hs⟩
      · skip
        refine regionR 3 (by kernel_rfl) (by kernel_rfl) ?_
        refine (run0 (z := 1) 2 [6, 18, 19] [(6, .nilIface), (18, .pointer (some ⟨t, 0, none⟩)), (19, .pointer (some ⟨z.b, 0, none⟩))] (fun _ => by kernel_rfl) ?_ : RT _ _ _ _ _ _ 3 _)
        refine (stepR (z := 0) (callS 48 [.pointer (some ⟨t, 0, none⟩), .pointer (some ⟨z.b, 0, none⟩)] (some 20) (fun (T' : { T' : List Nd // OkT (restN 6 N z.n.id) T' ∧ SameT T T' }) => .tuple #[]) (fun (T' : { T' : List Nd // OkT (restN 6 N z.n.id) T' ∧ SameT T T' }) => blk t 83 [.map (some mb)] :: mapS mb (T'.1.map kp) :: (nodesL T'.1 ++ H)) (fun _ => by kernel_rfl) (rests_walk hT hsk hlb hi H t mb)) (fun (T' : { T' : List Nd // OkT (restN 6 N z.n.id) T' ∧ SameT T T' }) => ?_) : RT _ _ _ _ _ _ 1 _)
        refine endR ?_
        refine seqR (by kernel_rfl) ?_
        refine regionR 1 (by kernel_rfl) (by kernel_rfl) ?_
        refine (run0 (z := 0) 1 [6] [(6, .nilIface)] (fun _ => by kernel_rfl) (endR ?_) : RT _ _ _ _ _ _ 1 _)
        refine retR (by kernel_rfl) ?_
        have hrn : readyN N id r = (0, restN 6 N z.n.id) := by rw [readyN, hg]; simp only [hth, h2, if_true, Bool.false_eq_true, if_false]; rw [← hzk]
        refine done0 (.nilIface) (fun _ => by kernel_rfl) (fun w hs => ?_) .ret (.inr rfl)
        exact ⟨⟨T'.1, by rw [hrn]; exact T'.2.1, T'.2.2⟩, by show _ = Ending.returned (pqErr (readyN N id r).1); rw [hrn]; rfl, hs⟩
theorem set_same {α : Type} {l : List α} {i : Nat} {x : α} (h : l[i]? = some x) : l.set i x = l := by
  apply List.ext_getElem?
  intro j
  rw [List.getElem?_set]
  split
  · rename_i e; subst e; rw [if_pos (List.getElem?_eq_some_iff.1 h).1, h]
  · rfl
set_option maxRecDepth 100000 in
theorem sets_walk {N : List Nr} {T : List Nd} (hT : OkT N T) (hsk : SK N) (hlb : LB N) {i : Nat} {x : Nd} (hi : T[i]? = some x) {y : Nr} (hg : gt N x.n.par = some y) {P : Int} (hP : 0 ≤ P ∧ P ≤ 1099511627776) (H : List SP) (t mb : Nat) : ∀ w, Sat w (blk t 83 [.map (some mb)] :: mapS mb (T.map kp) :: (nodesL T ++ H)) → Calls Tryz.prog 57 #[.pointer (some ⟨t, 0, none⟩), .pointer (some ⟨x.b, 0, none⟩), .int .i64 P] w (Ret (ι := { T' : List Nd // OkT (upN N x.n.id (psF P)) T' ∧ SameT T T' ∧ SK (upN N x.n.id (psF P)) ∧ LB (upN N x.n.id (psF P)) }) (fun _ => .nilIface) fun T' => blk t 83 [.map (some mb)] :: mapS mb (T'.1.map kp) :: (nodesL T'.1 ++ H)) := by
  have hm := List.mem_of_getElem? hi
  obtain ⟨j, p, hj, hpn, hpk⟩ := hT.get hg
  have hij : i ≠ j := fun e => by subst e; rw [hi] at hj; cases hj; exact hsk.ne_par (hT.mem_n hm) hpk
  obtain ⟨R, hR, hR2⟩ := perm2 hi hj hij
  refine enterG (fn := Tryz.f57) 43 [.pointer (some ⟨t, 0, none⟩), .pointer (some ⟨x.b, 0, none⟩), .int .i64 P] Tryz.func57 (by kernel_rfl) (by kernel_rfl) (by kernel_rfl) ?_
  refine PT.open2 (hR) ?_
  refine seqR (by kernel_rfl) ?_
  refine regionR 1 (by kernel_rfl) (by kernel_rfl) ?_
  refine (run0 (z := 0) 1 [0, 1, 2, 6] [(0, .pointer (some ⟨t, 0, none⟩)), (1, .pointer (some ⟨x.b, 0, none⟩)), (2, .int .i64 P), (6, .nilIface)] (fun _ => by kernel_rfl) (endR ?_) : RT _ _ _ _ _ _ 1 _)
  refine seqR (by kernel_rfl) ?_
  refine regionR 6 (by kernel_rfl) (by kernel_rfl) ?_
  refine (run0 (z := 1) 5 [0, 1, 2, 6, 9, 12] [(0, .pointer (some ⟨t, 0, none⟩)), (1, .pointer (some ⟨x.b, 0, none⟩)), (2, .int .i64 P), (6, .nilIface), (9, .int .i64 P), (12, .pointer (some ⟨x.b, 3, none⟩))] (fun _ => by kernel_rfl) ?_ : RT _ _ _ _ _ _ 6 _)
  refine (RT.pick 2 rfl ?_ : RT _ _ _ (blk t 83 [.map (some mb)] :: mapS mb (T.map kp) :: blk x.b 80 [.int .i64 x.n.id, .int .i64 x.n.par, .int .i64 x.n.wt, .int .i64 x.n.pass, .bool x.n.thr, .bool x.n.rdy, .int .i64 x.n.now, .pointer (some ⟨x.ib, 0, none⟩)] :: idxS x.ib 60 x.q :: blk p.b 80 [.int .i64 p.n.id, .int .i64 p.n.par, .int .i64 p.n.wt, .int .i64 p.n.pass, .bool p.n.thr, .bool p.n.rdy, .int .i64 p.n.now, .pointer (some ⟨p.ib, 0, none⟩)] :: idxS p.ib 60 p.q :: (nodesL R ++ H)) _ _ 1 _)
  refine (stepR (z := 0) (storeS [(3, .int .i64 P)] [.int .i64 x.n.id, .int .i64 x.n.par, .int .i64 x.n.wt, .int .i64 P, .bool x.n.thr, .bool x.n.rdy, .int .i64 x.n.now, .pointer (some ⟨x.ib, 0, none⟩)] (fun _ => by kernel_rfl) (by kernel_rfl) (by kernel_rfl)) (fun _ => ?_) : RT _ _ _ _ _ _ 1 _)
  refine endR ?_
  refine seqR (by kernel_rfl) ?_
  refine seqR (by kernel_rfl) ?_
  refine drawR (fun w => Sat w (blk x.b 80 [.int .i64 x.n.id, .int .i64 x.n.par, .int .i64 x.n.wt, .int .i64 P, .bool x.n.thr, .bool x.n.rdy, .int .i64 x.n.now, .pointer (some ⟨x.ib, 0, none⟩)] :: blk t 83 [.map (some mb)] :: mapS mb (T.map kp) :: idxS x.ib 60 x.q :: blk p.b 80 [.int .i64 p.n.id, .int .i64 p.n.par, .int .i64 p.n.wt, .int .i64 p.n.pass, .bool p.n.thr, .bool p.n.rdy, .int .i64 p.n.now, .pointer (some ⟨p.ib, 0, none⟩)] :: idxS p.ib 60 p.q :: (nodesL R ++ H))) [] 11 (by kernel_rfl) (by kernel_rfl) (by kernel_rfl) (fun _ h => by first | exact h | exact h.tail | exact h.tail.tail | exact h.tail.tail.tail | exact h.tail.tail.tail.tail) ?_
  refine takesR [0, 1, 2, 3, 4, 5, 6, 7, 8] [1, 2, 6, 16, 21] 2 [true, true, true, true, true, true, true, true, true, false, false] [(1, .pointer (some ⟨x.b, 0, none⟩)), (2, .int .i64 P), (6, .nilIface), (16, .map (some mb)), (21, .int .i64 x.n.par)] [(⟨t, 0, none⟩, .map (some mb)), (⟨x.b, 1, none⟩, .int .i64 x.n.par)] rfl (fun _ d _ _ _ h => by cases d <;> exact h) (fun _ h => by first | exact h | exact h.tail | exact h.tail.tail | exact h.tail.tail.tail | exact h.tail.tail.tail.tail) (hasC (blkAt (T := 83) (cs := [.map (some mb)]) 1 rfl rfl) (hasC (blkAt (T := 80) (cs := [.int .i64 x.n.id, .int .i64 x.n.par, .int .i64 x.n.wt, .int .i64 P, .bool x.n.thr, .bool x.n.rdy, .int .i64 x.n.now, .pointer (some ⟨x.ib, 0, none⟩)]) 0 rfl rfl) has0)) (fun _ => by kernel_rfl) ?_
  refine takeR1 9 1 [true, true, true, true, true, true, true, true, true, true, false] rfl rfl (by kernel_rfl) (fun _ d _ _ _ h => by cases d <;> exact h) (fun _ h => by first | exact h | exact h.tail | exact h.tail.tail | exact h.tail.tail.tail | exact h.tail.tail.tail.tail) (lookY 81 (.tmp 16) (.tmp 21) false mb x.n.par (T.map kp) (.pointer none) (.pointer (some ⟨p.b, 0, none⟩)) 3 76 (some 22) (fun _ => by kernel_rfl) (by kernel_rfl) (by kernel_rfl) (fun _ => by kernel_rfl) (fun _ => by kernel_rfl) Tryz.underlying81 (by kernel_rfl) (fun _ => by kernel_rfl) (mapAt (H := (blk x.b 80 [.int .i64 x.n.id, .int .i64 x.n.par, .int .i64 x.n.wt, .int .i64 P, .bool x.n.thr, .bool x.n.rdy, .int .i64 x.n.now, .pointer (some ⟨x.ib, 0, none⟩)] :: blk t 83 [.map (some mb)] :: mapS mb (T.map kp) :: idxS x.ib 60 x.q :: blk p.b 80 [.int .i64 p.n.id, .int .i64 p.n.par, .int .i64 p.n.wt, .int .i64 p.n.pass, .bool p.n.thr, .bool p.n.rdy, .int .i64 p.n.now, .pointer (some ⟨p.ib, 0, none⟩)] :: idxS p.ib 60 p.q :: (nodesL R ++ H))) (i := 2) rfl) (by rw [lk_some hT hsk.nd hj hpk]; rfl)) ?_
  refine takesR [10] [1, 2, 6, 7] 0 [true, true, true, true, true, true, true, true, true, true, true] [(1, .pointer (some ⟨x.b, 0, none⟩)), (2, .int .i64 P), (6, .nilIface), (7, .pointer (some ⟨p.b, 0, none⟩))] [] rfl (fun _ d _ _ _ h => by cases d <;> exact h) (fun _ h => by first | exact h | exact h.tail | exact h.tail.tail | exact h.tail.tail.tail | exact h.tail.tail.tail.tail) has0 (fun _ => by kernel_rfl) ?_
  refine drawnR (by kernel_rfl) ?_
  refine seqR (by kernel_rfl) ?_
  refine regionR 9 (by kernel_rfl) (by kernel_rfl) ?_
  refine (runR (H := (blk x.b 80 [.int .i64 x.n.id, .int .i64 x.n.par, .int .i64 x.n.wt, .int .i64 P, .bool x.n.thr, .bool x.n.rdy, .int .i64 x.n.now, .pointer (some ⟨x.ib, 0, none⟩)] :: blk t 83 [.map (some mb)] :: mapS mb (T.map kp) :: idxS x.ib 60 x.q :: blk p.b 80 [.int .i64 p.n.id, .int .i64 p.n.par, .int .i64 p.n.wt, .int .i64 p.n.pass, .bool p.n.thr, .bool p.n.rdy, .int .i64 p.n.now, .pointer (some ⟨p.ib, 0, none⟩)] :: idxS p.ib 60 p.q :: (nodesL R ++ H))) (z := 0) 9 [1, 2, 6, 7, 31] [(1, .pointer (some ⟨x.b, 0, none⟩)), (2, .int .i64 P), (6, .nilIface), (7, .pointer (some ⟨p.b, 0, none⟩)), (31, .bool x.n.rdy)] [(⟨x.b, 5, none⟩, .bool x.n.rdy)] (hasC (blkAt (T := 80) (cs := [.int .i64 x.n.id, .int .i64 x.n.par, .int .i64 x.n.wt, .int .i64 P, .bool x.n.thr, .bool x.n.rdy, .int .i64 x.n.now, .pointer (some ⟨x.ib, 0, none⟩)]) 0 rfl rfl) has0) (fun _ => by kernel_rfl) (endR ?_) : RT _ _ _ _ _ _ 9 _)
  refine condR (b := x.n.rdy) (by kernel_rfl) (fun _ => by kernel_rfl) (fun h1 => ?_) (fun h1 => ?_)
  · skip
    obtain ⟨_, hql, hqs, q, hrk, hT2, hsm, hs2, hb2⟩ := sets_round hT hsk hlb hi hj hpk h1 hP
    refine seqR (by kernel_rfl) ?_
    refine PT.pick 5 rfl ?_
    refine drawR (fun w => Sat w (blk x.b 80 [.int .i64 x.n.id, .int .i64 x.n.par, .int .i64 x.n.wt, .int .i64 P, .bool x.n.thr, .bool x.n.rdy, .int .i64 x.n.now, .pointer (some ⟨x.ib, 0, none⟩)] :: blk t 83 [.map (some mb)] :: mapS mb (T.map kp) :: idxS x.ib 60 x.q :: blk p.b 80 [.int .i64 p.n.id, .int .i64 p.n.par, .int .i64 p.n.wt, .int .i64 p.n.pass, .bool p.n.thr, .bool p.n.rdy, .int .i64 p.n.now, .pointer (some ⟨p.ib, 0, none⟩)] :: (nodesL R ++ H))) [] 12 (by kernel_rfl) (by kernel_rfl) (by kernel_rfl) (fun _ h => by first | exact h | exact h.tail | exact h.tail.tail | exact h.tail.tail.tail | exact h.tail.tail.tail.tail) ?_
    refine takesR [0, 1, 2, 3, 4, 5, 6, 7, 8, 9] [6, 35, 40, 41] 2 [true, true, true, true, true, true, true, true, true, true, false, false] [(6, .nilIface), (35, .pointer (some ⟨p.ib, 0, none⟩)), (40, .int .i64 x.n.id), (41, .int .i64 P)] [(⟨p.b, 7, none⟩, .pointer (some ⟨p.ib, 0, none⟩)), (⟨x.b, 0, none⟩, .int .i64 x.n.id)] rfl (fun _ d _ _ _ h => by cases d <;> exact h) (fun _ h => by first | exact h | exact h.tail | exact h.tail.tail | exact h.tail.tail.tail | exact h.tail.tail.tail.tail) (hasC (blkAt (T := 80) (cs := [.int .i64 p.n.id, .int .i64 p.n.par, .int .i64 p.n.wt, .int .i64 p.n.pass, .bool p.n.thr, .bool p.n.rdy, .int .i64 p.n.now, .pointer (some ⟨p.ib, 0, none⟩)]) 4 rfl rfl) (hasC (blkAt (T := 80) (cs := [.int .i64 x.n.id, .int .i64 x.n.par, .int .i64 x.n.wt, .int .i64 P, .bool x.n.thr, .bool x.n.rdy, .int .i64 x.n.now, .pointer (some ⟨x.ib, 0, none⟩)]) 0 rfl rfl) has0)) (fun _ => by kernel_rfl) ?_
    refine oneR 10 1 [true, true, true, true, true, true, true, true, true, true, true, false] rfl rfl (by kernel_rfl) (callS 73 [.pointer (some ⟨p.ib, 0, none⟩), .int .i64 x.n.id, .int .i64 P] (some 42) (fun _ => .nilIface) (fun _ => (idxS p.ib 60 q :: blk x.b 80 [.int .i64 x.n.id, .int .i64 x.n.par, .int .i64 x.n.wt, .int .i64 P, .bool x.n.thr, .bool x.n.rdy, .int .i64 x.n.now, .pointer (some ⟨x.ib, 0, none⟩)] :: blk t 83 [.map (some mb)] :: mapS mb (T.map kp) :: idxS x.ib 60 x.q :: blk p.b 80 [.int .i64 p.n.id, .int .i64 p.n.par, .int .i64 p.n.wt, .int .i64 p.n.pass, .bool p.n.thr, .bool p.n.rdy, .int .i64 p.n.now, .pointer (some ⟨p.ib, 0, none⟩)] :: (nodesL R ++ H))) (fun _ => by kernel_rfl) (rekey_ok hrk hqs hql _ _)) (fun _ _ h hn => by first | exact h | exact h.tail | exact h.tail.tail | exact h.tail.tail.tail | exact h.tail.tail.tail.tail | exact absurd hn (by decide)) (fun _ => ?_)
    refine takesR [11] [6] 0 [true, true, true, true, true, true, true, true, true, true, true, true] [(6, .nilIface)] [] rfl (fun _ d _ _ _ h => by cases d <;> exact h) (fun _ h => by first | exact h | exact h.tail | exact h.tail.tail | exact h.tail.tail.tail | exact h.tail.tail.tail.tail) has0 (fun _ => by kernel_rfl) ?_
    refine drawnR (by kernel_rfl) ?_
    refine retR (by kernel_rfl) ?_
    refine thenV ?_
    refine PT.pick 0 rfl ?_
    refine PT.pick 5 rfl ?_
    refine PT.pick 5 rfl ?_
    refine PT.pick 3 rfl ?_
    refine PT.pick 5 rfl ?_
    refine PT.pick 5 rfl ?_
    refine PT.close2 ({ x with n := psF P x.n }) ({ p with q := q }) (hR2 _ _) ?_
    rw [← hsm.kp]
    refine done0 (.nilIface) (fun _ => by kernel_rfl) (fun w hs => ?_) .ret (.inr rfl)
    exact ⟨⟨_, hT2, hsm, hs2, hb2⟩, rfl, hs⟩
  · skip
    refine skipR (by kernel_rfl) ?_
    refine seqR (by kernel_rfl) ?_
    refine regionR 1 (by kernel_rfl) (by kernel_rfl) ?_
    refine (run0 (z := 0) 1 [6] [(6, .nilIface)] (fun _ => by kernel_rfl) (endR ?_) : RT _ _ _ _ _ _ 1 _)
    refine retR (by kernel_rfl) ?_
    refine PT.pick 0 rfl ?_
    refine PT.pick 2 rfl ?_
    refine PT.pick 2 rfl ?_
    refine PT.close2 ({ x with n := psF P x.n }) p (hR2 _ p) ?_
    have hsm : SameT T ((T.set i { x with n := psF P x.n }).set j p) := same2 hi hj hij ⟨rfl, rfl, rfl⟩ ⟨rfl, rfl, rfl⟩
    have hpj : (T.set i { x with n := psF P x.n })[j]? = some p := by rw [List.getElem?_set_ne hij]; exact hj
    have hsj : (T.set i { x with n := psF P x.n }).set j p = T.set i { x with n := psF P x.n } := set_same hpj
    rw [← hsm.kp]
    refine done0 (.nilIface) (fun _ => by kernel_rfl) (fun w hs => ?_) .ret (.inr rfl)
    exact ⟨⟨(T.set i { x with n := psF P x.n }).set j p, by rw [hsj]; exact hT.one hsk.nd hi (psF_skel P) (.inr ⟨rfl, .inr h1⟩), hsm, hsk.upN (psF_skel P), hlb.ups hsk.nd (hT.mem_n hm) (hlb.wt x.n (hT.mem_n hm)) hP (hlb.now x.n (hT.mem_n hm))⟩, rfl, hs⟩
end Go.Proofs.YtlhjibkkkhgonaaGreat
set_option linter.unusedVariables false
set_option linter.unusedSimpArgs false
namespace Go.Proofs.YtlhjibkkkhgonaaGreat
open Go.RowKit G
/-- A node as it is told. -/
def nE : Enc Nr := ⟨6, by decide, fun x => [.int .i64 x.id, .int .i64 x.par, .int .i64 x.wt, .int .i64 x.pass, .bool x.thr, .bool x.rdy], fun _ => rfl, by intro a u hu; simp at hu; rcases hu with rfl | rfl | rfl | rfl | rfl | rfl <;> rfl⟩
theorem nE_ety : Ety Tryz.prog nE 71 (.agg #[.int .i64 0, .int .i64 0, .int .i64 0, .int .i64 0, .bool false, .bool false]) := by
  obtain ⟨i, hi, hz, hs, hb⟩ := info_parts (P := Tryz.prog) (e := 71) (z := .agg #[.int .i64 0, .int .i64 0, .int .i64 0, .int .i64 0, .bool false, .bool false]) (size := 6) (bytes := 40) (by kernel_rfl)
  exact ⟨⟨i, hi, hz, hs, by omega⟩, rfl⟩
def nodesN (N : List Nr) : List Nr := (sortI (N.map (·.id))).map fun k => (gt N k).getD zeroN
theorem nodesN_len (N : List Nr) : (nodesN N).length = N.length := by rw [nodesN, List.length_map, sortI_len, List.length_map]
theorem nodesN_at {N : List Nr} (hn : (N.map (·.id)).Nodup) {u : Nat} {k : Int} (h : (sortI (N.map (·.id)))[u]? = some k) : ∃ y, gt N k = some y ∧ (nodesN N)[u]? = some y := by
  have hk : k ∈ N.map (·.id) := sortI_mem.1 (List.mem_of_getElem? h)
  obtain ⟨y, hy, rfl⟩ := List.mem_map.1 hk
  refine ⟨y, gt_of hn hy, ?_⟩
  rw [nodesN, List.getElem?_map, h, Option.map_some, gt_of hn hy]; rfl
theorem wf64 {x : Int} (h0 : 0 ≤ x) (h1 : x ≤ 9223372036854775807) : (Lit.int .i64 x).wf = true := by
  simp only [Lit.wf, Bool.and_eq_true, decide_eq_true_eq]
  have e1 : IntKind.i64.min = -9223372036854775808 := by decide
  have e2 : IntKind.i64.max = 9223372036854775807 := by decide
  omega
theorem kp_ids {N : List Nr} {T : List Nd} (hT : OkT N T) : (T.map kp).map (·.1) = N.map (·.id) := by
  rw [List.map_map, ← hT.n, List.map_map]; rfl
set_option maxHeartbeats 1000000 in
set_option maxRecDepth 100000 in
theorem nodes_walk {N : List Nr} {T : List Nd} (hT : OkT N T) (hsk : SK N) (hid : ∀ x ∈ N, x.id ≤ 9223372036854775807) (H : List SP) (t mb : Nat) : ∀ w, Sat w (blk t 83 [.map (some mb)] :: mapS mb (T.map kp) :: (nodesL T ++ H)) → Calls Tryz.prog 41 #[.pointer (some ⟨t, 0, none⟩)] w (Ret (ι := Option Addr × Nat) (fun x => .slice x.1 (nodesN N).length x.2) fun x => row nE 71 (.slice x.1 (nodesN N).length x.2) (nodesN N) :: blk t 83 [.map (some mb)] :: mapS mb (T.map kp) :: (nodesL T ++ H)) := by
  have hK := kp_ids hT
  have hlen : (sortI (N.map (·.id))).length = N.length := by rw [sortI_len, List.length_map]
  have hN60 := hsk.len
  refine enterG (fn := Tryz.f41) 31 [.pointer (some ⟨t, 0, none⟩)] Tryz.func41 (by kernel_rfl) (by kernel_rfl) (by kernel_rfl) ?_
  refine seqR (by kernel_rfl) ?_
  refine regionR 1 (by kernel_rfl) (by kernel_rfl) ?_
  refine (run0 (z := 0) 1 [0, 2] [(0, .pointer (some ⟨t, 0, none⟩)), (2, .slice none 0 0)] (fun _ => by kernel_rfl) (endR ?_) : RT _ _ _ _ _ _ 1 _)
  refine seqR (by kernel_rfl) ?_
  refine regionR 1 (by kernel_rfl) (by kernel_rfl) ?_
  refine (run0 (z := 0) 1 [0, 2, 3] [(0, .pointer (some ⟨t, 0, none⟩)), (2, .slice none 0 0), (3, .slice none 0 0)] (fun _ => by kernel_rfl) (endR ?_) : RT _ _ _ _ _ _ 1 _)
  refine seqR (by kernel_rfl) ?_
  refine seqR (by kernel_rfl) ?_
  refine regionR 8 (by kernel_rfl) (by kernel_rfl) ?_
  refine (runR (H := (blk t 83 [.map (some mb)] :: mapS mb (T.map kp) :: (nodesL T ++ H))) (z := 4) 4 [0, 2, 3, 9] [(0, .pointer (some ⟨t, 0, none⟩)), (2, .slice none 0 0), (3, .slice none 0 0), (9, .map (some mb))] [(⟨t, 0, none⟩, .map (some mb))] (hasC (blkAt (T := 83) (cs := [.map (some mb)]) 0 rfl rfl) has0) (fun _ => by kernel_rfl) ?_ : RT _ _ _ _ _ _ 8 _)
  refine (stepR (z := 3) (callS 63 [.map (some mb)] (some 10) (fun (kb : Nat) => .func (.func 79) #[] #[.pointer (some ⟨kb, 0, none⟩)]) (fun (kb : Nat) => (blk kb 81 [.map (some mb)] :: blk t 83 [.map (some mb)] :: mapS mb (T.map kp) :: (nodesL T ++ H))) (fun _ => by kernel_rfl) (keys_walk _ mb)) (fun (kb : Nat) => ?_) : RT _ _ _ _ _ _ 4 _)
  refine (RT.pick 1 rfl ?_ : RT _ _ _ (blk kb 81 [.map (some mb)] :: blk t 83 [.map (some mb)] :: mapS mb (T.map kp) :: (nodesL T ++ H)) _ _ 3 _)
  refine (RT.pick 2 rfl ?_ : RT _ _ _ (blk t 83 [.map (some mb)] :: blk kb 81 [.map (some mb)] :: mapS mb (T.map kp) :: (nodesL T ++ H)) _ _ 3 _)
  refine (RT.pick 2 rfl ?_ : RT _ _ _ (mapS mb (T.map kp) :: blk t 83 [.map (some mb)] :: blk kb 81 [.map (some mb)] :: (nodesL T ++ H)) _ _ 3 _)
  refine (stepR (z := 2) (callS 62 [.func (.func 79) #[] #[.pointer (some ⟨kb, 0, none⟩)]] (some 11) (fun (ks : Option Addr × Nat) => .slice ks.1 (sortI (N.map (·.id))).length ks.2) (fun (ks : Option Addr × Nat) => (row intE 3 (.slice ks.1 (sortI (N.map (·.id))).length ks.2) (sortI (N.map (·.id))) :: blk kb 81 [.map (some mb)] :: mapS mb (T.map kp) :: blk t 83 [.map (some mb)] :: (nodesL T ++ H))) (fun _ => by kernel_rfl) ((by have h := sorted_walk (blk t 83 [.map (some mb)] :: (nodesL T ++ H)) kb mb (T.map kp) (by rw [List.length_map, hT.len]; omega) (fun p hp => by obtain ⟨z, hz, rfl⟩ := List.mem_map.1 hp; exact wf64 (hsk.pos (hT.mem_n hz)) (hid _ (hT.mem_n hz))); rw [hK] at h; exact h))) (fun (ks : Option Addr × Nat) => ?_) : RT _ _ _ _ _ _ 3 _)
  refine (run0 (z := 0) 2 [11, 0, 2, 3, 12, 13] [(11, .slice ks.1 ((sortI (N.map (·.id))).length) ks.2), (0, .pointer (some ⟨t, 0, none⟩)), (2, .slice none 0 0), (3, .slice none 0 0), (12, .int .i64 ((sortI (N.map (·.id))).length : Int)), (13, .int .i64 0)] (fun _ => by kernel_rfl) (endR ?_) : RT _ _ _ _ _ _ 2 _)
  refine blockR 0 (by kernel_rfl) (by kernel_rfl) ?_
  obtain ⟨ka, kc⟩ := ks
  refine PT.pick 1 rfl ?_
  refine PT.drop ?_
  refine PT.pick 1 rfl ?_
  refine PT.pick 2 rfl ?_
  refine PT.pick 2 rfl ?_
  refine PT.rowNil nE 71 ?_
  refine PT.keep (L' := [(0, .pointer (some ⟨t, 0, none⟩)), (3, .slice none 0 0), (11, .slice ka ((sortI (N.map (·.id))).length) kc), (12, .int .i64 ((sortI (N.map (·.id))).length : Int)), (13, .int .i64 0)]) [0, 3, 11, 12, 13] rfl ?_
  refine loopG (fun (s : (Option Addr × Nat) × Nat) => [(0, .pointer (some ⟨t, 0, none⟩)), (3, .slice s.1.1 (((nodesN N).take s.2).length) s.1.2), (11, .slice ka ((sortI (N.map (·.id))).length) kc), (12, .int .i64 ((sortI (N.map (·.id))).length : Int)), (13, .int .i64 (s.2 : Int))]) (fun (s : (Option Addr × Nat) × Nat) => (row nE 71 (.slice s.1.1 ((nodesN N).take s.2).length s.1.2) ((nodesN N).take s.2) :: row intE 3 (.slice ka (sortI (N.map (·.id))).length kc) (sortI (N.map (·.id))) :: blk t 83 [.map (some mb)] :: mapS mb (T.map kp) :: (nodesL T ++ H))) (fun k (s : (Option Addr × Nat) × Nat) => k + s.2 = N.length) N.length ((none, 0), 0) (by kernel_rfl) rfl ?_
  rintro k ⟨⟨qa, qc⟩, u⟩ hku
  simp only at hku
  refine seqR (by kernel_rfl) ?_
  refine regionR 1 (by kernel_rfl) (by kernel_rfl) ?_
  refine (run0 (z := 0) 1 [0, 3, 11, 12, 13, 14] [(0, .pointer (some ⟨t, 0, none⟩)), (3, .slice qa (((nodesN N).take u).length) qc), (11, .slice ka ((sortI (N.map (·.id))).length) kc), (12, .int .i64 ((sortI (N.map (·.id))).length : Int)), (13, .int .i64 (u : Int)), (14, .bool (decide ((u : Int) < ((sortI (N.map (·.id))).length : Int))))] (fun _ => by kernel_rfl) (endR ?_) : RT _ _ _ _ _ _ 1 _)
  refine seqR (by kernel_rfl) ?_
  refine condR (b := decide ((u : Int) < ((sortI (N.map (·.id))).length : Int))) (by kernel_rfl) (fun _ => by kernel_rfl) (fun h1 => ?_) (fun h1 => ?_)
  · skip
    have hu : u < N.length := by have := of_decide_eq_true h1; omega
    obtain ⟨kk, hkk⟩ : ∃ kk, (sortI (N.map (·.id)))[u]? = some kk := ⟨_, List.getElem?_eq_getElem (by omega)⟩
    obtain ⟨y, hy, hny⟩ := nodesN_at hsk.nd hkk
    obtain ⟨i, z, hi, hzn, hzk⟩ := hT.get hy
    subst hzn
    have hsn : (nodesN N).take u ++ [z.n] = (nodesN N).take (u + 1) := by rw [List.take_add_one, hny]; rfl
    refine PT.know (KR.isSome (s := ⟨ka, kc, sortI (N.map (·.id))⟩) (rowKRat 1 rfl) (List.ne_nil_of_length_pos (by show 0 < (sortI _).length; omega))) ?_
    rintro ⟨sb, so, hA⟩
    dsimp only at hA
    subst hA
    refine skipR (by kernel_rfl) ?_
    refine seqR (by kernel_rfl) ?_
    refine blockR 1 (by kernel_rfl) (by kernel_rfl) ?_
    refine seqR (by kernel_rfl) ?_
    refine regionR 3 (by kernel_rfl) (by kernel_rfl) ?_
    refine (stepR (z := 2) (yldS (idxY 42 (.tmp 11) (.tmp 13) sb so ((sortI (N.map (·.id))).length) kc u 1 3 (u : Int) .i64 (some 15) (fun _ => by kernel_rfl) (by kernel_rfl) (by kernel_rfl) (fun _ => by kernel_rfl) (fun _ => by kernel_rfl) Tryz.underlying42 (by kernel_rfl) (by first | rfl | assumption | simp) (by first | omega | (simp; done) | (simp; omega) | (simp at *; omega)))) (fun _ => ?_) : RT _ _ _ _ _ _ 3 _)
    refine (runR (H := (row nE 71 (.slice qa ((nodesN N).take u).length qc) ((nodesN N).take u) :: row intE 3 (.slice (some ⟨sb, so, none⟩) (sortI (N.map (·.id))).length kc) (sortI (N.map (·.id))) :: blk t 83 [.map (some mb)] :: mapS mb (T.map kp) :: (nodesL T ++ H))) (z := 0) 2 [0, 3, 11, 12, 13, 5] [(0, .pointer (some ⟨t, 0, none⟩)), (3, .slice qa (((nodesN N).take u).length) qc), (11, .slice (some ⟨sb, so, none⟩) ((sortI (N.map (·.id))).length) kc), (12, .int .i64 ((sortI (N.map (·.id))).length : Int)), (13, .int .i64 (u : Int)), (5, .int .i64 kk)] [(⟨sb, so + u * 1, none⟩, .int .i64 kk)] (hasC ((rowKRat (xs := sortI (N.map (·.id))) (A := some ⟨sb, so, none⟩) (k := kc) (E := intE) (T := 3) 1 rfl).cell rfl (i := u) (x := kk) hkk (j := 0) rfl) has0) (fun _ => by kernel_rfl) (endR ?_) : RT _ _ _ _ _ _ 2 _)
    refine regionR 13 (by kernel_rfl) (by kernel_rfl) ?_
    refine (runR (H := (row nE 71 (.slice qa ((nodesN N).take u).length qc) ((nodesN N).take u) :: row intE 3 (.slice (some ⟨sb, so, none⟩) (sortI (N.map (·.id))).length kc) (sortI (N.map (·.id))) :: blk t 83 [.map (some mb)] :: mapS mb (T.map kp) :: (nodesL T ++ H))) (z := 7) 6 [0, 3, 11, 12, 13, 17, 21, 22] [(0, .pointer (some ⟨t, 0, none⟩)), (3, .slice qa (((nodesN N).take u).length) qc), (11, .slice (some ⟨sb, so, none⟩) ((sortI (N.map (·.id))).length) kc), (12, .int .i64 ((sortI (N.map (·.id))).length : Int)), (13, .int .i64 (u : Int)), (17, .slice qa (((nodesN N).take u).length) qc), (21, .map (some mb)), (22, .int .i64 kk)] [(⟨t, 0, none⟩, .map (some mb))] (hasC (blkAt (T := 83) (cs := [.map (some mb)]) 2 rfl rfl) has0) (fun _ => by kernel_rfl) ?_ : RT _ _ _ _ _ _ 13 _)
    refine (stepR (z := 6) (yldS (lookY 81 (.tmp 21) (.tmp 22) false mb kk (T.map kp) (.pointer none) (.pointer (some ⟨z.b, 0, none⟩)) 3 76 (some 23) (fun _ => by kernel_rfl) (by kernel_rfl) (by kernel_rfl) (fun _ => by kernel_rfl) (fun _ => by kernel_rfl) Tryz.underlying81 (by kernel_rfl) (fun _ => by kernel_rfl) (mapAt (H := (row nE 71 (.slice qa ((nodesN N).take u).length qc) ((nodesN N).take u) :: row intE 3 (.slice (some ⟨sb, so, none⟩) (sortI (N.map (·.id))).length kc) (sortI (N.map (·.id))) :: blk t 83 [.map (some mb)] :: mapS mb (T.map kp) :: (nodesL T ++ H))) (i := 3) rfl) (by rw [lk_some hT hsk.nd hi hzk]; rfl))) (fun _ => ?_) : RT _ _ _ _ _ _ 7 _)
    refine (runR (H := (row nE 71 (.slice qa ((nodesN N).take u).length qc) ((nodesN N).take u) :: row intE 3 (.slice (some ⟨sb, so, none⟩) (sortI (N.map (·.id))).length kc) (sortI (N.map (·.id))) :: blk t 83 [.map (some mb)] :: mapS mb (T.map kp) :: (nodesL T ++ H))) (z := 3) 3 [0, 3, 11, 12, 13, 17, 26] [(0, .pointer (some ⟨t, 0, none⟩)), (3, .slice qa (((nodesN N).take u).length) qc), (11, .slice (some ⟨sb, so, none⟩) ((sortI (N.map (·.id))).length) kc), (12, .int .i64 ((sortI (N.map (·.id))).length : Int)), (13, .int .i64 (u : Int)), (17, .slice qa (((nodesN N).take u).length) qc), (26, .agg #[.int .i64 z.n.id, .int .i64 z.n.par, .int .i64 z.n.wt, .int .i64 z.n.pass, .bool z.n.thr, .bool z.n.rdy])] [(⟨z.b, 0, none⟩, .int .i64 z.n.id), (⟨z.b, 1, none⟩, .int .i64 z.n.par), (⟨z.b, 2, none⟩, .int .i64 z.n.wt), (⟨z.b, 3, none⟩, .int .i64 z.n.pass), (⟨z.b, 4, none⟩, .bool z.n.thr), (⟨z.b, 5, none⟩, .bool z.n.rdy)] (hasC (up (up (up (up (nodeAt (T := T) (List.mem_of_getElem? hi) (j := 0) rfl))))) (hasC (up (up (up (up (nodeAt (T := T) (List.mem_of_getElem? hi) (j := 1) rfl))))) (hasC (up (up (up (up (nodeAt (T := T) (List.mem_of_getElem? hi) (j := 2) rfl))))) (hasC (up (up (up (up (nodeAt (T := T) (List.mem_of_getElem? hi) (j := 3) rfl))))) (hasC (up (up (up (up (nodeAt (T := T) (List.mem_of_getElem? hi) (j := 4) rfl))))) (hasC (up (up (up (up (nodeAt (T := T) (List.mem_of_getElem? hi) (j := 5) rfl))))) has0)))))) (fun _ => by kernel_rfl) ?_ : RT _ _ _ _ _ _ 6 _)
    refine (stepR (z := 2) (newS 71 [.int .i64 z.n.id, .int .i64 z.n.par, .int .i64 z.n.wt, .int .i64 z.n.pass, .bool z.n.thr, .bool z.n.rdy] (some 27) (fun b => .slice (some ⟨b, 0, none⟩) 1 1) (fun _ _ => by kernel_rfl)) (fun b1 => ?_) : RT _ _ _ _ _ _ 3 _)
    refine (RT.pick 1 rfl ?_ : RT _ _ _ (blk b1 71 [.int .i64 z.n.id, .int .i64 z.n.par, .int .i64 z.n.wt, .int .i64 z.n.pass, .bool z.n.thr, .bool z.n.rdy] :: row nE 71 (.slice qa ((nodesN N).take u).length qc) ((nodesN N).take u) :: row intE 3 (.slice (some ⟨sb, so, none⟩) (sortI (N.map (·.id))).length kc) (sortI (N.map (·.id))) :: blk t 83 [.map (some mb)] :: mapS mb (T.map kp) :: (nodesL T ++ H)) _ _ 2 _)
    refine (stepR (z := 1) (appS (E := nE) 50 (.tmp 17) (.tmp 27) qa qc ((nodesN N).take u) [z.n] (.slice (some ⟨b1, 0, none⟩) 1 1) (some 28) (fun _ => by kernel_rfl) (by kernel_rfl) (by kernel_rfl) (fun _ => by kernel_rfl) (fun _ => by kernel_rfl) Tryz.underlying50 (nE_ety) (blkRd 1 rfl) (by simp only [List.length_take, List.length_cons, List.length_nil]; omega)) (fun r2 => ?_) : RT _ _ _ (row nE 71 (.slice qa ((nodesN N).take u).length qc) ((nodesN N).take u) :: blk b1 71 [.int .i64 z.n.id, .int .i64 z.n.par, .int .i64 z.n.wt, .int .i64 z.n.pass, .bool z.n.thr, .bool z.n.rdy] :: row intE 3 (.slice (some ⟨sb, so, none⟩) (sortI (N.map (·.id))).length kc) (sortI (N.map (·.id))) :: blk t 83 [.map (some mb)] :: mapS mb (T.map kp) :: (nodesL T ++ H)) _ _ 2 _)
    refine (run0 (z := 0) 1 [0, 3, 11, 12, 13] [(0, .pointer (some ⟨t, 0, none⟩)), (3, .slice r2.1 ((((nodesN N).take u) ++ [z.n]).length) r2.2), (11, .slice (some ⟨sb, so, none⟩) ((sortI (N.map (·.id))).length) kc), (12, .int .i64 ((sortI (N.map (·.id))).length : Int)), (13, .int .i64 (u : Int))] (fun _ => by kernel_rfl) (endR ?_) : RT _ _ _ _ _ _ 1 _)
    refine regionR 2 (by kernel_rfl) (by kernel_rfl) ?_
    refine (run0 (z := 0) 2 [0, 3, 11, 12, 13] [(0, .pointer (some ⟨t, 0, none⟩)), (3, .slice r2.1 ((((nodesN N).take u) ++ [z.n]).length) r2.2), (11, .slice (some ⟨sb, so, none⟩) ((sortI (N.map (·.id))).length) kc), (12, .int .i64 ((sortI (N.map (·.id))).length : Int)), (13, .int .i64 (IntKind.i64.wrap ((u : Int) + 1)))] (fun _ => by kernel_rfl) (endR ?_) : RT _ _ _ _ _ _ 2 _)
    rw [show IntKind.i64.wrap ((u : Int) + 1) = ((u + 1 : Nat) : Int) by rw [w64 (by omega) (by omega)]; rfl]
    rw [hsn]
    refine PT.pick 1 rfl ?_
    refine PT.drop ?_
    refine PT.keep (L' := [(0, .pointer (some ⟨t, 0, none⟩)), (3, .slice r2.1 (((nodesN N).take (u + 1)).length) r2.2), (11, .slice (some ⟨sb, so, none⟩) ((sortI (N.map (·.id))).length) kc), (12, .int .i64 ((sortI (N.map (·.id))).length : Int)), (13, .int .i64 ((u + 1 : Nat) : Int))]) [0, 3, 11, 12, 13] rfl ?_
    exact againG (k - 1) (r2, u + 1) rfl rfl (by omega) (by simp only; omega)
  · skip
    have hu : u = N.length := by have := of_decide_eq_false h1; omega
    have htk : (nodesN N).take u = nodesN N := List.take_of_length_le (by rw [nodesN_len]; omega)
    refine exitR 0 (by kernel_rfl) (by kernel_rfl) ?_
    refine thenX ?_
    refine thenX ?_
    refine leaveR ?_
    refine seqR (by kernel_rfl) ?_
    refine regionR 2 (by kernel_rfl) (by kernel_rfl) ?_
    refine (run0 (z := 0) 2 [2] [(2, .slice qa (((nodesN N).take u).length) qc)] (fun _ => by kernel_rfl) (endR ?_) : RT _ _ _ _ _ _ 2 _)
    refine retR (by kernel_rfl) ?_
    rw [htk]
    refine PT.pick 1 rfl ?_
    refine PT.drop ?_
    refine done0 (.slice qa ((nodesN N).length) qc) (fun _ => by kernel_rfl) (fun w hs => ?_) .ret (.inr rfl)
    exact ⟨(qa, qc), rfl, hs⟩
end Go.Proofs.YtlhjibkkkhgonaaGreat
set_option linter.unusedVariables false
set_option linter.unusedSimpArgs false
namespace Go.Proofs.YtlhjibkkkhgonaaGreat
open Go.RowKit G
theorem Skel.comp {f g : Nr → Nr} (hf : Skel f) (hg : Skel g) : Skel (fun x => g (f x)) := ⟨fun x => by rw [hg.id, hf.id], fun x => by rw [hg.par, hf.par], fun x => by rw [hg.thr, hf.thr]⟩
theorem Skel.same : Skel (fun x => x) := ⟨fun _ => rfl, fun _ => rfl, fun _ => rfl⟩
/-- Resting: nodes are ready no more. -/
theorem restN_map : ∀ (f : Nat) (N : List Nr) (k : Int), ∃ g, Skel g ∧ (∀ x, (g x).pass = x.pass ∧ (g x).wt = x.wt ∧ (g x).now = x.now ∧ ((g x).rdy = true → x.rdy = true)) ∧ restN f N k = N.map g
  | 0, N, k => ⟨fun x => x, Skel.same, fun x => ⟨rfl, rfl, rfl, id⟩, by simp [restN]⟩
  | f + 1, N, k => by
    have h0 : ∃ g, Skel g ∧ (∀ x, (g x).pass = x.pass ∧ (g x).wt = x.wt ∧ (g x).now = x.now ∧ ((g x).rdy = true → x.rdy = true)) ∧ N = N.map g := ⟨fun x => x, Skel.same, fun x => ⟨rfl, rfl, rfl, id⟩, by simp⟩
    have h1 : ∃ g, Skel g ∧ (∀ x, (g x).pass = x.pass ∧ (g x).wt = x.wt ∧ (g x).now = x.now ∧ ((g x).rdy = true → x.rdy = true)) ∧ upN N k rsF = N.map g := ⟨_, skel_ite (k := k) rsF_skel, fun x => by by_cases c : (x.id == k) = true <;> simp [c, rsF], rfl⟩
    rw [restN]
    split
    · exact h0
    · split
      · exact h0
      · split
        · exact h1
        · obtain ⟨g, hg, hg2, hg3⟩ := h1
          rename_i x0 _ _ _ _ _
          obtain ⟨g', k1, k2, k3⟩ := restN_map f (upN N k rsF) x0.par
          refine ⟨fun x => g' (g x), hg.comp k1, fun x => ?_, ?_⟩
          · obtain ⟨a1, a2, a3, a4⟩ := k2 (g x)
            obtain ⟨b1, b2, b3, b4⟩ := hg2 x
            exact ⟨by rw [a1, b1], by rw [a2, b2], by rw [a3, b3], fun h => b4 (a4 h)⟩
          · have e : restN f (upN N k fun x => { x with rdy := false }) x0.par = _ := k3
            rw [e, hg3, List.map_map]; rfl
theorem wakeN_map : ∀ (f : Nat) (N : List Nr) (k : Int), ∃ g, Skel g ∧ (∀ x, (g x).wt = x.wt ∧ (g x).now = x.now) ∧ wakeN f N k = N.map g
  | 0, N, k => ⟨fun x => x, Skel.same, fun x => ⟨rfl, rfl⟩, by simp [wakeN]⟩
  | f + 1, N, k => by
    have h0 : ∃ g, Skel g ∧ (∀ x, (g x).wt = x.wt ∧ (g x).now = x.now) ∧ N = N.map g := ⟨fun x => x, Skel.same, fun x => ⟨rfl, rfl⟩, by simp⟩
    rw [wakeN]
    split
    · exact h0
    · split
      · exact h0
      · split
        · refine ⟨_, skel_ite (k := k) (f := fun x => { x with rdy := true }) ⟨fun _ => rfl, fun _ => rfl, fun _ => rfl⟩, fun x => by by_cases c : (x.id == k) = true <;> simp [c], rfl⟩
        · rename_i x0 _ _ _ p _
          have h1 : ∃ g, Skel g ∧ (∀ x, (g x).wt = x.wt ∧ (g x).now = x.now) ∧ upN N k (wkF p.now) = N.map g := ⟨_, skel_ite (k := k) (wkF_skel p.now), fun x => by by_cases c : (x.id == k) = true <;> simp [c, wkF], rfl⟩
          obtain ⟨g, hg, hg2, hg3⟩ := h1
          obtain ⟨g', k1, k2, k3⟩ := wakeN_map f (upN N k (wkF p.now)) x0.par
          refine ⟨fun x => g' (g x), hg.comp k1, fun x => ?_, ?_⟩
          · rw [(k2 (g x)).1, (hg2 x).1, (k2 (g x)).2, (hg2 x).2]; exact ⟨rfl, rfl⟩
          · have e : wakeN f (upN N k fun x => { x with rdy := true, pass := mxI x.pass p.now }) x0.par = _ := k3
            rw [e, hg3, List.map_map]; rfl
theorem rest_off {N : List Nr} (hs : SK N) {k : Int} {x : Nr} (hg : gt N k = some x) (hk : kidR N k = []) : ∀ y ∈ restN 6 N k, y.id = k → y.rdy = false := by
  intro y hy hyk
  have hx := gt_mem hg
  rw [restN, hg] at hy
  simp only at hy
  by_cases c : x.rdy = false
  · rw [if_pos (.inl c)] at hy
    rw [nd_eq hs.nd hy hx.1 (by rw [hyk, hx.2])]; exact c
  · rw [if_neg (by simp [c, hk])] at hy
    have h1 : ∀ z ∈ upN N k rsF, z.id = k → z.rdy = false := by
      intro z hz hzk
      obtain ⟨v, hv, ⟨_, rfl⟩ | ⟨h, rfl⟩⟩ := mem_upN.1 hz
      · rfl
      · exact absurd hzk h
    split at hy
    · exact h1 y hy hyk
    · obtain ⟨g, hg1, hg2, hg3⟩ := restN_map 5 (upN N k rsF) x.par
      have e : restN 5 (upN N k fun x => { x with rdy := false }) x.par = _ := hg3
      rw [e] at hy
      obtain ⟨z, hz, rfl⟩ := List.mem_map.1 hy
      rw [hg1.id] at hyk
      cases hr : (g z).rdy with
      | false => rfl
      | true => rw [← (hg2 z).2.2.2 hr, h1 z hz hyk]
/-! ### a node goes -/
theorem del_kp (T : List Nd) (k : Int) : delE (T.map kp) k = (T.eraseP (fun x => x.n.id == k)).map kp := by
  induction T with
  | nil => rfl
  | cons a T ih =>
    simp only [delE, List.map_cons, List.eraseP_cons, kp] at ih ⊢
    cases a.n.id == k with
    | true => rfl
    | false => simpa [kp] using ih
theorem erase_n {T : List Nd} (k : Int) (hn : ((T.map (·.n)).map (·.id)).Nodup) : (T.eraseP (fun x => x.n.id == k)).map (·.n) = (T.map (·.n)).filter (fun x => !(x.id == k)) := by
  induction T with
  | nil => rfl
  | cons a T ih =>
    simp only [List.map_cons, List.nodup_cons] at hn
    simp only [List.eraseP_cons, List.map_cons, List.filter_cons]
    by_cases c : a.n.id = k
    · have c' : (a.n.id == k) = true := by simpa using c
      rw [c']
      simp only [cond_true, Bool.not_true, Bool.false_eq_true, if_false]
      symm
      rw [List.filter_eq_self]
      intro y hy
      have : y.id ≠ k := fun e => hn.1 (by rw [c, ← e]; exact List.mem_map.2 ⟨y, hy, rfl⟩)
      simpa using this
    · have c' : (a.n.id == k) = false := by simpa using c
      rw [c']
      simp only [cond_false, Bool.not_false, if_true, List.map_cons, ih hn.2]
theorem erase_perm {T : List Nd} {k : Int} {z : Nd} (h : T.find? (fun x => x.n.id == k) = some z) : T.Perm (z :: T.eraseP (fun x => x.n.id == k)) := by
  induction T with
  | nil => simp at h
  | cons a T ih =>
    simp only [List.find?_cons] at h
    simp only [List.eraseP_cons]
    cases hc : a.n.id == k with
    | true => rw [hc] at h; cases h; exact .refl _
    | false => rw [hc] at h; exact ((ih h).cons a).trans (.swap _ _ _)
theorem SK.erase {N : List Nr} (hs : SK N) {k : Int} (hk : k ≠ 0) (hno : ∀ x ∈ N, x.par ≠ k) : SK (N.filter (fun x => !(x.id == k))) := by
  have hm : ∀ x, x ∈ N.filter (fun x => !(x.id == k)) ↔ x ∈ N ∧ x.id ≠ k := fun x => by simp
  refine ⟨(List.filter_sublist.map _).nodup hs.nd, ?_, fun x hx => hs.rt x ((hm x).1 hx).1, fun x hx h0 => ?_, Nat.le_trans (List.length_filter_le _ _) hs.len, ?_⟩
  · obtain ⟨r, hr, h0⟩ := hs.root; exact ⟨r, (hm r).2 ⟨hr, by omega⟩, h0⟩
  · obtain ⟨h1, p, hp, h2, h3⟩ := hs.pa x ((hm x).1 hx).1 h0
    exact ⟨h1, p, (hm p).2 ⟨hp, fun e => hno x ((hm x).1 hx).1 (by rw [← h2, e])⟩, h2, h3⟩
  · obtain ⟨rk, h⟩ := hs.rk; exact ⟨rk, fun x hx => h x ((hm x).1 hx).1⟩
/-- A node that isn't ready, and has nobody, goes. -/
theorem OkT.erase {N : List Nr} {T : List Nd} (h : OkT N T) (hs : SK N) {k : Int} (hoff : ∀ y ∈ N, y.id = k → y.rdy = false) : OkT (N.filter (fun x => !(x.id == k))) (T.eraseP (fun x => x.n.id == k)) := by
  have hsub : ∀ x ∈ T.eraseP (fun x => x.n.id == k), x ∈ T := fun x hx => List.mem_of_mem_eraseP hx
  refine ⟨?_, fun x hx => h.srt x (hsub x hx), fun x hx p j => ?_⟩
  · rw [erase_n k (by rw [h.n]; exact hs.nd), h.n]
  · rw [h.mem x (hsub x hx) p j]
    constructor
    · rintro ⟨y, hy, h1, h2, h3, h4⟩
      refine ⟨y, ?_, h1, h2, h3, h4⟩
      rw [List.mem_filter]
      refine ⟨hy, ?_⟩
      have : y.id ≠ k := fun e => by rw [hoff y hy e] at h2; cases h2
      simpa using this
    · rintro ⟨y, hy, h1⟩
      exact ⟨y, (List.mem_filter.1 hy).1, h1⟩
/-! ### a node comes -/
theorem SK.add {N : List Nr} (hs : SK N) {n p : Nr} (hp : p ∈ N) (hpi : p.id = n.par) (hpt : p.thr = false) (h1 : 1 ≤ n.id) (hno : ∀ x ∈ N, x.id ≠ n.id) (hd : n.thr = true ∨ deepN 6 N n.par < 4) (hl : N.length < 60) : SK (N ++ [n]) := by
  obtain ⟨rk, hr⟩ := hs.rk
  have hm : ∀ x, x ∈ N ++ [n] ↔ x ∈ N ∨ x = n := fun x => by simp
  refine ⟨?_, ?_, ?_, ?_, by simp; omega, fun k => if k = n.id then rk n.par + 1 else rk k, fun x hx => ?_⟩
  · rw [List.map_append]
    refine List.nodup_append.2 ⟨hs.nd, by simp, ?_⟩
    intro a ha b hb
    obtain ⟨x, hx, rfl⟩ := List.mem_map.1 ha
    simp only [List.map_cons, List.map_nil, List.mem_singleton] at hb
    subst hb
    exact hno x hx
  · obtain ⟨r, hr, h0⟩ := hs.root; exact ⟨r, (hm r).2 (.inl hr), h0⟩
  · intro x hx h0
    rcases (hm x).1 hx with hx | rfl
    · exact hs.rt x hx h0
    · omega
  · intro x hx h0
    rcases (hm x).1 hx with hx | rfl
    · obtain ⟨g1, q, hq, g2, g3⟩ := hs.pa x hx h0
      exact ⟨g1, q, (hm q).2 (.inl hq), g2, g3⟩
    · exact ⟨h1, p, (hm p).2 (.inl hp), hpi, hpt⟩
  · rcases (hm x).1 hx with hx | rfl
    · simp only [if_neg (hno x hx)]
      have hpar : x.id ≠ 0 → x.par ≠ n.id := fun h0 e => by
        obtain ⟨_, q, hq, g2, _⟩ := hs.pa x hx h0
        exact hno q hq (by rw [g2, e])
      refine ⟨(hr x hx).1, fun h0 => ?_, (hr x hx).2.2⟩
      rw [if_neg (hpar h0)]; exact (hr x hx).2.1 h0
    · have hpr := (hr p hp).2.2.2 hpt
      have hne : x.par ≠ x.id := fun e => hno p hp (by rw [hpi, e])
      simp only [if_true, if_neg hne]
      rw [hpi] at hpr
      refine ⟨fun h0 => by omega, fun _ => trivial, by omega, fun ht => ?_⟩
      rcases hd with hd | hd
      · rw [ht] at hd; cases hd
      · rw [← hpi, deepN_rk hs hr 6 p hp (by have := (hr p hp).2.2.1; omega), hpi] at hd; omega
theorem OkT.add {N : List Nr} {T : List Nd} (h : OkT N T) (hs : SK N) {n p : Nr} (hp : p ∈ N) (hpi : p.id = n.par) (h1 : 1 ≤ n.id) (hno : ∀ x ∈ N, x.id ≠ n.id) (hr : n.rdy = false) (b ib : Nat) : OkT (N ++ [n]) (T ++ [⟨n, [], b, ib⟩]) := by
  have key : ∀ g s k, KD (N ++ [n]) g s k ↔ KD N g s k := fun g s k => by
    constructor
    · rintro ⟨y, hy, g1, g2, g3⟩
      rcases List.mem_append.1 hy with hy | hy
      · exact ⟨y, hy, g1, g2, g3⟩
      · simp only [List.mem_singleton] at hy; subst hy; rw [hr] at g2; cases g2
    · rintro ⟨y, hy, g1⟩; exact ⟨y, List.mem_append_left _ hy, g1⟩
  refine ⟨by rw [List.map_append, h.n]; rfl, fun x hx => ?_, fun x hx s k => ?_⟩
  · rcases List.mem_append.1 hx with hx | hx
    · exact h.srt x hx
    · simp only [List.mem_singleton] at hx; subst hx; exact List.Pairwise.nil
  · show _ ↔ KD (N ++ [n]) x.n.id s k
    rw [key]
    rcases List.mem_append.1 hx with hx | hx
    · exact h.mem x hx s k
    · simp only [List.mem_singleton] at hx; subst hx
      constructor
      · intro hh; cases hh
      · rintro ⟨y, hy, g1, _⟩
        by_cases c : y.id = 0
        · have := (hs.rt y hy c).1
          simp only at g1; omega
        · obtain ⟨_, q, hq, g2, _⟩ := hs.pa y hy c
          exact absurd (by rw [g2, g1]) (hno q hq)
end Go.Proofs.YtlhjibkkkhgonaaGreat
