/- Trees: what an index holds of a group, when one node changes. Conditions: none. -/
import Derived.Test.YtjbjngikaiggdaaGreatTm
set_option linter.unusedVariables false
set_option linter.unusedSimpArgs false
namespace Go.Proofs.YtjbjngikaiggdaaGreat
open Go.RowKit G
theorem find_no {l : List (Int × Int)} {id : Int} (h : ∀ e ∈ l, e.2 ≠ id) : findI l id = -1 := by
  rcases findI_cases l id with ⟨h1, _⟩ | ⟨i, e, _, he, hid, _⟩
  · exact h1
  · exact absurd hid (h e (List.mem_of_getElem? he))
theorem mem_insE {e : Int × Int} : ∀ {l : List (Int × Int)} {x : Int × Int}, x ∈ insE e l ↔ x = e ∨ x ∈ l
  | [], x => by simp [insE]
  | y :: r, x => by
    unfold insE
    split
    · rw [List.mem_cons, mem_insE, List.mem_cons]
      constructor
      · rintro (h | h | h)
        · exact .inr (.inl h)
        · exact .inl h
        · exact .inr (.inr h)
      · rintro (h | h | h)
        · exact .inr (.inl h)
        · exact .inl h
        · exact .inr (.inr h)
    · simp
theorem insE_len (e : Int × Int) : ∀ (l : List (Int × Int)), (insE e l).length = l.length + 1
  | [] => rfl
  | y :: r => by
    unfold insE
    split
    · simp [insE_len e r]
    · simp
theorem SrtE.ins {e : Int × Int} : ∀ {l : List (Int × Int)}, SrtE l → (∀ x ∈ l, x ≠ e) → SrtE (insE e l)
  | [], _, _ => by simp [insE, SrtE]
  | y :: r, h, hn => by
    have h' := List.pairwise_cons.1 h
    unfold insE
    split
    · rename_i hlt
      refine List.pairwise_cons.2 ⟨fun z hz => ?_, SrtE.ins (l := r) h'.2 (fun x hx => hn x (by simp [hx]))⟩
      rcases mem_insE.1 hz with rfl | hz
      · exact hlt
      · exact h'.1 z hz
    · rename_i hlt
      have hey : eLt e y := by
        rcases eLt_total hlt with h | h
        · exact absurd h (hn y (by simp))
        · exact h
      refine List.pairwise_cons.2 ⟨fun z hz => ?_, h⟩
      rcases List.mem_cons.1 hz with rfl | hz
      · exact hey
      · exact eLt_trans hey (h'.1 z hz)
theorem findI_no {l : List (Int × Int)} {id : Int} (h : ∀ e ∈ l, e.2 ≠ id) : ¬ findI l id ≥ 0 := by rw [find_no h]; decide
theorem findI_yes {l : List (Int × Int)} {id : Int} {e : Int × Int} (he : e ∈ l) (h : e.2 = id) : findI l id ≥ 0 := by
  rcases findI_cases l id with ⟨_, hn⟩ | ⟨i, _, hi, _⟩
  · exact absurd h (hn e he)
  · omega
/-- An entry is put. -/
theorem putE_ok {room : Int} {l : List (Int × Int)} {p id : Int} (hp : 0 ≤ p ∧ p ≤ 1099511627776) (hid : 0 ≤ id) (hn : ∀ e ∈ l, e.2 ≠ id) (hr : (l.length : Int) < room) : putE room l p id = (0, insE (p, id) l) := by
  have h1 : isPassB p = true := by simp only [isPassB, Bool.and_eq_true, decide_eq_true_eq]; omega
  rw [putE, if_neg (by rw [h1]; simp; omega), if_neg (findI_no hn), if_neg (by omega)]

theorem dropE_is {l : List (Int × Int)} {id : Int} {e : Int × Int} (hs : SrtE l) (he : e ∈ l) (h : e.2 = id) (hu : ∀ e' ∈ l, e'.2 = id → e' = e) : ∃ l', dropE l id = (0, l') ∧ SrtE l' ∧ l'.length + 1 = l.length ∧ ∀ x, x ∈ l' ↔ x ∈ l ∧ x.2 ≠ id := by
  rcases findI_cases l id with ⟨_, hn⟩ | ⟨i, e', hi, hie, hid, _⟩
  · exact absurd h (hn e he)
  · have hil := (List.getElem?_eq_some_iff.1 hie).1
    obtain rfl := hu e' (List.mem_of_getElem? hie) hid
    refine ⟨l.eraseIdx i, ?_, hs.sublist (List.eraseIdx_sublist _ _), by rw [List.length_eraseIdx_of_lt hil]; omega, fun x => ?_⟩
    · rw [dropE, if_neg (by omega), hi, Int.toNat_natCast, List.eraseIdx_eq_take_drop_succ]
    · rw [List.mem_eraseIdx_iff_getElem?]
      constructor
      · rintro ⟨v, hv, hx⟩
        refine ⟨List.mem_of_getElem? hx, fun hxi => ?_⟩
        have hxe := hu x (List.mem_of_getElem? hx) hxi
        subst hxe
        rcases Nat.lt_trichotomy v i with c | c | c
        · exact absurd (hs.at hx hie c) (eLt_irrefl _)
        · exact hv c
        · exact absurd (hs.at hie hx c) (eLt_irrefl _)
      · rintro ⟨hx, hxi⟩
        obtain ⟨v, hv⟩ := List.mem_iff_getElem?.1 hx
        refine ⟨v, fun c => ?_, hv⟩
        subst c
        rw [hie] at hv
        cases hv
        exact hxi hid
theorem rekeyE_is {l : List (Int × Int)} {id p : Int} {e : Int × Int} (hs : SrtE l) (he : e ∈ l) (h : e.2 = id) (hu : ∀ e' ∈ l, e'.2 = id → e' = e) (hp : 0 ≤ p ∧ p ≤ 1099511627776) :
    ∃ l', rekeyE l id p = (0, l') ∧ SrtE l' ∧ l'.length = l.length ∧ ∀ x, x ∈ l' ↔ x = (p, id) ∨ (x ∈ l ∧ x.2 ≠ id) := by
  obtain ⟨l', h1, h2, h3, h4⟩ := dropE_is hs he h hu
  have h0 : ¬ findI l id < 0 := by have := findI_yes he h; omega
  rw [dropE, if_neg h0, Prod.mk.injEq] at h1
  have hpb : isPassB p = true := by simp only [isPassB, Bool.and_eq_true, decide_eq_true_eq]; omega
  refine ⟨insE (p, id) l', by rw [rekeyE, if_neg (by simp [hpb]), if_neg h0, h1.2], h2.ins fun x hx hxe => ?_, by rw [insE_len]; exact h3, fun x => by rw [mem_insE, h4]⟩
  subst hxe
  exact ((h4 _).1 hx).2 rfl
/-! ## what is ready in a group -/
def KD (N : List Nr) (g p k : Int) : Prop := ∃ y ∈ N, y.par = g ∧ y.rdy = true ∧ y.pass = p ∧ y.id = k
theorem KD_up {N : List Nr} (hn : (N.map (·.id)).Nodup) {x : Nr} (hx : x ∈ N) {f : Nr → Nr} (hf : Skel f) {g p j : Int} : KD (upN N x.id f) g p j ↔ (j ≠ x.id ∧ KD N g p j) ∨ (j = x.id ∧ x.par = g ∧ (f x).rdy = true ∧ (f x).pass = p) := by
  constructor
  · rintro ⟨y, hy, h1, h2, h3, h4⟩
    obtain ⟨z, hz, ⟨e1, rfl⟩ | ⟨e1, rfl⟩⟩ := mem_upN.1 hy
    · have := nd_eq hn hz hx e1; subst this
      rw [hf.id] at h4; rw [hf.par] at h1
      exact .inr ⟨h4.symm, h1, h2, h3⟩
    · exact .inl ⟨fun h => e1 (by rw [h4, h]), y, hz, h1, h2, h3, h4⟩
  · rintro (⟨h1, y, hy, h2, h3, h4, h5⟩ | ⟨h1, h2, h3, h4⟩)
    · exact ⟨y, mem_upN.2 ⟨y, hy, .inr ⟨fun h => h1 (by rw [← h5, h]), rfl⟩⟩, h2, h3, h4, h5⟩
    · exact ⟨f x, mem_upN.2 ⟨x, hx, .inl ⟨rfl, rfl⟩⟩, by rw [hf.par, h2], h3, h4, by rw [hf.id, h1]⟩
theorem KD_one {N : List Nr} (hn : (N.map (·.id)).Nodup) {x : Nr} (hx : x ∈ N) {g p : Int} : KD N g p x.id ↔ x.par = g ∧ x.rdy = true ∧ x.pass = p := by
  constructor
  · rintro ⟨y, hy, h1, h2, h3, h4⟩
    have := nd_eq hn hy hx h4; subst this
    exact ⟨h1, h2, h3⟩
  · rintro ⟨h1, h2, h3⟩
    exact ⟨x, hx, h1, h2, h3, rfl⟩
/-- A change of a node tells nothing to a group that isn't its own, or of which it says the same. -/
theorem KD_same {N : List Nr} (hn : (N.map (·.id)).Nodup) {x : Nr} (hx : x ∈ N) {f : Nr → Nr} (hf : Skel f) {g p j : Int} (h : x.par ≠ g ∨ ((f x).rdy = x.rdy ∧ ((f x).pass = x.pass ∨ x.rdy = false))) : KD (upN N x.id f) g p j ↔ KD N g p j := by
  rw [KD_up hn hx hf]
  by_cases c : j = x.id
  · subst c
    rw [KD_one hn hx]
    rcases h with h | ⟨h1, h2⟩
    · simp [h]
    · rw [h1]
      rcases h2 with h2 | h2
      · rw [h2]; simp
      · simp [h2]
  · simp [c]
theorem KD_uni {N : List Nr} (hn : (N.map (·.id)).Nodup) {g p p' k : Int} (h : KD N g p k) (h' : KD N g p' k) : p = p' := by
  obtain ⟨y, hy, _, _, h3, h4⟩ := h
  rw [← h4, KD_one hn hy] at h'
  rw [← h3, h'.2.2]
theorem kidR_ne {N : List Nr} {g : Int} : kidR N g ≠ [] ↔ ∃ p k, KD N g p k := by
  constructor
  · intro hne
    obtain ⟨y, hy⟩ := List.exists_mem_of_ne_nil _ hne
    simp only [kidR, List.mem_filter, Bool.and_eq_true, beq_iff_eq] at hy
    exact ⟨y.pass, y.id, y, hy.1, hy.2.1, hy.2.2, rfl, rfl⟩
  · rintro ⟨p, k, y, hy, h1, h2, _⟩
    exact List.ne_nil_of_mem (a := y) (by simp only [kidR, List.mem_filter, Bool.and_eq_true, beq_iff_eq]; exact ⟨hy, h1, h2⟩)
/-! ## the nodes in memory, when one changes -/
/-- The same nodes at the same places. -/
def SameT (T T' : List Nd) : Prop := T'.map (fun x => (x.n.id, x.b, x.ib)) = T.map (fun x => (x.n.id, x.b, x.ib))
theorem SameT.refl (T : List Nd) : SameT T T := Eq.refl _
theorem SameT.trans {A B C : List Nd} (h : SameT A B) (g : SameT B C) : SameT A C := Eq.trans g h
theorem SameT.kp {T T' : List Nd} (h : SameT T T') : T'.map kp = T.map kp := by
  have := congrArg (List.map (fun (z : Int × Nat × Nat) => ((z.1, Value.pointer (some ⟨z.2.1, 0, none⟩)) : Int × Value))) h
  rw [List.map_map, List.map_map] at this
  exact this
theorem SameT.at {T T' : List Nd} (h : SameT T T') {i : Nat} {x : Nd} (hi : T[i]? = some x) : ∃ x', T'[i]? = some x' ∧ x'.n.id = x.n.id ∧ x'.b = x.b ∧ x'.ib = x.ib := by
  have := congrArg (fun l => l[i]?) h
  simp only [List.getElem?_map, hi, Option.map_some] at this
  obtain ⟨x', h1, h2⟩ := Option.map_eq_some_iff.1 this
  simp only [Prod.mk.injEq] at h2
  exact ⟨x', h1, h2.1, h2.2.1, h2.2.2⟩
theorem SameT.set {T : List Nd} {i : Nat} {x x' : Nd} (hi : T[i]? = some x) (h : x'.n.id = x.n.id ∧ x'.b = x.b ∧ x'.ib = x.ib) : SameT T (T.set i x') := by
  unfold SameT
  apply List.ext_getElem?
  intro j
  simp only [List.getElem?_map, List.getElem?_set]
  split
  · rename_i e; subst e
    obtain ⟨hil, rfl⟩ := List.getElem?_eq_some_iff.1 hi
    simp [hil, h.1, h.2.1, h.2.2]
  · rfl
theorem OkT.mem_n {N : List Nr} {T : List Nd} (h : OkT N T) {x : Nd} (hx : x ∈ T) : x.n ∈ N := h.n ▸ List.mem_map.2 ⟨x, hx, rfl⟩
theorem OkT.of_n {N : List Nr} {T : List Nd} (h : OkT N T) {y : Nr} (hy : y ∈ N) : ∃ (i : Nat) (x : Nd), T[i]? = some x ∧ x.n = y := by
  rw [← h.n] at hy
  obtain ⟨x, hx, rfl⟩ := List.mem_map.1 hy
  obtain ⟨i, hi⟩ := List.mem_iff_getElem?.1 hx
  exact ⟨i, x, hi, rfl⟩
theorem OkT.len {N : List Nr} {T : List Nd} (h : OkT N T) : T.length = N.length := by rw [← h.n, List.length_map]
theorem OkT.ix {N : List Nr} {T : List Nd} (h : OkT N T) (hn : (N.map (·.id)).Nodup) {i j : Nat} {x y : Nd} (hi : T[i]? = some x) (hj : T[j]? = some y) (he : x.n.id = y.n.id) : i = j := by
  have hN : N.map (·.id) = T.map (fun x : Nd => x.n.id) := by rw [← h.n]; simp [List.map_map, Function.comp_def]
  rw [hN] at hn
  obtain ⟨hil, rfl⟩ := List.getElem?_eq_some_iff.1 hi
  obtain ⟨hjl, rfl⟩ := List.getElem?_eq_some_iff.1 hj
  exact (List.getElem_inj (h₀ := by simpa using hil) (h₁ := by simpa using hjl) hn).1 (by simpa using he)
theorem OkT.at {N : List Nr} {T : List Nd} (h : OkT N T) (hn : (N.map (·.id)).Nodup) {i : Nat} {x : Nd} (hi : T[i]? = some x) : gt N x.n.id = some x.n := gt_of hn (h.mem_n (List.mem_of_getElem? hi))
/-- One that is told by its number. -/
theorem OkT.get {N : List Nr} {T : List Nd} (h : OkT N T) {k : Int} {y : Nr} (hg : gt N k = some y) : ∃ (i : Nat) (x : Nd), T[i]? = some x ∧ x.n = y ∧ x.n.id = k := by
  obtain ⟨h1, h2⟩ := gt_mem hg
  obtain ⟨i, x, hi, hx⟩ := h.of_n h1
  exact ⟨i, x, hi, hx, by rw [hx, h2]⟩
theorem lkE_kp (T : List Nd) (k : Int) : lkE (T.map kp) k = (T.find? (fun x : Nd => x.n.id == k)).map (fun x => .pointer (some ⟨x.b, 0, none⟩)) := by
  induction T with
  | nil => rfl
  | cons a T ih =>
    simp only [List.map_cons, lkE, kp, List.find?_cons]
    cases a.n.id == k with
    | true => rfl
    | false => simpa using ih
theorem lk_some {N : List Nr} {T : List Nd} (h : OkT N T) (hn : (N.map (·.id)).Nodup) {i : Nat} {x : Nd} {k : Int} (hi : T[i]? = some x) (hk : x.n.id = k) : lkE (T.map kp) k = some (.pointer (some ⟨x.b, 0, none⟩)) := by
  rw [lkE_kp]
  cases hf : T.find? (fun x : Nd => x.n.id == k) with
  | none => simp only [List.find?_eq_none, beq_iff_eq] at hf; exact absurd hk (hf x (List.mem_of_getElem? hi))
  | some y =>
    have hy := List.mem_of_find?_eq_some hf
    obtain ⟨j, hj⟩ := List.mem_iff_getElem?.1 hy
    have hyk : y.n.id = k := by simpa using List.find?_some hf
    have := h.ix hn hi hj (by rw [hk, hyk])
    subst this
    rw [hi] at hj
    cases hj
    rfl
theorem lk_none {N : List Nr} {T : List Nd} (h : OkT N T) {k : Int} (hg : gt N k = none) : lkE (T.map kp) k = none := by
  rw [lkE_kp]
  cases hf : T.find? (fun x : Nd => x.n.id == k) with
  | none => rfl
  | some y => exact absurd (by simpa using List.find?_some hf) (gt_none.1 hg _ (h.mem_n (List.mem_of_find?_eq_some hf)))
theorem set_up {N : List Nr} {T : List Nd} (h : T.map (·.n) = N) (hn : (N.map (·.id)).Nodup) {i : Nat} {x : Nd} (hi : T[i]? = some x) (f : Nr → Nr) (x' : Nd) (hx' : x'.n = f x.n) : (T.set i x').map (·.n) = upN N x.n.id f := by
  subst h
  apply List.ext_getElem?
  intro j
  obtain ⟨hil, hxi⟩ := List.getElem?_eq_some_iff.1 hi
  simp only [upN, List.getElem?_map, List.getElem?_set]
  by_cases c : i = j
  · subst c
    simp [hil, hxi, hx']
  · rw [if_neg c]
    cases hj : T[j]? with
    | none => simp
    | some y =>
      have : y.n.id ≠ x.n.id := by
        intro e
        obtain ⟨hjl, hyj⟩ := List.getElem?_eq_some_iff.1 hj
        refine c ((List.getElem_inj (h₀ := by simpa using hil) (h₁ := by simpa using hjl) hn).1 ?_)
        simp [hxi, hyj, e]
      simp [this]
/-- A node has changed, of which its group learns nothing. -/
theorem OkT.one {N : List Nr} {T : List Nd} (h : OkT N T) (hn : (N.map (·.id)).Nodup) {i : Nat} {x : Nd} (hi : T[i]? = some x) {f : Nr → Nr} (hf : Skel f) (hs : (∀ y ∈ N, y.id ≠ x.n.par) ∨ ((f x.n).rdy = x.n.rdy ∧ ((f x.n).pass = x.n.pass ∨ x.n.rdy = false))) :
    OkT (upN N x.n.id f) (T.set i { x with n := f x.n }) := by
  have key : ∀ z ∈ T, ∀ p k, (p, k) ∈ z.q ↔ KD (upN N x.n.id f) z.n.id p k := by
    intro z hz p k
    rw [KD_same hn (h.mem_n (List.mem_of_getElem? hi)) hf]
    · exact h.mem z hz p k
    · rcases hs with hs | hs
      · exact .inl fun e => hs z.n (h.mem_n hz) e.symm
      · exact .inr hs
  refine ⟨set_up h.n hn hi f _ rfl, fun z hz => ?_, fun z hz p k => ?_⟩
  · rcases List.mem_or_eq_of_mem_set hz with hz | rfl
    · exact h.srt z hz
    · exact h.srt x (List.mem_of_getElem? hi)
  · rcases List.mem_or_eq_of_mem_set hz with hz | rfl
    · exact key z hz p k
    · have := key x (List.mem_of_getElem? hi) p k
      show (p, k) ∈ x.q ↔ KD (upN N x.n.id f) (f x.n).id p k
      rw [hf.id]
      exact this
/-- A node and its group's index have changed. -/
theorem OkT.two {N : List Nr} {T : List Nd} (h : OkT N T) (hn : (N.map (·.id)).Nodup) {i j : Nat} {x p : Nd} (hi : T[i]? = some x) (hj : T[j]? = some p) (hp : p.n.id = x.n.par) (hij : i ≠ j) {f : Nr → Nr} (hf : Skel f) {q : List (Int × Int)} (hq : SrtE q)
    (hm : ∀ s k, (s, k) ∈ q ↔ KD (upN N x.n.id f) p.n.id s k) : OkT (upN N x.n.id f) ((T.set i { x with n := f x.n }).set j { p with q := q }) := by
  have hx := h.mem_n (List.mem_of_getElem? hi)
  have hj' : (T.set i { x with n := f x.n })[j]? = some p := by rw [List.getElem?_set, if_neg hij]; exact hj
  have hset : ((T.set i { x with n := f x.n }).set j { p with q := q }).map (·.n) = (T.set i { x with n := f x.n }).map (·.n) := by
    apply List.ext_getElem?
    intro l
    simp only [List.getElem?_map, List.getElem?_set (i := j)]
    by_cases c : j = l
    · subst c
      rw [hj', if_pos rfl, if_pos (List.getElem?_eq_some_iff.1 hj').1]
      rfl
    · rw [if_neg c]
  refine ⟨hset.trans (set_up h.n hn hi f _ rfl), ?_, ?_⟩
  · intro z hz
    rcases List.mem_or_eq_of_mem_set hz with hz | rfl
    · rcases List.mem_or_eq_of_mem_set hz with hz | rfl
      · exact h.srt z hz
      · exact h.srt x (List.mem_of_getElem? hi)
    · exact hq
  · intro z hz s k
    obtain ⟨l, hl⟩ := List.mem_iff_getElem?.1 hz
    rw [List.getElem?_set] at hl
    by_cases c : j = l
    · subst c
      rw [if_pos rfl] at hl
      split at hl
      · cases hl; exact hm s k
      · cases hl
    · rw [if_neg c, List.getElem?_set] at hl
      by_cases c2 : i = l
      · subst c2
        rw [if_pos rfl] at hl
        split at hl
        · cases hl
          have hne : x.n.par ≠ x.n.id := fun e => hij (h.ix hn hi hj (by rw [hp, e]))
          rw [show ({ x with n := f x.n } : Nd).n.id = x.n.id from hf.id _]
          show (s, k) ∈ x.q ↔ KD (upN N x.n.id f) x.n.id s k
          rw [KD_same hn hx hf (.inl hne)]
          exact h.mem x (List.mem_of_getElem? hi) s k
        · cases hl
      · rw [if_neg c2] at hl
        have hne : x.n.par ≠ z.n.id := fun e => c (h.ix hn hj hl (by rw [hp, e]))
        show (s, k) ∈ z.q ↔ KD (upN N x.n.id f) z.n.id s k
        rw [KD_same hn hx hf (.inl hne)]
        exact h.mem z (List.mem_of_getElem? hl) s k
end Go.Proofs.YtjbjngikaiggdaaGreat
