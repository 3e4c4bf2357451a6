/- Regions that draw their order: a condition held till the last operation, which may break it. Conditions: none. -/
import Derived.Test.YtjbjngikaiggdaaGreatBaseC
import Derived.Deep.RegionHeld3
import Derived.BigRegion
set_option linter.unusedVariables false
set_option linter.unusedSimpArgs false
namespace Go.Proofs.YtjbjngikaiggdaaGreat
open Go.RowKit

section
variable {P : Program} {ops : Array Oper} {Q : Exit → Act → World → Prop} {md : Region.Mode} {S : World → Prop} {N : List Nat}

/-- Whatever order is picked; S holds behind every operation but those of N. -/
def wpAnyN (P : Program) (md : Region.Mode) (ops : Array Oper) (Q : Exit → Act → World → Prop) (S : World → Prop) (N : List Nat) : Nat → Array Bool → Act → World → Prop
  | 0, listed, a, w => Region.ready md ops listed = [] ∧ Q .normal a w
  | fuel + 1, listed, a, w =>
    (Region.ready md ops listed = [] → Q .normal a w) ∧
    ∀ i ∈ Region.ready md ops listed, wpOp P ops Q i (fun a' w' => (N.contains i = false → S w → S w') ∧ wpAnyN P md ops Q S N fuel (listed.setIfInBounds i true) a' w') a w

theorem wpAny_of_N : ∀ (fuel : Nat) (listed : Array Bool) (a : Act) (w : World), wpAnyN P md ops Q S N fuel listed a w → wpAny P md ops Q fuel listed a w
  | 0, _, _, _, h => h
  | fuel + 1, _, _, _, h => ⟨h.1, fun i hi => wpOp_mono (fun a' w' h' => wpAny_of_N fuel _ a' w' h'.2) (h.2 i hi)⟩

/-- Those that wait for number i. -/
def waitUp (md : Region.Mode) (ops : Array Oper) (listed : Array Bool) (i : Nat) : List Nat :=
  (List.range ops.size).foldl (fun acc k => if k == i || (!listed.getD k true && ((ops[k]?).map (fun o => o.after.any fun e => Region.binds md e && acc.contains e.on)).getD false) then k :: acc else acc) []

def waitOk (md : Region.Mode) (ops : Array Oper) (listed : Array Bool) (N : List Nat) (i : Nat) (B : List Nat) : Bool :=
  (N.all fun n => listed.getD n true || B.contains n) && B.all fun k => !listed.getD k true && (k == i || ((ops[k]?).map (fun o => o.after.any fun e => Region.binds md e && B.contains e.on)).getD false)

structure WaitInv (md : Region.Mode) (ops : Array Oper) (N : List Nat) (i : Nat) (B : List Nat) (listed : Array Bool) : Prop where
  has : ∀ n ∈ N, listed.getD n true = true ∨ n ∈ B
  un : ∀ k ∈ B, listed.getD k true = false
  waits : ∀ k ∈ B, k ≠ i → ∃ o, ops[k]? = some o ∧ ∃ e ∈ o.after, Region.binds md e = true ∧ e.on ∈ B

theorem getD_un {listed : Array Bool} {i : Nat} (h : listed.getD i true = false) : listed.getD i false = false := by
  rcases Nat.lt_or_ge i listed.size with h' | h'
  · simp [h'] at h ⊢; exact h
  · simp [Array.getElem?_eq_none h'] at h
theorem waitOk_inv {i : Nat} {B : List Nat} {listed : Array Bool} (h : waitOk md ops listed N i B = true) : WaitInv md ops N i B listed := by
  simp only [waitOk, Bool.and_eq_true, List.contains_iff_mem, List.all_eq_true, Bool.or_eq_true, Bool.not_eq_true', beq_iff_eq] at h
  refine ⟨h.1, fun k hk => (h.2 k hk).1, fun k hk hne => ?_⟩
  rcases (h.2 k hk).2 with h2 | h2
  · exact absurd h2 hne
  · cases ho : ops[k]? with
    | none => rw [ho] at h2; cases h2
    | some o =>
      rw [ho] at h2
      have h3 : (o.after.any fun e => Region.binds md e && B.contains e.on) = true := h2
      obtain ⟨e, he, hb⟩ := Array.any_eq_true'.1 h3
      simp only [Bool.and_eq_true, List.contains_iff_mem] at hb
      exact ⟨o, rfl, e, he, hb.1, hb.2⟩
theorem WaitInv.out {i j : Nat} {B : List Nat} {listed : Array Bool} (h : WaitInv md ops N i B listed) (hj : j ∈ Region.ready md ops listed) (hne : j ≠ i) : j ∉ B := fun hB => by
  obtain ⟨_, oj, hoj, hall⟩ := mem_ready.1 hj
  obtain ⟨o, ho, e, he, hb, hon⟩ := h.waits j hB hne
  have : o = oj := Option.some.inj (ho.symm.trans hoj)
  subst this
  have h1 := hall e he hb
  rw [getD_un (h.un _ hon)] at h1
  cases h1
theorem WaitInv.set {i j : Nat} {B : List Nat} {listed : Array Bool} (h : WaitInv md ops N i B listed) (hj : j ∉ B) : WaitInv md ops N i B (listed.setIfInBounds j true) :=
  ⟨fun n hn => (h.has n hn).imp (fun h1 => by
    by_cases e : j = n
    · subst e
      rcases Nat.lt_or_ge j listed.size with h' | h'
      · simp [h']
      · simp [Array.getElem?_eq_none h']
    · rw [getD_set_ne true e]; exact h1) id, fun k hk => by
    have hne : j ≠ k := fun e => by subst e; exact hj hk
    rw [getD_set_ne true hne]; exact h.un k hk, h.waits⟩

theorem wpAnyN_first {i : Nat} {oi : Oper} {v : Value} (hi : ops[i]? = some oi) (B : List Nat) (hsel : ∀ (j : Nat) (o : Oper) cs b, ops[j]? = some o → o.op ≠ .select cs b)
    (hQ : ∀ c a w, Q (.panic c) (a.put oi.dst v) w → Q (.panic c) a w) :
    ∀ (fuel : Nat) (listed : Array Bool) (a : Act) (w : World), WaitInv md ops N i B listed →
      (∀ j oj, ops[j]? = some oj → j ≠ i → listed.getD j true = false → (∀ e ∈ oj.after, Region.binds md e = true → e.on ≠ i) → oi.apart ops oj = true) →
      i ∈ Region.ready md ops listed → YieldsIf P ops S oi v a → S w →
      wpAnyN P md ops Q S N fuel (listed.setIfInBounds i true) (a.put oi.dst v) w → wpAnyN P md ops Q S N (fuel + 1) listed a w := by
  intro fuel
  induction fuel with
  | zero =>
    intro listed a w _ _ hr hy hS H
    refine ⟨fun h => (by rw [h] at hr; cases hr), fun j hj => ?_⟩
    by_cases hji : j = i
    · subst hji; exact hy.wpOp hi hS ⟨fun _ h => h, H⟩
    · have := ready_mono hj hji
      rw [H.1] at this
      cases this
  | succ fuel ih =>
    intro listed a w hinv hfree hr hy hS H
    refine ⟨fun h => (by rw [h] at hr; cases hr), fun j hj => ?_⟩
    by_cases hji : j = i
    · subst hji; exact hy.wpOp hi hS ⟨fun _ h => h, H⟩
    · have hjB := hinv.out hj hji
      have hjn : N.contains j = false := by
        cases hc : N.contains j with
        | false => rfl
        | true =>
          rcases hinv.has j (by simpa using hc) with h | h
          · rw [(mem_ready.1 hj).1] at h; cases h
          · exact absurd h hjB
      have h1 := H.2 j (ready_mono hj hji)
      obtain ⟨hjun, oj, hoj, hall⟩ := mem_ready.1 hj
      have hnot : ∀ e ∈ oj.after, Region.binds md e = true → e.on ≠ i := fun e he hb heq => by
        have h1 := hall e he hb
        have h0 := (mem_ready.1 hr).1
        rw [heq] at h1
        rcases Nat.lt_or_ge i listed.size with h' | h'
        · simp [h'] at h0 h1; rw [h0] at h1; cases h1
        · simp [Array.getElem?_eq_none h'] at h1
      have h2 := wpOp_putIf hoj (hfree j oj hoj hji hjun hnot) (fun cs b => hsel i oi cs b hi) (fun cs b => hsel j oj cs b hoj) hQ hy h1
      have hfree' : ∀ k ok, ops[k]? = some ok → k ≠ i → (listed.setIfInBounds j true).getD k true = false →
          (∀ e ∈ ok.after, Region.binds md e = true → e.on ≠ i) → oi.apart ops ok = true := fun k ok hk hki hun hno => by
        refine hfree k ok hk hki ?_ hno
        by_cases hjk : j = k
        · subst hjk; exact hjun
        · rw [getD_set_ne true hjk] at hun; exact hun
      refine wpOp_mono (fun a' w' h3 => ⟨h3.2.1, ih (listed.setIfInBounds j true) a' w' (hinv.set hjB) hfree' (ready_mono hr (Ne.symm hji)) h3.1 (h3.2.1 hjn hS) ?_⟩) h2
      rw [Array.setIfInBounds_comm _ _ hji]
      exact h3.2.2

theorem wpAnyN_firstU {i : Nat} {oi : Oper} {v : Value} (hi : ops[i]? = some oi) (hsel : ∀ (j : Nat) (o : Oper) cs b, ops[j]? = some o → o.op ≠ .select cs b)
    (hQ : ∀ c a w, Q (.panic c) (a.put oi.dst v) w → Q (.panic c) a w) :
    ∀ (fuel : Nat) (listed : Array Bool) (a : Act) (w : World),
      (∀ j oj, ops[j]? = some oj → j ≠ i → listed.getD j true = false → (∀ e ∈ oj.after, Region.binds md e = true → e.on ≠ i) → oi.apart ops oj = true) →
      i ∈ Region.ready md ops listed → YieldsIf P ops (fun _ => True) oi v a →
      wpAnyN P md ops Q S N fuel (listed.setIfInBounds i true) (a.put oi.dst v) w → wpAnyN P md ops Q S N (fuel + 1) listed a w := by
  intro fuel
  induction fuel with
  | zero =>
    intro listed a w _ hr hy H
    refine ⟨fun h => (by rw [h] at hr; cases hr), fun j hj => ?_⟩
    by_cases hji : j = i
    · subst hji; exact hy.wpOp hi trivial ⟨fun _ h => h, H⟩
    · have := ready_mono hj hji
      rw [H.1] at this
      cases this
  | succ fuel ih =>
    intro listed a w hfree hr hy H
    refine ⟨fun h => (by rw [h] at hr; cases hr), fun j hj => ?_⟩
    by_cases hji : j = i
    · subst hji; exact hy.wpOp hi trivial ⟨fun _ h => h, H⟩
    · have h1 := H.2 j (ready_mono hj hji)
      obtain ⟨hjun, oj, hoj, hall⟩ := mem_ready.1 hj
      have hnot : ∀ e ∈ oj.after, Region.binds md e = true → e.on ≠ i := fun e he hb heq => by
        have h1 := hall e he hb
        have h0 := (mem_ready.1 hr).1
        rw [heq] at h1
        rcases Nat.lt_or_ge i listed.size with h' | h'
        · simp [h'] at h0 h1; rw [h0] at h1; cases h1
        · simp [Array.getElem?_eq_none h'] at h1
      have h2 := wpOp_putIf hoj (hfree j oj hoj hji hjun hnot) (fun cs b => hsel i oi cs b hi) (fun cs b => hsel j oj cs b hoj) hQ hy h1
      have hfree' : ∀ k ok, ops[k]? = some ok → k ≠ i → (listed.setIfInBounds j true).getD k true = false →
          (∀ e ∈ ok.after, Region.binds md e = true → e.on ≠ i) → oi.apart ops ok = true := fun k ok hk hki hun hno => by
        refine hfree k ok hk hki ?_ hno
        by_cases hjk : j = k
        · subst hjk; exact hjun
        · rw [getD_set_ne true hjk] at hun; exact hun
      refine wpOp_mono (fun a' w' h3 => ⟨h3.2.1, ih (listed.setIfInBounds j true) a' w' hfree' (ready_mono hr (Ne.symm hji)) h3.1 ?_⟩) h2
      rw [Array.setIfInBounds_comm _ _ hji]
      exact h3.2.2
def takeOkU (md : Region.Mode) (ops : Array Oper) (listed : Array Bool) (i : Nat) : Bool :=
  Region.noSelect ops && Region.free md ops listed i && (Region.ready md ops listed).contains i
theorem wpAnyN_takeU (i : Nat) {oi : Oper} {v : Value} {fuel : Nat} {listed : Array Bool} {a : Act} {w : World} (hi : ops[i]? = some oi) (hB : takeOkU md ops listed i = true)
    (hQ : ∀ c a w, Q (.panic c) (a.put oi.dst v) w → Q (.panic c) a w) (hy : YieldsIf P ops (fun _ => True) oi v a)
    (h : wpAnyN P md ops Q S N fuel (listed.setIfInBounds i true) (a.put oi.dst v) w) : wpAnyN P md ops Q S N (fuel + 1) listed a w := by
  simp only [takeOkU, Bool.and_eq_true] at hB
  obtain ⟨⟨h2, h3⟩, h4⟩ := hB
  exact wpAnyN_firstU hi (Region.noSelect_spec h2) hQ fuel listed a w (Region.free_spec hi h3) (by simpa using h4) hy h

/-- What a take asks, as one Bool. -/
def takeOk (md : Region.Mode) (ops : Array Oper) (N : List Nat) (listed : Array Bool) (i : Nat) : Bool :=
  Region.noSelect ops && Region.free md ops listed i && (Region.ready md ops listed).contains i && waitOk md ops listed N i (waitUp md ops listed i)

theorem wpAnyN_take (i : Nat) {oi : Oper} {v : Value} {fuel : Nat} {listed : Array Bool} {a : Act} {w : World} (hi : ops[i]? = some oi) (hB : takeOk md ops N listed i = true)
    (hQ : ∀ c a w, Q (.panic c) (a.put oi.dst v) w → Q (.panic c) a w) (hS : S w) (hy : YieldsIf P ops S oi v a)
    (h : wpAnyN P md ops Q S N fuel (listed.setIfInBounds i true) (a.put oi.dst v) w) : wpAnyN P md ops Q S N (fuel + 1) listed a w := by
  simp only [takeOk, Bool.and_eq_true] at hB
  obtain ⟨⟨⟨h2, h3⟩, h4⟩, h5⟩ := hB
  exact wpAnyN_first hi _ (Region.noSelect_spec h2) hQ fuel listed a w (waitOk_inv h5) (Region.free_spec hi h3) (by simpa using h4) hy hS h

def AllN (P : Program) (md : Region.Mode) (ops : Array Oper) (Q : Exit → Act → World → Prop) (S : World → Prop) (N : List Nat) (fuel : Nat) (listed : Array Bool) (a : Act) (w : World) (rs : List Nat) : Prop :=
  ∀ i ∈ rs, wpOp P ops Q i (fun a' w' => (N.contains i = false → S w → S w') ∧ wpAnyN P md ops Q S N fuel (listed.setIfInBounds i true) a' w') a w
theorem AllN.nil {fuel : Nat} {listed : Array Bool} {a : Act} {w : World} : AllN P md ops Q S N fuel listed a w [] := fun _ h => by cases h
theorem AllN.cons {fuel : Nat} {listed : Array Bool} {a : Act} {w : World} {i : Nat} {o : Oper} {rs : List Nat} (ho : ops[i]? = some o)
    (h : ∀ K' : Act → World → Prop, Shut (∀ a w, (N.contains i = false → S w) → wpAnyN P md ops Q S N fuel (listed.setIfInBounds i true) a w → K' a w) → if Region.wanted o (yielded ops a.tmps) = true then Oper.wp P o a w K' Q else K' (a.put o.dst undef) w)
    (hs : AllN P md ops Q S N fuel listed a w rs) : AllN P md ops Q S N fuel listed a w (i :: rs) := fun j hj => by
  rcases List.mem_cons.1 hj with rfl | hj
  · exact wpOp_step ho (fun K' hK => h K' (fun a w hS hW => hK a w ⟨fun hn _ => hS hn, hW⟩))
  · exact hs j hj
theorem wpAnyN_all {fuel : Nat} {listed : Array Bool} {a : Act} {w : World} (rs : List Nat) (hr : (Region.ready md ops listed == rs && rs != []) = true)
    (h : AllN P md ops Q S N fuel listed a w rs) : wpAnyN P md ops Q S N (fuel + 1) listed a w := by
  simp only [Bool.and_eq_true, beq_iff_eq, bne_iff_ne] at hr
  exact ⟨fun h0 => absurd (hr.1 ▸ h0) hr.2, hr.1 ▸ h⟩
theorem wpAnyN_done {fuel : Nat} {listed : Array Bool} {a : Act} {w : World} (hr : (Region.ready md ops listed == []) = true) (h : Q .normal a w) : wpAnyN P md ops Q S N fuel listed a w := by
  simp only [beq_iff_eq] at hr
  cases fuel with
  | zero => exact ⟨hr, h⟩
  | succ f => exact ⟨fun _ => h, by rw [hr]; simp⟩
theorem wp_region_N (N : List Nat) (S : World → Prop) {id : Nat} {a : Act} {w : World} (hm : P.follows .mixedOrders = true) (hS : S w.drew)
    (h : S w.drew → wpAnyN P .any ops Q S N ops.size (Array.replicate ops.size false) a w.drew) : (Code.region id ops true).wp P Q a w :=
  wp_region_any hm (wpAny_of_N _ _ _ _ (h hS))
end
end Go.Proofs.YtjbjngikaiggdaaGreat
