/- The stable sort of quanta: its walks. Conditions: none. -/
import Derived.Test.YtjjbnmlhbbnhcaaBaseC
import Derived.Test.YtjjbnmlhbbnhcaaReg
import Derived.Test.YtjjbnmlhbbnhcaaFlo
import Derived.Deep.QuietTactic
import Derived.BigQuiet
import Derived.Deep.Cut
import Derived.Deep.CutRange
/- Rows whose elements change places within a range; ranges in order. Conditions: none. -/
set_option linter.unusedVariables false
set_option linter.unusedSimpArgs false
namespace Go.Proofs.Ytjjbnmlhbbnhcaa
variable {α : Type}

/-- ys is xs, its elements from a to e (not e) in other places. -/
structure Rng (a e : Nat) (xs ys : List α) : Prop where
  perm : ys.Perm xs
  out : ∀ i, (i < a ∨ e ≤ i) → ys[i]? = xs[i]?
  ins : ∀ i, a ≤ i → i < e → ∃ j, a ≤ j ∧ j < e ∧ ys[i]? = xs[j]?
theorem Rng.refl (a e : Nat) (xs : List α) : Rng a e xs xs := ⟨List.Perm.refl _, fun _ _ => rfl, fun i h1 h2 => ⟨i, h1, h2, rfl⟩⟩
theorem Rng.len {a e : Nat} {xs ys : List α} (h : Rng a e xs ys) : ys.length = xs.length := h.perm.length_eq
theorem Rng.trans {a e : Nat} {xs ys zs : List α} (h : Rng a e xs ys) (k : Rng a e ys zs) : Rng a e xs zs :=
  ⟨k.perm.trans h.perm, fun i hi => (k.out i hi).trans (h.out i hi), fun i h1 h2 => by
    obtain ⟨j, j1, j2, j3⟩ := k.ins i h1 h2
    obtain ⟨m, m1, m2, m3⟩ := h.ins j j1 j2
    exact ⟨m, m1, m2, j3.trans m3⟩⟩
theorem Rng.wide {a e a' e' : Nat} {xs ys : List α} (h : Rng a e xs ys) (ha : a' ≤ a) (he : e ≤ e') : Rng a' e' xs ys :=
  ⟨h.perm, fun i hi => h.out i (by omega), fun i h1 h2 => by
    by_cases hi : a ≤ i ∧ i < e
    · obtain ⟨j, j1, j2, j3⟩ := h.ins i hi.1 hi.2
      exact ⟨j, by omega, by omega, j3⟩
    · exact ⟨i, h1, h2, h.out i (by omega)⟩⟩
theorem Rng.mem {a e : Nat} {xs ys : List α} (h : Rng a e xs ys) {S : α → Prop} (hs : ∀ x ∈ xs, S x) : ∀ x ∈ ys, S x := fun x hx => hs x (h.perm.mem_iff.1 hx)

def swp (i j : Nat) (x y : α) (xs : List α) : List α := (xs.set i y).set j x
theorem swp_get {i j : Nat} {x y : α} {xs : List α} (hi : xs[i]? = some x) (hj : xs[j]? = some y) (k : Nat) :
    (swp i j x y xs)[k]? = if k = j then some x else if k = i then some y else xs[k]? := by
  have li := (List.getElem?_eq_some_iff.1 hi).1
  have lj := (List.getElem?_eq_some_iff.1 hj).1
  unfold swp
  rw [List.getElem?_set, List.getElem?_set]
  by_cases h1 : j = k
  · subst h1; simp [lj]
  · rw [if_neg h1, if_neg (show ¬ k = j by omega)]
    by_cases h2 : i = k
    · subst h2; simp [li]
    · rw [if_neg h2, if_neg (show ¬ k = i by omega)]
theorem swp_perm {i j : Nat} {x y : α} {xs : List α} (hi : xs[i]? = some x) (hj : xs[j]? = some y) : (swp i j x y xs).Perm xs := by
  obtain ⟨li, rfl⟩ := List.getElem?_eq_some_iff.1 hi
  obtain ⟨lj, rfl⟩ := List.getElem?_eq_some_iff.1 hj
  exact List.set_set_perm li lj
theorem Rng.swp {a e i j : Nat} {x y : α} {xs : List α} (hi : xs[i]? = some x) (hj : xs[j]? = some y) (h1 : a ≤ i) (h2 : i < e) (h3 : a ≤ j) (h4 : j < e) : Rng a e xs (swp i j x y xs) := by
  refine ⟨swp_perm hi hj, fun k hk => ?_, fun k k1 k2 => ?_⟩
  · rw [swp_get hi hj, if_neg (by omega), if_neg (by omega)]
  · rw [swp_get hi hj]
    by_cases e1 : k = j
    · exact ⟨i, h1, h2, by rw [if_pos e1, hi]⟩
    · rw [if_neg e1]
      by_cases e2 : k = i
      · exact ⟨j, h3, h4, by rw [if_pos e2, hj]⟩
      · exact ⟨k, k1, k2, by rw [if_neg e2]⟩

/-- In order from a to e. -/
def SrtR (key : α → Nat) (a e : Nat) (xs : List α) : Prop := ∀ i j x y, a ≤ i → i < j → j < e → xs[i]? = some x → xs[j]? = some y → key x ≤ key y
theorem SrtR.sub {key : α → Nat} {a e a' e' : Nat} {xs : List α} (h : SrtR key a e xs) (h1 : a ≤ a') (h2 : e' ≤ e) : SrtR key a' e' xs :=
  fun i j x y i1 i2 i3 => h i j x y (by omega) i2 (by omega)
theorem SrtR.keep {key : α → Nat} {a e a' e' : Nat} {xs ys : List α} (h : SrtR key a e xs) (k : Rng a' e' xs ys) (hd : e ≤ a' ∨ e' ≤ a) : SrtR key a e ys :=
  fun i j x y i1 i2 i3 hx hy => h i j x y i1 i2 i3 (by rw [← k.out i (by omega)]; exact hx) (by rw [← k.out j (by omega)]; exact hy)
/-- All of one range below all of another one. -/
def BelR (key : α → Nat) (a e a' e' : Nat) (xs : List α) : Prop := ∀ i j x y, a ≤ i → i < e → a' ≤ j → j < e' → xs[i]? = some x → xs[j]? = some y → key x ≤ key y
theorem BelR.left {key : α → Nat} {a e a' e' : Nat} {xs ys : List α} (h : BelR key a e a' e' xs) (k : Rng a e xs ys) (hd : e ≤ a') : BelR key a e a' e' ys := fun i j x y i1 i2 j1 j2 hx hy => by
  obtain ⟨m, m1, m2, m3⟩ := k.ins i i1 i2
  exact h m j x y m1 m2 j1 j2 (m3 ▸ hx) (by rw [← k.out j (by omega)]; exact hy)
theorem BelR.right {key : α → Nat} {a e a' e' : Nat} {xs ys : List α} (h : BelR key a e a' e' xs) (k : Rng a' e' xs ys) (hd : e ≤ a') : BelR key a e a' e' ys := fun i j x y i1 i2 j1 j2 hx hy => by
  obtain ⟨m, m1, m2, m3⟩ := k.ins j j1 j2
  exact h i m x y i1 i2 m1 m2 (by rw [← k.out i (by omega)]; exact hx) (m3 ▸ hy)
theorem SrtR.join {key : α → Nat} {a m e : Nat} {xs : List α} (h1 : SrtR key a m xs) (h2 : SrtR key m e xs) (h3 : BelR key a m m e xs) : SrtR key a e xs := fun i j x y i1 i2 i3 hx hy => by
  by_cases hj : j < m
  · exact h1 i j x y i1 i2 hj hx hy
  · by_cases hi : i < m
    · exact h3 i j x y i1 hi (by omega) i3 hx hy
    · exact h2 i j x y (by omega) i2 i3 hx hy
end Go.Proofs.Ytjjbnmlhbbnhcaa
/- insertionSortCmpFunc at quanta: its walk. Conditions: none. -/
set_option linter.unusedVariables false
set_option linter.unusedSimpArgs false
namespace Go.Proofs.Ytjjbnmlhbbnhcaa
open Go.RowKit
attribute [local go_sem] run_store_complex

abbrev CQ := Nat × Nat
def cE : Enc CQ := ⟨1, by decide, fun q => [.complex .f64 q.1 q.2], fun _ => rfl, by intro a u hu; simp at hu; subst hu; rfl⟩
abbrev tC : TypeId := 59
def byV : Value := .func (.func 39) #[] #[]

/-- Quanta that 'by' compares by their keys. -/
def CmpOk (S : CQ → Prop) (key : CQ → Nat) : Prop := ∀ (w : World) (q r : CQ), S q → S r →
  Calls Try.prog 39 #[.complex .f64 q.1 q.2, .complex .f64 r.1 r.2] w fun e w' => e = .returned (.int .i64 (ordI (compare (key q) (key r)))) ∧ Upd NoB w w'
theorem ordI_lt (m n : Nat) : decide (ordI (compare m n) < 0) = decide (m < n) := by
  by_cases h : m < n
  · rw [Nat.compare_eq_lt.2 h]; simp [h, ordI]
  · by_cases h2 : m = n
    · subst h2; rw [Nat.compare_eq_eq.2 rfl]; simp [ordI]
    · rw [Nat.compare_eq_gt.2 (by omega)]; simp [ordI]; omega

/-- What a sort leaves. -/
def SortPost (F : Nat → Prop) (w : World) (v : Value) (xs : List CQ) (a e : Nat) (Z : List CQ → Prop) (en : Ending) (w' : World) : Prop :=
  en = .returned (.tuple #[]) ∧ ∃ ys, Row cE tC w' F v ys ∧ Upd F w w' ∧ Rng a e xs ys ∧ Z ys
theorem row_cell {w : World} {F : Nat → Prop} {b o n c i : Nat} {xs : List CQ} {x : CQ} (h : Row cE tC w F (.slice (some ⟨b, o, none⟩) n c) xs) (hx : xs[i]? = some x) : w.cell? ⟨b, o + i, none⟩ = some (.complex .f64 x.1 x.2) := by
  have hl := h.lenEq
  subst hl
  obtain ⟨b', o', c', hv, _, _, hc⟩ := h.rd.at (List.getElem?_eq_some_iff.1 hx).1
  cases hv
  have := hc i 0 x _ hx rfl
  simpa [cE] using this
theorem row_frozen {w : World} {F : Nat → Prop} {b o n c : Nat} {xs : List CQ} (h : Row cE tC w F (.slice (some ⟨b, o, none⟩) n c) xs) (j : Nat) : w.frozen? ⟨b, j, none⟩ = false := by
  have hl := h.lenEq
  subst hl
  exact h.frozen rfl j
theorem row_put {w : World} {F : Nat → Prop} {b o n c i : Nat} {xs : List CQ} {x y : CQ} (h : Row cE tC w F (.slice (some ⟨b, o, none⟩) n c) xs) (hx : xs[i]? = some x) : Row cE tC (w.setCell ⟨b, o + i, none⟩ (.complex .f64 y.1 y.2)) F (.slice (some ⟨b, o, none⟩) n c) (xs.set i y) := by
  have := Row.set (j := 0) (x' := y) (u := .complex .f64 y.1 y.2) h hx rfl (by decide)
  simpa [cE] using this
theorem row_F {w : World} {F : Nat → Prop} {b o n c : Nat} {xs : List CQ} (h : Row cE tC w F (.slice (some ⟨b, o, none⟩) n c) xs) : F b := by
  rcases h with ⟨h, _⟩ | ⟨b', o', c', cur, h, rfl, _⟩
  · cases h
  · cases h; rfl
theorem row_lt {w : World} {F : Nat → Prop} {b o n c : Nat} {xs : List CQ} (h : Row cE tC w F (.slice (some ⟨b, o, none⟩) n c) xs) : b < w.heap.size := h.lt b (row_F h)
theorem cell_stay {w w' : World} (hU : Upd NoB w w') {b o : Nat} {u : Value} (h : w.cell? ⟨b, o, none⟩ = some u) (hb : b < w.heap.size) : w'.cell? ⟨b, o, none⟩ = some u :=
  (World.cell?_of_block (w := w) (a := ⟨b, _, none⟩) (hU.keep b hb (fun x => x))).trans h
/-- Two elements change places. -/
theorem row_swap {w : World} {F : Nat → Prop} {b o n c i j : Nat} {xs : List CQ} {x y : CQ} (h : Row cE tC w F (.slice (some ⟨b, o, none⟩) n c) xs) (hx : xs[i]? = some x) (hy : xs[j]? = some y) :
    Row cE tC ((w.setCell ⟨b, o + i, none⟩ (.complex .f64 y.1 y.2)).setCell ⟨b, o + j, none⟩ (.complex .f64 x.1 x.2)) F (.slice (some ⟨b, o, none⟩) n c) (swp i j x y xs) ∧
    Upd F w ((w.setCell ⟨b, o + i, none⟩ (.complex .f64 y.1 y.2)).setCell ⟨b, o + j, none⟩ (.complex .f64 x.1 x.2)) := by
  have h1 := row_put (y := y) h hx
  obtain ⟨z, hz⟩ : ∃ z, (xs.set i y)[j]? = some z := by
    have : j < (xs.set i y).length := by rw [List.length_set]; exact (List.getElem?_eq_some_iff.1 hy).1
    exact ⟨_, List.getElem?_eq_getElem this⟩
  exact ⟨row_put (y := x) h1 hz, (Upd.setCell w _ _ (row_F h)).trans (Upd.setCell _ _ _ (row_F h))⟩

theorem row_still {w : World} {F : Nat → Prop} {b o n c i j : Nat} {xs : List CQ} {x y : CQ} (h : Row cE tC w F (.slice (some ⟨b, o, none⟩) n c) xs) (hx : xs[i]? = some x) (hy : xs[j]? = some y) :
    ∃ u, (w.setCell ⟨b, o + i, none⟩ (.complex .f64 y.1 y.2)).cell? ⟨b, o + j, none⟩ = some u := by
  obtain ⟨z, hz⟩ : ∃ z, (xs.set i y)[j]? = some z := by
    have : j < (xs.set i y).length := by rw [List.length_set]; exact (List.getElem?_eq_some_iff.1 hy).1
    exact ⟨_, List.getElem?_eq_getElem this⟩
  exact ⟨_, row_cell (row_put (y := y) h hx) hz⟩
def InsRel (key : CQ → Nat) (w : World) (F : Nat → Prop) (v : Value) (xs : List CQ) (a e : Nat) (i : Value) (wr : World) : Prop :=
  ∃ (k : Nat) (ys : List CQ), i = .int .i64 k ∧ a + 1 ≤ k ∧ (k ≤ e ∨ k = a + 1) ∧ Row cE tC wr F v ys ∧ Upd F w wr ∧ Rng a e xs ys ∧ SrtR key a k ys
/-- In order from a to k, but for what lies at j, which is not above what lies behind it. -/
def ButOne (key : CQ → Nat) (a k j : Nat) (ys : List CQ) : Prop := ∀ p q x y, a ≤ p → p < q → q ≤ k → q ≠ j → (p = j ∨ p ≠ j) → ys[p]? = some x → ys[q]? = some y → key x ≤ key y
def InsRel2 (key : CQ → Nat) (w : World) (F : Nat → Prop) (v : Value) (xs : List CQ) (a e k : Nat) (i : Value) (wr : World) : Prop :=
  ∃ (j : Nat) (ys : List CQ), i = .int .i64 j ∧ a ≤ j ∧ j ≤ k ∧ Row cE tC wr F v ys ∧ Upd F w wr ∧ Rng a e xs ys ∧ ButOne key a k j ys

set_option maxHeartbeats 4000000 in
set_option maxRecDepth 100000 in
theorem s_ins {S : CQ → Prop} {key : CQ → Nat} (hc : CmpOk S key) (w : World) (F : Nat → Prop) (b o c n a e : Nat) (xs : List CQ) (hrow : Row cE tC w F (.slice (some ⟨b, o, none⟩) n c) xs) (hS : ∀ x ∈ xs, S x) (hae : a ≤ e) (hen : e ≤ n) (hn : n ≤ 1000000) :
    Calls Try.prog 57 #[.slice (some ⟨b, o, none⟩) n c, .int .i64 a, .int .i64 e, byV] w (SortPost F w (.slice (some ⟨b, o, none⟩) n c) xs a e (SrtR key a e)) := by
  have hln := hrow.lenEq
  have HR := Lib.hid hrow
  have HC := Lib.hid hc
  have HS := Lib.hid hS
  have HL := Lib.hid hln
  clear hrow hc hS hln
  unfold byV
  go_enter Try.func57, Try.ntmps57
  go_wp2
  go_loopw [8] (InsRel key w F (.slice (some ⟨b, o, none⟩) n c) xs a e) (fun i _ => e + 1 - (intOf i).toNat)
  case atStart => exact ⟨a + 1, xs, by go_num, Nat.le_refl _, .inr rfl, HR.out, Upd.refl _ _, Rng.refl _ _ _, fun i j x y i1 i2 i3 => by omega⟩
  case round =>
    clear HR
    obtain ⟨k, ys, rfl, hk1, hk2, hr, hu, hg, hs⟩ := hrel
    by_cases hlt : k < e
    · have HU := Lib.hid hu
      have HG := Lib.hid hg
      have HSR := Lib.hid hs
      have HR := Lib.hid hr
      clear hr hu hg hs
      go_wp2
      go_loopw [9] (InsRel2 key w F (.slice (some ⟨b, o, none⟩) n c) xs a e k) (fun i _ => (intOf i).toNat)
      case atStart => exact ⟨k, ys, rfl, by omega, Nat.le_refl _, HR.out, HU.out, HG.out, fun p q x y h1 h2 h3 h4 _ hx hy => HSR.out p q x y h1 h2 (by omega) hx hy⟩
      case round =>
        clear HR HU HG HSR
        obtain ⟨j, zs, rfl, hj1, hj2, hr, hu, hg, hs⟩ := hrel
        have hlen := hg.len
        have hl0 := HL.out
        by_cases hja : a < j
        · obtain ⟨m, hm⟩ : ∃ m, j = m + 1 := ⟨j - 1, by omega⟩
          obtain ⟨x, hx⟩ : ∃ x, zs[j]? = some x := ⟨zs[j]'(by omega), by simp⟩
          obtain ⟨y, hy⟩ : ∃ y, zs[m]? = some y := ⟨zs[m]'(by omega), by simp⟩
          have hSz := hg.mem HS.out
          have hcmp := fun w => HC.out w x y (hSz x (List.mem_of_getElem? hx)) (hSz y (List.mem_of_getElem? hy))
          have g0 := row_cell hr hx
          have g1 := row_cell hr hy
          have hbl := row_lt hr
          have q1 : decide ((a : Int) < (j : Int)) = true := by simp; omega
          have q1' : decide (a < j) = true := by simp; omega
          have q2 : ((j : Int) - 1) = (m : Int) := by omega
          have q2w : IntKind.i64.wrap (m : Int) = (m : Int) := IntWalk.i64_in _ (by omega)
          have q3 : j < n := by omega
          have q4 : m < n := by omega
          have HX := Lib.hid hx
          have HY := Lib.hid hy
          have HR := Lib.hid hr
          have HU := Lib.hid hu
          have HG := Lib.hid hg
          have HB := Lib.hid hs
          have HM := Lib.hid hm
          have HCMP := Lib.hid hcmp
          clear hr hu hg hs hx hy hm hcmp hSz hl0 hlen
          go_wp2
          refine wp_region_noPanic ?_
          refine wp_region_N [16] (fun w1 => w1.cell? ⟨b, o + j, none⟩ = some (.complex .f64 x.1 x.2) ∧ w1.cell? ⟨b, o + m, none⟩ = some (.complex .f64 y.1 y.2)) (by kernel_rfl) ⟨g0, g1⟩ ?_
          intro hS0
          (refine wpAnyN_take 0 (oi := ?oi1) (v := ?v1) ?hi1 (by kernel_rfl) (fun _ _ _ h => h) (by assumption) ?hy1 ?hk1; (case hi1 => (simp only [List.getElem?_toArray, List.getElem?_cons_zero, List.getElem?_cons_succ]; try rfl)); (case hy1 => (first | (refine Or.inl ⟨by rfl, ?_⟩; intro wq hSw; (try dsimp only at hSw); go_split_ands; (try go_simp); (try with_reducible rfl); done) | exact Or.inr ⟨by rfl, rfl⟩)); simp only [Act.put, List.setIfInBounds_toArray, List.set_cons_zero, List.set_cons_succ]); (refine wpAnyN_take 1 (oi := ?oi2) (v := ?v2) ?hi2 (by kernel_rfl) (fun _ _ _ h => h) (by assumption) ?hy2 ?hk2; (case hi2 => (simp only [List.getElem?_toArray, List.getElem?_cons_zero, List.getElem?_cons_succ]; try rfl)); (case hy2 => (first | (refine Or.inl ⟨by rfl, ?_⟩; intro wq hSw; (try dsimp only at hSw); go_split_ands; (try go_simp); (try with_reducible rfl); done) | exact Or.inr ⟨by rfl, rfl⟩)); simp only [Act.put, List.setIfInBounds_toArray, List.set_cons_zero, List.set_cons_succ]); (refine wpAnyN_take 2 (oi := ?oi3) (v := ?v3) ?hi3 (by kernel_rfl) (fun _ _ _ h => h) (by assumption) ?hy3 ?hk3; (case hi3 => (simp only [List.getElem?_toArray, List.getElem?_cons_zero, List.getElem?_cons_succ]; try rfl)); (case hy3 => (first | (refine Or.inl ⟨by rfl, ?_⟩; intro wq hSw; (try dsimp only at hSw); go_split_ands; (try go_simp); (try with_reducible rfl); done) | exact Or.inr ⟨by rfl, rfl⟩)); simp only [Act.put, List.setIfInBounds_toArray, List.set_cons_zero, List.set_cons_succ]); (refine wpAnyN_take 3 (oi := ?oi4) (v := ?v4) ?hi4 (by kernel_rfl) (fun _ _ _ h => h) (by assumption) ?hy4 ?hk4; (case hi4 => (simp only [List.getElem?_toArray, List.getElem?_cons_zero, List.getElem?_cons_succ]; try rfl)); (case hy4 => (first | (refine Or.inl ⟨by rfl, ?_⟩; intro wq hSw; (try dsimp only at hSw); go_split_ands; (try go_simp); (try with_reducible rfl); done) | exact Or.inr ⟨by rfl, rfl⟩)); simp only [Act.put, List.setIfInBounds_toArray, List.set_cons_zero, List.set_cons_succ]); (refine wpAnyN_take 4 (oi := ?oi5) (v := ?v5) ?hi5 (by kernel_rfl) (fun _ _ _ h => h) (by assumption) ?hy5 ?hk5; (case hi5 => (simp only [List.getElem?_toArray, List.getElem?_cons_zero, List.getElem?_cons_succ]; try rfl)); (case hy5 => (first | (refine Or.inl ⟨by rfl, ?_⟩; intro wq hSw; (try dsimp only at hSw); go_split_ands; (try go_simp); (try with_reducible rfl); done) | exact Or.inr ⟨by rfl, rfl⟩)); simp only [Act.put, List.setIfInBounds_toArray, List.set_cons_zero, List.set_cons_succ]); (refine wpAnyN_take 5 (oi := ?oi6) (v := ?v6) ?hi6 (by kernel_rfl) (fun _ _ _ h => h) (by assumption) ?hy6 ?hk6; (case hi6 => (simp only [List.getElem?_toArray, List.getElem?_cons_zero, List.getElem?_cons_succ]; try rfl)); (case hy6 => (first | (refine Or.inl ⟨by rfl, ?_⟩; intro wq hSw; (try dsimp only at hSw); go_split_ands; (try go_simp); (try with_reducible rfl); done) | exact Or.inr ⟨by rfl, rfl⟩)); simp only [Act.put, List.setIfInBounds_toArray, List.set_cons_zero, List.set_cons_succ]); (refine wpAnyN_take 6 (oi := ?oi7) (v := ?v7) ?hi7 (by kernel_rfl) (fun _ _ _ h => h) (by assumption) ?hy7 ?hk7; (case hi7 => (simp only [List.getElem?_toArray, List.getElem?_cons_zero, List.getElem?_cons_succ]; try rfl)); (case hy7 => (first | (refine Or.inl ⟨by rfl, ?_⟩; intro wq hSw; (try dsimp only at hSw); go_split_ands; (try go_simp); (try with_reducible rfl); done) | exact Or.inr ⟨by rfl, rfl⟩)); simp only [Act.put, List.setIfInBounds_toArray, List.set_cons_zero, List.set_cons_succ]); (refine wpAnyN_take 7 (oi := ?oi8) (v := ?v8) ?hi8 (by kernel_rfl) (fun _ _ _ h => h) (by assumption) ?hy8 ?hk8; (case hi8 => (simp only [List.getElem?_toArray, List.getElem?_cons_zero, List.getElem?_cons_succ]; try rfl)); (case hy8 => (first | (refine Or.inl ⟨by rfl, ?_⟩; intro wq hSw; (try dsimp only at hSw); go_split_ands; (try go_simp); (try with_reducible rfl); done) | exact Or.inr ⟨by rfl, rfl⟩)); simp only [Act.put, List.setIfInBounds_toArray, List.set_cons_zero, List.set_cons_succ]); (refine wpAnyN_take 8 (oi := ?oi9) (v := ?v9) ?hi9 (by kernel_rfl) (fun _ _ _ h => h) (by assumption) ?hy9 ?hk9; (case hi9 => (simp only [List.getElem?_toArray, List.getElem?_cons_zero, List.getElem?_cons_succ]; try rfl)); (case hy9 => (first | (refine Or.inl ⟨by rfl, ?_⟩; intro wq hSw; (try dsimp only at hSw); go_split_ands; (try go_simp); (try with_reducible rfl); done) | exact Or.inr ⟨by rfl, rfl⟩)); simp only [Act.put, List.setIfInBounds_toArray, List.set_cons_zero, List.set_cons_succ]); (refine wpAnyN_take 9 (oi := ?oi10) (v := ?v10) ?hi10 (by kernel_rfl) (fun _ _ _ h => h) (by assumption) ?hy10 ?hk10; (case hi10 => (simp only [List.getElem?_toArray, List.getElem?_cons_zero, List.getElem?_cons_succ]; try rfl)); (case hy10 => (first | (refine Or.inl ⟨by rfl, ?_⟩; intro wq hSw; (try dsimp only at hSw); go_split_ands; (try go_simp); (try with_reducible rfl); done) | exact Or.inr ⟨by rfl, rfl⟩)); simp only [Act.put, List.setIfInBounds_toArray, List.set_cons_zero, List.set_cons_succ]); (refine wpAnyN_take 10 (oi := ?oi11) (v := ?v11) ?hi11 (by kernel_rfl) (fun _ _ _ h => h) (by assumption) ?hy11 ?hk11; (case hi11 => (simp only [List.getElem?_toArray, List.getElem?_cons_zero, List.getElem?_cons_succ]; try rfl)); (case hy11 => (first | (refine Or.inl ⟨by rfl, ?_⟩; intro wq hSw; (try dsimp only at hSw); go_split_ands; (try go_simp); (try with_reducible rfl); done) | exact Or.inr ⟨by rfl, rfl⟩)); simp only [Act.put, List.setIfInBounds_toArray, List.set_cons_zero, List.set_cons_succ]); (refine wpAnyN_take 11 (oi := ?oi12) (v := ?v12) ?hi12 (by kernel_rfl) (fun _ _ _ h => h) (by assumption) ?hy12 ?hk12; (case hi12 => (simp only [List.getElem?_toArray, List.getElem?_cons_zero, List.getElem?_cons_succ]; try rfl)); (case hy12 => (first | (refine Or.inl ⟨by rfl, ?_⟩; intro wq hSw; (try dsimp only at hSw); go_split_ands; (try go_simp); (try with_reducible rfl); done) | exact Or.inr ⟨by rfl, rfl⟩)); simp only [Act.put, List.setIfInBounds_toArray, List.set_cons_zero, List.set_cons_succ]); (refine wpAnyN_take 12 (oi := ?oi13) (v := ?v13) ?hi13 (by kernel_rfl) (fun _ _ _ h => h) (by assumption) ?hy13 ?hk13; (case hi13 => (simp only [List.getElem?_toArray, List.getElem?_cons_zero, List.getElem?_cons_succ]; try rfl)); (case hy13 => (first | (refine Or.inl ⟨by rfl, ?_⟩; intro wq hSw; (try dsimp only at hSw); go_split_ands; (try go_simp); (try with_reducible rfl); done) | exact Or.inr ⟨by rfl, rfl⟩)); simp only [Act.put, List.setIfInBounds_toArray, List.set_cons_zero, List.set_cons_succ]); (refine wpAnyN_take 13 (oi := ?oi14) (v := ?v14) ?hi14 (by kernel_rfl) (fun _ _ _ h => h) (by assumption) ?hy14 ?hk14; (case hi14 => (simp only [List.getElem?_toArray, List.getElem?_cons_zero, List.getElem?_cons_succ]; try rfl)); (case hy14 => (first | (refine Or.inl ⟨by rfl, ?_⟩; intro wq hSw; (try dsimp only at hSw); go_split_ands; (try go_simp); (try with_reducible rfl); done) | exact Or.inr ⟨by rfl, rfl⟩)); simp only [Act.put, List.setIfInBounds_toArray, List.set_cons_zero, List.set_cons_succ])
          (refine wpAnyN_all [14] (by kernel_rfl) ?_; refine AllN.cons (by simp only [List.getElem?_toArray, List.getElem?_cons_zero, List.getElem?_cons_succ]; try rfl) (fun K hK => ?_) AllN.nil)
          go_simp
          refine (HCMP.out _).mono ?_
          rintro en w2 ⟨rfl, hu2⟩
          have hu2' : Upd NoB wr w2 := (Upd.drew NoB wr).trans hu2
          refine hK.out _ _ (fun _ => ⟨cell_stay hu2' g0 hbl, cell_stay hu2' g1 hbl⟩) ?_
          clear hK K hS0
          (try simp only [Act.put, List.setIfInBounds_toArray, List.set_cons_zero, List.set_cons_succ])
          have hS0 : w2.cell? ⟨b, o + j, none⟩ = some (.complex .f64 x.1 x.2) ∧ w2.cell? ⟨b, o + m, none⟩ = some (.complex .f64 y.1 y.2) := ⟨cell_stay hu2' g0 hbl, cell_stay hu2' g1 hbl⟩
          have HR2 := Lib.hid (HR.out.upd hu2' (fun _ _ h => h))
          have HU2 := Lib.hid (HU.out.trans (hu2'.mono (fun _ _ h => h.elim)))
          clear g0 g1 hu2 hu2' HR HU HCMP
          have hlt2 := ordI_lt (key x) (key y)
          generalize ordI (compare (key x) (key y)) = r at hlt2
          (refine wpAnyN_take 15 (oi := ?oi15) (v := ?v15) ?hi15 (by kernel_rfl) (fun _ _ _ h => h) (by assumption) ?hy15 ?hk15; (case hi15 => (simp only [List.getElem?_toArray, List.getElem?_cons_zero, List.getElem?_cons_succ]; try rfl)); (case hy15 => (first | (refine Or.inl ⟨by rfl, ?_⟩; intro wq hSw; (try dsimp only at hSw); go_split_ands; (try go_simp); (try with_reducible rfl); done) | exact Or.inr ⟨by rfl, rfl⟩)); simp only [Act.put, List.setIfInBounds_toArray, List.set_cons_zero, List.set_cons_succ])
          (refine wpAnyN_all [16] (by kernel_rfl) ?_; refine AllN.cons (by simp only [List.getElem?_toArray, List.getElem?_cons_zero, List.getElem?_cons_succ]; try rfl) (fun K hK => ?_) AllN.nil)
          go_simp
          refine hK.out _ _ (fun h => absurd h (by decide)) ?_
          clear hK K
          (try simp only [Act.put, List.setIfInBounds_toArray, List.set_cons_zero, List.set_cons_succ])
          refine wpAnyN_done (by kernel_rfl) ?_
          refine NoPanic.normal ?_
          obtain ⟨g0, g1⟩ := hS0
          by_cases hxy : key x < key y
          · have hxy' : decide (r < 0) = true := by rw [hlt2]; simpa using hxy
            clear hlt2
            go_wp2
            have HRD := Lib.hid (Row.upd HR2.out (Upd.drew NoB w2) (fun _ _ h => h))
            have HUD := Lib.hid (Upd.drew F w2)
            clear g0 g1
            have g0 := row_cell HRD.out HX.out
            have g1 := row_cell HRD.out HY.out
            refine wp_region_noPanic ?_
            refine wp_region_N [15, 17] (fun w1 => w1.cell? ⟨b, o + j, none⟩ = some (.complex .f64 x.1 x.2) ∧ w1.cell? ⟨b, o + m, none⟩ = some (.complex .f64 y.1 y.2)) (by kernel_rfl) ⟨g0, g1⟩ ?_
            intro hS0
            generalize w2.drew = wd at HRD HUD g0 g1 hS0 ⊢
            have f0 := row_frozen HRD.out (o + j)
            have f1 := row_frozen HRD.out (o + m)
            (refine wpAnyN_takeU 0 (oi := ?oi30) (v := ?v30) ?hi30 (by kernel_rfl) (fun _ _ _ h => h) ?hy30 ?hk30; (case hi30 => (simp only [List.getElem?_toArray, List.getElem?_cons_zero, List.getElem?_cons_succ]; try rfl)); (case hy30 => (first | (refine Or.inl ⟨by rfl, ?_⟩; intro wq _; (try go_simp); (try with_reducible rfl); done) | exact Or.inr ⟨by rfl, rfl⟩)); simp only [Act.put, List.setIfInBounds_toArray, List.set_cons_zero, List.set_cons_succ]); (refine wpAnyN_takeU 1 (oi := ?oi31) (v := ?v31) ?hi31 (by kernel_rfl) (fun _ _ _ h => h) ?hy31 ?hk31; (case hi31 => (simp only [List.getElem?_toArray, List.getElem?_cons_zero, List.getElem?_cons_succ]; try rfl)); (case hy31 => (first | (refine Or.inl ⟨by rfl, ?_⟩; intro wq _; (try go_simp); (try with_reducible rfl); done) | exact Or.inr ⟨by rfl, rfl⟩)); simp only [Act.put, List.setIfInBounds_toArray, List.set_cons_zero, List.set_cons_succ]); (refine wpAnyN_takeU 2 (oi := ?oi32) (v := ?v32) ?hi32 (by kernel_rfl) (fun _ _ _ h => h) ?hy32 ?hk32; (case hi32 => (simp only [List.getElem?_toArray, List.getElem?_cons_zero, List.getElem?_cons_succ]; try rfl)); (case hy32 => (first | (refine Or.inl ⟨by rfl, ?_⟩; intro wq _; (try go_simp); (try with_reducible rfl); done) | exact Or.inr ⟨by rfl, rfl⟩)); simp only [Act.put, List.setIfInBounds_toArray, List.set_cons_zero, List.set_cons_succ]); (refine wpAnyN_takeU 3 (oi := ?oi33) (v := ?v33) ?hi33 (by kernel_rfl) (fun _ _ _ h => h) ?hy33 ?hk33; (case hi33 => (simp only [List.getElem?_toArray, List.getElem?_cons_zero, List.getElem?_cons_succ]; try rfl)); (case hy33 => (first | (refine Or.inl ⟨by rfl, ?_⟩; intro wq _; (try go_simp); (try with_reducible rfl); done) | exact Or.inr ⟨by rfl, rfl⟩)); simp only [Act.put, List.setIfInBounds_toArray, List.set_cons_zero, List.set_cons_succ]); (refine wpAnyN_takeU 4 (oi := ?oi34) (v := ?v34) ?hi34 (by kernel_rfl) (fun _ _ _ h => h) ?hy34 ?hk34; (case hi34 => (simp only [List.getElem?_toArray, List.getElem?_cons_zero, List.getElem?_cons_succ]; try rfl)); (case hy34 => (first | (refine Or.inl ⟨by rfl, ?_⟩; intro wq _; (try go_simp); (try with_reducible rfl); done) | exact Or.inr ⟨by rfl, rfl⟩)); simp only [Act.put, List.setIfInBounds_toArray, List.set_cons_zero, List.set_cons_succ]); (refine wpAnyN_takeU 5 (oi := ?oi35) (v := ?v35) ?hi35 (by kernel_rfl) (fun _ _ _ h => h) ?hy35 ?hk35; (case hi35 => (simp only [List.getElem?_toArray, List.getElem?_cons_zero, List.getElem?_cons_succ]; try rfl)); (case hy35 => (first | (refine Or.inl ⟨by rfl, ?_⟩; intro wq _; (try go_simp); (try with_reducible rfl); done) | exact Or.inr ⟨by rfl, rfl⟩)); simp only [Act.put, List.setIfInBounds_toArray, List.set_cons_zero, List.set_cons_succ]); (refine wpAnyN_takeU 6 (oi := ?oi36) (v := ?v36) ?hi36 (by kernel_rfl) (fun _ _ _ h => h) ?hy36 ?hk36; (case hi36 => (simp only [List.getElem?_toArray, List.getElem?_cons_zero, List.getElem?_cons_succ]; try rfl)); (case hy36 => (first | (refine Or.inl ⟨by rfl, ?_⟩; intro wq _; (try go_simp); (try with_reducible rfl); done) | exact Or.inr ⟨by rfl, rfl⟩)); simp only [Act.put, List.setIfInBounds_toArray, List.set_cons_zero, List.set_cons_succ]); (refine wpAnyN_takeU 7 (oi := ?oi37) (v := ?v37) ?hi37 (by kernel_rfl) (fun _ _ _ h => h) ?hy37 ?hk37; (case hi37 => (simp only [List.getElem?_toArray, List.getElem?_cons_zero, List.getElem?_cons_succ]; try rfl)); (case hy37 => (first | (refine Or.inl ⟨by rfl, ?_⟩; intro wq _; (try go_simp); (try with_reducible rfl); done) | exact Or.inr ⟨by rfl, rfl⟩)); simp only [Act.put, List.setIfInBounds_toArray, List.set_cons_zero, List.set_cons_succ]); (refine wpAnyN_takeU 8 (oi := ?oi38) (v := ?v38) ?hi38 (by kernel_rfl) (fun _ _ _ h => h) ?hy38 ?hk38; (case hi38 => (simp only [List.getElem?_toArray, List.getElem?_cons_zero, List.getElem?_cons_succ]; try rfl)); (case hy38 => (first | (refine Or.inl ⟨by rfl, ?_⟩; intro wq _; (try go_simp); (try with_reducible rfl); done) | exact Or.inr ⟨by rfl, rfl⟩)); simp only [Act.put, List.setIfInBounds_toArray, List.set_cons_zero, List.set_cons_succ])
            (refine wpAnyN_take 9 (oi := ?oi16) (v := ?v16) ?hi16 (by kernel_rfl) (fun _ _ _ h => h) (by assumption) ?hy16 ?hk16; (case hi16 => (simp only [List.getElem?_toArray, List.getElem?_cons_zero, List.getElem?_cons_succ]; try rfl)); (case hy16 => (first | (refine Or.inl ⟨by rfl, ?_⟩; intro wq hSw; (try dsimp only at hSw); go_split_ands; (try go_simp); (try with_reducible rfl); done) | exact Or.inr ⟨by rfl, rfl⟩)); simp only [Act.put, List.setIfInBounds_toArray, List.set_cons_zero, List.set_cons_succ])
            (refine wpAnyN_takeU 10 (oi := ?oi39) (v := ?v39) ?hi39 (by kernel_rfl) (fun _ _ _ h => h) ?hy39 ?hk39; (case hi39 => (simp only [List.getElem?_toArray, List.getElem?_cons_zero, List.getElem?_cons_succ]; try rfl)); (case hy39 => (first | (refine Or.inl ⟨by rfl, ?_⟩; intro wq _; (try go_simp); (try with_reducible rfl); done) | exact Or.inr ⟨by rfl, rfl⟩)); simp only [Act.put, List.setIfInBounds_toArray, List.set_cons_zero, List.set_cons_succ]); (refine wpAnyN_takeU 11 (oi := ?oi40) (v := ?v40) ?hi40 (by kernel_rfl) (fun _ _ _ h => h) ?hy40 ?hk40; (case hi40 => (simp only [List.getElem?_toArray, List.getElem?_cons_zero, List.getElem?_cons_succ]; try rfl)); (case hy40 => (first | (refine Or.inl ⟨by rfl, ?_⟩; intro wq _; (try go_simp); (try with_reducible rfl); done) | exact Or.inr ⟨by rfl, rfl⟩)); simp only [Act.put, List.setIfInBounds_toArray, List.set_cons_zero, List.set_cons_succ]); (refine wpAnyN_takeU 12 (oi := ?oi41) (v := ?v41) ?hi41 (by kernel_rfl) (fun _ _ _ h => h) ?hy41 ?hk41; (case hi41 => (simp only [List.getElem?_toArray, List.getElem?_cons_zero, List.getElem?_cons_succ]; try rfl)); (case hy41 => (first | (refine Or.inl ⟨by rfl, ?_⟩; intro wq _; (try go_simp); (try with_reducible rfl); done) | exact Or.inr ⟨by rfl, rfl⟩)); simp only [Act.put, List.setIfInBounds_toArray, List.set_cons_zero, List.set_cons_succ])
            (refine wpAnyN_take 13 (oi := ?oi17) (v := ?v17) ?hi17 (by kernel_rfl) (fun _ _ _ h => h) (by assumption) ?hy17 ?hk17; (case hi17 => (simp only [List.getElem?_toArray, List.getElem?_cons_zero, List.getElem?_cons_succ]; try rfl)); (case hy17 => (first | (refine Or.inl ⟨by rfl, ?_⟩; intro wq hSw; (try dsimp only at hSw); go_split_ands; (try go_simp); (try with_reducible rfl); done) | exact Or.inr ⟨by rfl, rfl⟩)); simp only [Act.put, List.setIfInBounds_toArray, List.set_cons_zero, List.set_cons_succ])
            (refine wpAnyN_takeU 14 (oi := ?oi42) (v := ?v42) ?hi42 (by kernel_rfl) (fun _ _ _ h => h) ?hy42 ?hk42; (case hi42 => (simp only [List.getElem?_toArray, List.getElem?_cons_zero, List.getElem?_cons_succ]; try rfl)); (case hy42 => (first | (refine Or.inl ⟨by rfl, ?_⟩; intro wq _; (try go_simp); (try with_reducible rfl); done) | exact Or.inr ⟨by rfl, rfl⟩)); simp only [Act.put, List.setIfInBounds_toArray, List.set_cons_zero, List.set_cons_succ])
            (refine wpAnyN_all [15] (by kernel_rfl) ?_; refine AllN.cons (by simp only [List.getElem?_toArray, List.getElem?_cons_zero, List.getElem?_cons_succ]; try rfl) (fun K hK => ?_) AllN.nil)
            go_simp
            refine hK.out _ _ (fun h => absurd h (by decide)) ?_
            clear hK K hS0
            (try simp only [Act.put, List.setIfInBounds_toArray, List.set_cons_zero, List.set_cons_succ])
            (refine wpAnyN_takeU 16 (oi := ?oi43) (v := ?v43) ?hi43 (by kernel_rfl) (fun _ _ _ h => h) ?hy43 ?hk43; (case hi43 => (simp only [List.getElem?_toArray, List.getElem?_cons_zero, List.getElem?_cons_succ]; try rfl)); (case hy43 => (first | (refine Or.inl ⟨by rfl, ?_⟩; intro wq _; (try go_simp); (try with_reducible rfl); done) | exact Or.inr ⟨by rfl, rfl⟩)); simp only [Act.put, List.setIfInBounds_toArray, List.set_cons_zero, List.set_cons_succ])
            have hsw := row_swap HRD.out HX.out HY.out
            obtain ⟨u2, hu2⟩ : ∃ u, (wd.setCell ⟨b, o + j, none⟩ (.complex .f64 y.1 y.2)).cell? ⟨b, o + m, none⟩ = some u := row_still HRD.out HX.out HY.out
            have f2 : (wd.setCell ⟨b, o + j, none⟩ (.complex .f64 y.1 y.2)).frozen? ⟨b, o + m, none⟩ = false := row_frozen (row_put HRD.out HX.out) _
            (refine wpAnyN_all [17] (by kernel_rfl) ?_; refine AllN.cons (by simp only [List.getElem?_toArray, List.getElem?_cons_zero, List.getElem?_cons_succ]; try rfl) (fun K hK => ?_) AllN.nil)
            go_simp
            refine hK.out _ _ (fun h => absurd h (by decide)) ?_
            clear hK K
            (try simp only [Act.put, List.setIfInBounds_toArray, List.set_cons_zero, List.set_cons_succ])
            refine wpAnyN_done (by kernel_rfl) ?_
            refine NoPanic.normal ?_
            generalize (wd.setCell ⟨b, o + j, none⟩ (.complex .f64 y.1 y.2)).setCell ⟨b, o + m, none⟩ (.complex .f64 x.1 x.2) = ws at hsw ⊢
            have HSW := Lib.hid (show Row cE tC ws F (.slice (some ⟨b, o, none⟩) n c) _ ∧ Upd F w2 ws from ⟨hsw.1, HUD.out.trans hsw.2⟩)
            clear hsw g0 g1 f0 f1 f2 hu2 HRD HUD u2
            go_wp2
            have hsz := HSW.out
            refine ⟨⟨m, swp j m x y zs, rfl, by omega, by omega, hsz.1, HU2.out.trans hsz.2, HG.out.trans (Rng.swp HX.out HY.out (by omega) (by omega) (by omega) (by omega)), ?_⟩, by simp [intOf]; omega⟩
            have hB := HB.out
            have hM := HM.out
            have hX := HX.out
            have hY := HY.out
            intro p q u v h1 h2 h3 h4 _ hu hv
            rw [swp_get hX hY] at hu hv
            rw [if_neg h4] at hv
            by_cases hq : q = j
            · rw [if_pos hq] at hv
              cases hv
              by_cases hp : p = m
              · rw [if_pos hp] at hu; cases hu; omega
              · rw [if_neg hp, if_neg (by omega)] at hu
                exact hB p m u y h1 (by omega) (by omega) (by omega) (by omega) hu hY
            · rw [if_neg hq] at hv
              by_cases hp : p = m
              · rw [if_pos hp] at hu; cases hu
                exact hB j q x v (by omega) (by omega) h3 hq (by omega) hX hv
              · rw [if_neg hp] at hu
                by_cases hpj : p = j
                · rw [if_pos hpj] at hu; cases hu
                  exact hB m q y v (by omega) (by omega) h3 hq (by omega) hY hv
                · rw [if_neg hpj] at hu
                  exact hB p q u v h1 (by omega) h3 hq (by omega) hu hv
          · have hxy' : decide (r < 0) = false := by rw [hlt2]; simpa using hxy
            clear hlt2
            go_wp2
            refine ⟨⟨k + 1, zs, by go_num, by omega, .inl (by omega), HR2.out, HU2.out, HG.out, ?_⟩, by simp [intOf]; omega⟩
            have hB := HB.out
            have hM := HM.out
            intro p q u v h1 h2 h3 hu hv
            by_cases hq : q = j
            · subst hq
              have e1 : v = x := by have := HX.out; rw [hv] at this; cases this; rfl
              subst e1
              by_cases hp : p = m
              · subst hp
                have e2 : u = y := by have := HY.out; rw [hu] at this; cases this; rfl
                subst e2
                omega
              · have := hB p m u y h1 (by omega) (by omega) (by omega) (by omega) hu HY.out
                omega
            · exact hB p q u v h1 h2 (by omega) hq (by omega) hu hv
        · have hje : j = a := by omega
          subst hje
          have hd : decide ((j : Int) < (j : Int)) = false := by simp
          have hd' : decide (j < j) = false := by simp
          clear hl0 hlen
          have HR := Lib.hid hr
          have HU := Lib.hid hu
          have HG := Lib.hid hg
          have HB := Lib.hid hs
          clear hr hu hg hs
          go_wp2
          go_quiet (fail)
          go_wp2
          refine ⟨⟨k + 1, zs, by go_num, by omega, .inl (by omega), HR.out.upd (Upd.drewN NoB _ _) (fun _ _ h => h), HU.out.trans (Upd.drewN _ _ _), HG.out, ?_⟩, by simp [intOf]; omega⟩
          exact fun p q x y h1 h2 h3 hx hy => HB.out p q x y h1 h2 (by omega) (by omega) (by omega) hx hy
    · have hfin : SortPost F w (.slice (some ⟨b, o, none⟩) n c) xs a e (SrtR key a e) (.returned (.tuple #[])) wr := ⟨rfl, ys, hr, hu, hg, hs.sub (Nat.le_refl _) (by omega)⟩
      have HF := Lib.hid hfin
      clear hfin hr hu hg hs
      go_wp2
      go_end0
      exact HF.out
end Go.Proofs.Ytjjbnmlhbbnhcaa
/- swapRangeCmpFunc, rotateCmpFunc at quanta: their walks. Conditions: none. -/
set_option linter.unusedVariables false
set_option linter.unusedSimpArgs false
namespace Go.Proofs.Ytjjbnmlhbbnhcaa
open Go.RowKit
attribute [local go_sem] run_store_complex

/-- So many elements from a on, and from e on, change places. -/
def swv {α : Type} (a e n : Nat) (xs : List α) (k : Nat) : Option α := if a ≤ k ∧ k < a + n then xs[k + e - a]? else if e ≤ k ∧ k < e + n then xs[k + a - e]? else xs[k]?
/-- What lies from a to m and what lies from m to e change places. -/
def rotv {α : Type} (a m e : Nat) (xs : List α) (k : Nat) : Option α := if a ≤ k ∧ k < a + (e - m) then xs[k + (m - a)]? else if a + (e - m) ≤ k ∧ k < e then xs[k - (e - m)]? else xs[k]?

def SwPost (F : Nat → Prop) (w : World) (v : Value) (xs : List CQ) (g : Nat → Option CQ) (en : Ending) (w' : World) : Prop :=
  en = .returned (.tuple #[]) ∧ ∃ ys, Row cE tC w' F v ys ∧ Upd F w w' ∧ ys.Perm xs ∧ ∀ k, ys[k]? = g k

def SwRel (w : World) (F : Nat → Prop) (v : Value) (xs : List CQ) (a e n : Nat) (i : Value) (wr : World) : Prop :=
  ∃ (k : Nat) (ys : List CQ), i = .int .i64 k ∧ k ≤ n ∧ Row cE tC wr F v ys ∧ Upd F w wr ∧ ys.Perm xs ∧ ∀ p, ys[p]? = swv a e k xs p

set_option maxHeartbeats 4000000 in
set_option maxRecDepth 100000 in
theorem s_swap (w : World) (F : Nat → Prop) (b o c n a e s : Nat) (fv : Value) (xs : List CQ) (hrow : Row cE tC w F (.slice (some ⟨b, o, none⟩) n c) xs) (hae : a + s ≤ e) (hen : e + s ≤ n) (hn : n ≤ 1000000) :
    Calls Try.prog 61 #[.slice (some ⟨b, o, none⟩) n c, .int .i64 a, .int .i64 e, .int .i64 s, fv] w (SwPost F w (.slice (some ⟨b, o, none⟩) n c) xs (swv a e s xs)) := by
  have hln := hrow.lenEq
  have HR := Lib.hid hrow
  have HL := Lib.hid hln
  clear hrow hln
  go_enter Try.func61, Try.ntmps61
  go_wp2
  go_loopw [10] (SwRel w F (.slice (some ⟨b, o, none⟩) n c) xs a e s) (fun i _ => s - (intOf i).toNat)
  case atStart => exact ⟨0, xs, rfl, Nat.zero_le _, HR.out, Upd.refl _ _, List.Perm.refl _, fun p => by unfold swv; rw [if_neg (by omega), if_neg (by omega)]⟩
  case round =>
    clear HR
    obtain ⟨k, ys, rfl, hk, hr, hu, hp, hg⟩ := hrel
    by_cases hlt : k < s
    · have hl0 := HL.out
      have hpl := hp.length_eq
      obtain ⟨y, hy⟩ : ∃ y, ys[a + k]? = some y := ⟨ys[a + k]'(by omega), by simp⟩
      obtain ⟨x, hx⟩ : ∃ x, ys[e + k]? = some x := ⟨ys[e + k]'(by omega), by simp⟩
      have g0 := row_cell hr hx
      have g1 := row_cell hr hy
      obtain ⟨i1, hi1⟩ : ∃ i, i = a + k := ⟨_, rfl⟩
      obtain ⟨i2, hi2⟩ : ∃ i, i = e + k := ⟨_, rfl⟩
      rw [← hi1] at hy g1
      rw [← hi2] at hx g0
      have q1 : (a : Int) + (k : Int) = (i1 : Int) := by omega
      have q2 : (e : Int) + (k : Int) = (i2 : Int) := by omega
      have q1w : IntKind.i64.wrap (i1 : Int) = (i1 : Int) := IntWalk.i64_in _ (by omega)
      have q2w : IntKind.i64.wrap (i2 : Int) = (i2 : Int) := IntWalk.i64_in _ (by omega)
      have q3 : i1 < n := by omega
      have q4 : i2 < n := by omega
      have HX := Lib.hid hx
      have HY := Lib.hid hy
      have HR := Lib.hid hr
      have HU := Lib.hid hu
      have HP := Lib.hid hp
      have HG := Lib.hid hg
      have HI1 := Lib.hid hi1
      have HI2 := Lib.hid hi2
      clear hr hu hp hg hx hy hl0 hpl hi1 hi2
      go_wp2
      have HRD := Lib.hid (Row.upd HR.out (Upd.drew NoB wr) (fun _ _ h => h))
      have HUD := Lib.hid (Upd.drew F wr)
      clear g0 g1
      have g0 := row_cell HRD.out HX.out
      have g1 := row_cell HRD.out HY.out
      refine wp_region_noPanic ?_
      refine wp_region_N [21, 23] (fun w1 => w1.cell? ⟨b, o + i2, none⟩ = some (.complex .f64 x.1 x.2) ∧ w1.cell? ⟨b, o + i1, none⟩ = some (.complex .f64 y.1 y.2)) (by kernel_rfl) ⟨g0, g1⟩ ?_
      intro hS0
      generalize wr.drew = wd at HRD HUD g0 g1 hS0 ⊢
      have f0 := row_frozen HRD.out (o + i1)
      have f1 := row_frozen HRD.out (o + i2)
      (refine wpAnyN_takeU 0 (oi := ?oi44) (v := ?v44) ?hi44 (by kernel_rfl) (fun _ _ _ h => h) ?hy44 ?hk44; (case hi44 => (simp only [List.getElem?_toArray, List.getElem?_cons_zero, List.getElem?_cons_succ]; try rfl)); (case hy44 => (first | (refine Or.inl ⟨by rfl, ?_⟩; intro wq _; (try go_simp); (try with_reducible rfl); done) | exact Or.inr ⟨by rfl, rfl⟩)); simp only [Act.put, List.setIfInBounds_toArray, List.set_cons_zero, List.set_cons_succ]); (refine wpAnyN_takeU 1 (oi := ?oi45) (v := ?v45) ?hi45 (by kernel_rfl) (fun _ _ _ h => h) ?hy45 ?hk45; (case hi45 => (simp only [List.getElem?_toArray, List.getElem?_cons_zero, List.getElem?_cons_succ]; try rfl)); (case hy45 => (first | (refine Or.inl ⟨by rfl, ?_⟩; intro wq _; (try go_simp); (try with_reducible rfl); done) | exact Or.inr ⟨by rfl, rfl⟩)); simp only [Act.put, List.setIfInBounds_toArray, List.set_cons_zero, List.set_cons_succ]); (refine wpAnyN_takeU 2 (oi := ?oi46) (v := ?v46) ?hi46 (by kernel_rfl) (fun _ _ _ h => h) ?hy46 ?hk46; (case hi46 => (simp only [List.getElem?_toArray, List.getElem?_cons_zero, List.getElem?_cons_succ]; try rfl)); (case hy46 => (first | (refine Or.inl ⟨by rfl, ?_⟩; intro wq _; (try go_simp); (try with_reducible rfl); done) | exact Or.inr ⟨by rfl, rfl⟩)); simp only [Act.put, List.setIfInBounds_toArray, List.set_cons_zero, List.set_cons_succ]); (refine wpAnyN_takeU 3 (oi := ?oi47) (v := ?v47) ?hi47 (by kernel_rfl) (fun _ _ _ h => h) ?hy47 ?hk47; (case hi47 => (simp only [List.getElem?_toArray, List.getElem?_cons_zero, List.getElem?_cons_succ]; try rfl)); (case hy47 => (first | (refine Or.inl ⟨by rfl, ?_⟩; intro wq _; (try go_simp); (try with_reducible rfl); done) | exact Or.inr ⟨by rfl, rfl⟩)); simp only [Act.put, List.setIfInBounds_toArray, List.set_cons_zero, List.set_cons_succ]); (refine wpAnyN_takeU 4 (oi := ?oi48) (v := ?v48) ?hi48 (by kernel_rfl) (fun _ _ _ h => h) ?hy48 ?hk48; (case hi48 => (simp only [List.getElem?_toArray, List.getElem?_cons_zero, List.getElem?_cons_succ]; try rfl)); (case hy48 => (first | (refine Or.inl ⟨by rfl, ?_⟩; intro wq _; (try go_simp); (try with_reducible rfl); done) | exact Or.inr ⟨by rfl, rfl⟩)); simp only [Act.put, List.setIfInBounds_toArray, List.set_cons_zero, List.set_cons_succ]); (refine wpAnyN_takeU 5 (oi := ?oi49) (v := ?v49) ?hi49 (by kernel_rfl) (fun _ _ _ h => h) ?hy49 ?hk49; (case hi49 => (simp only [List.getElem?_toArray, List.getElem?_cons_zero, List.getElem?_cons_succ]; try rfl)); (case hy49 => (first | (refine Or.inl ⟨by rfl, ?_⟩; intro wq _; (try go_simp); (try with_reducible rfl); done) | exact Or.inr ⟨by rfl, rfl⟩)); simp only [Act.put, List.setIfInBounds_toArray, List.set_cons_zero, List.set_cons_succ]); (refine wpAnyN_takeU 6 (oi := ?oi50) (v := ?v50) ?hi50 (by kernel_rfl) (fun _ _ _ h => h) ?hy50 ?hk50; (case hi50 => (simp only [List.getElem?_toArray, List.getElem?_cons_zero, List.getElem?_cons_succ]; try rfl)); (case hy50 => (first | (refine Or.inl ⟨by rfl, ?_⟩; intro wq _; (try go_simp); (try with_reducible rfl); done) | exact Or.inr ⟨by rfl, rfl⟩)); simp only [Act.put, List.setIfInBounds_toArray, List.set_cons_zero, List.set_cons_succ]); (refine wpAnyN_takeU 7 (oi := ?oi51) (v := ?v51) ?hi51 (by kernel_rfl) (fun _ _ _ h => h) ?hy51 ?hk51; (case hi51 => (simp only [List.getElem?_toArray, List.getElem?_cons_zero, List.getElem?_cons_succ]; try rfl)); (case hy51 => (first | (refine Or.inl ⟨by rfl, ?_⟩; intro wq _; (try go_simp); (try with_reducible rfl); done) | exact Or.inr ⟨by rfl, rfl⟩)); simp only [Act.put, List.setIfInBounds_toArray, List.set_cons_zero, List.set_cons_succ]); (refine wpAnyN_takeU 8 (oi := ?oi52) (v := ?v52) ?hi52 (by kernel_rfl) (fun _ _ _ h => h) ?hy52 ?hk52; (case hi52 => (simp only [List.getElem?_toArray, List.getElem?_cons_zero, List.getElem?_cons_succ]; try rfl)); (case hy52 => (first | (refine Or.inl ⟨by rfl, ?_⟩; intro wq _; (try go_simp); (try with_reducible rfl); done) | exact Or.inr ⟨by rfl, rfl⟩)); simp only [Act.put, List.setIfInBounds_toArray, List.set_cons_zero, List.set_cons_succ]); (refine wpAnyN_takeU 9 (oi := ?oi53) (v := ?v53) ?hi53 (by kernel_rfl) (fun _ _ _ h => h) ?hy53 ?hk53; (case hi53 => (simp only [List.getElem?_toArray, List.getElem?_cons_zero, List.getElem?_cons_succ]; try rfl)); (case hy53 => (first | (refine Or.inl ⟨by rfl, ?_⟩; intro wq _; (try go_simp); (try with_reducible rfl); done) | exact Or.inr ⟨by rfl, rfl⟩)); simp only [Act.put, List.setIfInBounds_toArray, List.set_cons_zero, List.set_cons_succ]); (refine wpAnyN_takeU 10 (oi := ?oi54) (v := ?v54) ?hi54 (by kernel_rfl) (fun _ _ _ h => h) ?hy54 ?hk54; (case hi54 => (simp only [List.getElem?_toArray, List.getElem?_cons_zero, List.getElem?_cons_succ]; try rfl)); (case hy54 => (first | (refine Or.inl ⟨by rfl, ?_⟩; intro wq _; (try go_simp); (try with_reducible rfl); done) | exact Or.inr ⟨by rfl, rfl⟩)); simp only [Act.put, List.setIfInBounds_toArray, List.set_cons_zero, List.set_cons_succ]); (refine wpAnyN_takeU 11 (oi := ?oi55) (v := ?v55) ?hi55 (by kernel_rfl) (fun _ _ _ h => h) ?hy55 ?hk55; (case hi55 => (simp only [List.getElem?_toArray, List.getElem?_cons_zero, List.getElem?_cons_succ]; try rfl)); (case hy55 => (first | (refine Or.inl ⟨by rfl, ?_⟩; intro wq _; (try go_simp); (try with_reducible rfl); done) | exact Or.inr ⟨by rfl, rfl⟩)); simp only [Act.put, List.setIfInBounds_toArray, List.set_cons_zero, List.set_cons_succ]); (refine wpAnyN_takeU 12 (oi := ?oi56) (v := ?v56) ?hi56 (by kernel_rfl) (fun _ _ _ h => h) ?hy56 ?hk56; (case hi56 => (simp only [List.getElem?_toArray, List.getElem?_cons_zero, List.getElem?_cons_succ]; try rfl)); (case hy56 => (first | (refine Or.inl ⟨by rfl, ?_⟩; intro wq _; (try go_simp); (try with_reducible rfl); done) | exact Or.inr ⟨by rfl, rfl⟩)); simp only [Act.put, List.setIfInBounds_toArray, List.set_cons_zero, List.set_cons_succ])
      (refine wpAnyN_take 13 (oi := ?oi18) (v := ?v18) ?hi18 (by kernel_rfl) (fun _ _ _ h => h) (by assumption) ?hy18 ?hk18; (case hi18 => (simp only [List.getElem?_toArray, List.getElem?_cons_zero, List.getElem?_cons_succ]; try rfl)); (case hy18 => (first | (refine Or.inl ⟨by rfl, ?_⟩; intro wq hSw; (try dsimp only at hSw); go_split_ands; (try go_simp); (try with_reducible rfl); done) | exact Or.inr ⟨by rfl, rfl⟩)); simp only [Act.put, List.setIfInBounds_toArray, List.set_cons_zero, List.set_cons_succ])
      (refine wpAnyN_takeU 14 (oi := ?oi57) (v := ?v57) ?hi57 (by kernel_rfl) (fun _ _ _ h => h) ?hy57 ?hk57; (case hi57 => (simp only [List.getElem?_toArray, List.getElem?_cons_zero, List.getElem?_cons_succ]; try rfl)); (case hy57 => (first | (refine Or.inl ⟨by rfl, ?_⟩; intro wq _; (try go_simp); (try with_reducible rfl); done) | exact Or.inr ⟨by rfl, rfl⟩)); simp only [Act.put, List.setIfInBounds_toArray, List.set_cons_zero, List.set_cons_succ]); (refine wpAnyN_takeU 15 (oi := ?oi58) (v := ?v58) ?hi58 (by kernel_rfl) (fun _ _ _ h => h) ?hy58 ?hk58; (case hi58 => (simp only [List.getElem?_toArray, List.getElem?_cons_zero, List.getElem?_cons_succ]; try rfl)); (case hy58 => (first | (refine Or.inl ⟨by rfl, ?_⟩; intro wq _; (try go_simp); (try with_reducible rfl); done) | exact Or.inr ⟨by rfl, rfl⟩)); simp only [Act.put, List.setIfInBounds_toArray, List.set_cons_zero, List.set_cons_succ]); (refine wpAnyN_takeU 16 (oi := ?oi59) (v := ?v59) ?hi59 (by kernel_rfl) (fun _ _ _ h => h) ?hy59 ?hk59; (case hi59 => (simp only [List.getElem?_toArray, List.getElem?_cons_zero, List.getElem?_cons_succ]; try rfl)); (case hy59 => (first | (refine Or.inl ⟨by rfl, ?_⟩; intro wq _; (try go_simp); (try with_reducible rfl); done) | exact Or.inr ⟨by rfl, rfl⟩)); simp only [Act.put, List.setIfInBounds_toArray, List.set_cons_zero, List.set_cons_succ]); (refine wpAnyN_takeU 17 (oi := ?oi60) (v := ?v60) ?hi60 (by kernel_rfl) (fun _ _ _ h => h) ?hy60 ?hk60; (case hi60 => (simp only [List.getElem?_toArray, List.getElem?_cons_zero, List.getElem?_cons_succ]; try rfl)); (case hy60 => (first | (refine Or.inl ⟨by rfl, ?_⟩; intro wq _; (try go_simp); (try with_reducible rfl); done) | exact Or.inr ⟨by rfl, rfl⟩)); simp only [Act.put, List.setIfInBounds_toArray, List.set_cons_zero, List.set_cons_succ]); (refine wpAnyN_takeU 18 (oi := ?oi61) (v := ?v61) ?hi61 (by kernel_rfl) (fun _ _ _ h => h) ?hy61 ?hk61; (case hi61 => (simp only [List.getElem?_toArray, List.getElem?_cons_zero, List.getElem?_cons_succ]; try rfl)); (case hy61 => (first | (refine Or.inl ⟨by rfl, ?_⟩; intro wq _; (try go_simp); (try with_reducible rfl); done) | exact Or.inr ⟨by rfl, rfl⟩)); simp only [Act.put, List.setIfInBounds_toArray, List.set_cons_zero, List.set_cons_succ])
      (refine wpAnyN_take 19 (oi := ?oi19) (v := ?v19) ?hi19 (by kernel_rfl) (fun _ _ _ h => h) (by assumption) ?hy19 ?hk19; (case hi19 => (simp only [List.getElem?_toArray, List.getElem?_cons_zero, List.getElem?_cons_succ]; try rfl)); (case hy19 => (first | (refine Or.inl ⟨by rfl, ?_⟩; intro wq hSw; (try dsimp only at hSw); go_split_ands; (try go_simp); (try with_reducible rfl); done) | exact Or.inr ⟨by rfl, rfl⟩)); simp only [Act.put, List.setIfInBounds_toArray, List.set_cons_zero, List.set_cons_succ])
      (refine wpAnyN_takeU 20 (oi := ?oi62) (v := ?v62) ?hi62 (by kernel_rfl) (fun _ _ _ h => h) ?hy62 ?hk62; (case hi62 => (simp only [List.getElem?_toArray, List.getElem?_cons_zero, List.getElem?_cons_succ]; try rfl)); (case hy62 => (first | (refine Or.inl ⟨by rfl, ?_⟩; intro wq _; (try go_simp); (try with_reducible rfl); done) | exact Or.inr ⟨by rfl, rfl⟩)); simp only [Act.put, List.setIfInBounds_toArray, List.set_cons_zero, List.set_cons_succ])
      (refine wpAnyN_all [21] (by kernel_rfl) ?_; refine AllN.cons (by simp only [List.getElem?_toArray, List.getElem?_cons_zero, List.getElem?_cons_succ]; try rfl) (fun K hK => ?_) AllN.nil)
      go_simp
      refine hK.out _ _ (fun h => absurd h (by decide)) ?_
      clear hK K hS0
      (try simp only [Act.put, List.setIfInBounds_toArray, List.set_cons_zero, List.set_cons_succ])
      (refine wpAnyN_takeU 22 (oi := ?oi63) (v := ?v63) ?hi63 (by kernel_rfl) (fun _ _ _ h => h) ?hy63 ?hk63; (case hi63 => (simp only [List.getElem?_toArray, List.getElem?_cons_zero, List.getElem?_cons_succ]; try rfl)); (case hy63 => (first | (refine Or.inl ⟨by rfl, ?_⟩; intro wq _; (try go_simp); (try with_reducible rfl); done) | exact Or.inr ⟨by rfl, rfl⟩)); simp only [Act.put, List.setIfInBounds_toArray, List.set_cons_zero, List.set_cons_succ])
      have hsw := row_swap HRD.out HY.out HX.out
      obtain ⟨u2, hu2⟩ : ∃ u, (wd.setCell ⟨b, o + i1, none⟩ (.complex .f64 x.1 x.2)).cell? ⟨b, o + i2, none⟩ = some u := row_still HRD.out HY.out HX.out
      have f2 : (wd.setCell ⟨b, o + i1, none⟩ (.complex .f64 x.1 x.2)).frozen? ⟨b, o + i2, none⟩ = false := row_frozen (row_put HRD.out HY.out) _
      (refine wpAnyN_all [23] (by kernel_rfl) ?_; refine AllN.cons (by simp only [List.getElem?_toArray, List.getElem?_cons_zero, List.getElem?_cons_succ]; try rfl) (fun K hK => ?_) AllN.nil)
      go_simp
      refine hK.out _ _ (fun h => absurd h (by decide)) ?_
      clear hK K
      (try simp only [Act.put, List.setIfInBounds_toArray, List.set_cons_zero, List.set_cons_succ])
      refine wpAnyN_done (by kernel_rfl) ?_
      refine NoPanic.normal ?_
      generalize (wd.setCell ⟨b, o + i1, none⟩ (.complex .f64 x.1 x.2)).setCell ⟨b, o + i2, none⟩ (.complex .f64 y.1 y.2) = ws at hsw ⊢
      have HSW := Lib.hid (show Row cE tC ws F (.slice (some ⟨b, o, none⟩) n c) _ ∧ Upd F wr ws from ⟨hsw.1, HUD.out.trans hsw.2⟩)
      clear hsw g0 g1 f0 f1 f2 hu2 HRD HUD u2
      go_wp2
      have hsz := HSW.out
      have hI1 := HI1.out
      have hI2 := HI2.out
      have hX := HX.out
      have hY := HY.out
      refine ⟨⟨k + 1, swp i1 i2 y x ys, by go_num, hlt, hsz.1, HU.out.trans hsz.2, (swp_perm hY hX).trans HP.out, fun p => ?_⟩, by simp [intOf]; omega⟩
      rw [swp_get hY hX]
      have hgX := HG.out i2
      have hgY := HG.out i1
      rw [hX] at hgX
      rw [hY] at hgY
      unfold swv at hgX hgY ⊢
      rw [if_neg (by omega), if_neg (by omega)] at hgX
      rw [if_neg (by omega), if_neg (by omega)] at hgY
      by_cases e1 : p = i2
      · rw [if_pos e1, if_neg (by omega), if_pos (by omega), hgY]
        congr 1; omega
      · rw [if_neg e1]
        by_cases e2 : p = i1
        · rw [if_pos e2, if_pos (by omega), hgX]
          congr 1; omega
        · rw [if_neg e2, HG.out p]
          unfold swv
          by_cases c1 : a ≤ p ∧ p < a + k
          · rw [if_pos c1, if_pos (by omega)]
          · by_cases c2 : e ≤ p ∧ p < e + k
            · rw [if_neg c1, if_pos c2, if_neg (show ¬ (a ≤ p ∧ p < a + (k + 1)) by omega), if_pos (show e ≤ p ∧ p < e + (k + 1) by omega)]
            · rw [if_neg c1, if_neg c2, if_neg (show ¬ (a ≤ p ∧ p < a + (k + 1)) by omega), if_neg (show ¬ (e ≤ p ∧ p < e + (k + 1)) by omega)]
    · have hke : k = s := by omega
      subst hke
      have hfin : SwPost F w (.slice (some ⟨b, o, none⟩) n c) xs (swv a e k xs) (.returned (.tuple #[])) wr := ⟨rfl, ys, hr, hu, hp, hg⟩
      have HF := Lib.hid hfin
      clear hfin hr hu hp hg
      go_wp2
      go_end0
      exact HF.out

theorem rotv_left {α : Type} {i j m : Nat} {ys zs : List α} (hij : j < i) (him : i ≤ m) (h : ∀ k, zs[k]? = swv (m - i) m j ys k) (k : Nat) : rotv (m - (i - j)) m (m + j) zs k = rotv (m - i) m (m + j) ys k := by
  unfold rotv
  simp only [h]
  unfold swv
  by_cases c1 : m - i ≤ k ∧ k < m - i + j
  · rw [if_neg (show ¬ (m - (i - j) ≤ k ∧ k < m - (i - j) + (m + j - m)) by omega), if_neg (show ¬ (m - (i - j) + (m + j - m) ≤ k ∧ k < m + j) by omega), if_pos c1, if_pos (show m - i ≤ k ∧ k < m - i + (m + j - m) by omega)]
    congr 1; omega
  · by_cases c2 : m - (i - j) ≤ k ∧ k < m - (i - j) + (m + j - m)
    · rw [if_pos c2]
      by_cases c3 : m - i + (m + j - m) ≤ k ∧ k < m + j
      · rw [if_neg (show ¬ (m - i ≤ k ∧ k < m - i + (m + j - m)) by omega), if_pos c3, if_neg (show ¬ (m - i ≤ k + (m - (m - (i - j))) ∧ k + (m - (m - (i - j))) < m - i + j) by omega), if_pos (show m ≤ k + (m - (m - (i - j))) ∧ k + (m - (m - (i - j))) < m + j by omega)]
        congr 1; omega
      · exfalso; omega
    · by_cases c3 : m - (i - j) + (m + j - m) ≤ k ∧ k < m + j
      · rw [if_neg c2, if_pos c3, if_neg (show ¬ (m - i ≤ k ∧ k < m - i + (m + j - m)) by omega), if_pos (show m - i + (m + j - m) ≤ k ∧ k < m + j by omega), if_neg (show ¬ (m - i ≤ k - (m + j - m) ∧ k - (m + j - m) < m - i + j) by omega), if_neg (show ¬ (m ≤ k - (m + j - m) ∧ k - (m + j - m) < m + j) by omega)]
      · rw [if_neg c2, if_neg c3, if_neg c1, if_neg (show ¬ (m ≤ k ∧ k < m + j) by omega), if_neg (show ¬ (m - i ≤ k ∧ k < m - i + (m + j - m)) by omega), if_neg (show ¬ (m - i + (m + j - m) ≤ k ∧ k < m + j) by omega)]
theorem rotv_right {α : Type} {i j m : Nat} {ys zs : List α} (hij : i < j) (him : i ≤ m) (h : ∀ k, zs[k]? = swv (m - i) (m + j - i) i ys k) (k : Nat) : rotv (m - i) m (m + (j - i)) zs k = rotv (m - i) m (m + j) ys k := by
  unfold rotv
  simp only [h]
  unfold swv
  by_cases c1 : m - i ≤ k ∧ k < m - i + (m + (j - i) - m)
  · rw [if_pos c1, if_pos (show m - i ≤ k ∧ k < m - i + (m + j - m) by omega)]
    by_cases c2 : m - i ≤ k + (m - (m - i)) ∧ k + (m - (m - i)) < m - i + i
    · exfalso; omega
    · rw [if_neg c2, if_neg (show ¬ (m + j - i ≤ k + (m - (m - i)) ∧ k + (m - (m - i)) < m + j - i + i) by omega)]
  · by_cases c2 : m - i + (m + (j - i) - m) ≤ k ∧ k < m + (j - i)
    · rw [if_neg c1, if_pos c2, if_pos (show m - i ≤ k - (m + (j - i) - m) ∧ k - (m + (j - i) - m) < m - i + i by omega), if_pos (show m - i ≤ k ∧ k < m - i + (m + j - m) by omega)]
      congr 1; omega
    · by_cases c3 : m + j - i ≤ k ∧ k < m + j
      · rw [if_neg c1, if_neg c2, if_neg (show ¬ (m - i ≤ k ∧ k < m - i + i) by omega), if_pos (show m + j - i ≤ k ∧ k < m + j - i + i by omega), if_neg (show ¬ (m - i ≤ k ∧ k < m - i + (m + j - m)) by omega), if_pos (show m - i + (m + j - m) ≤ k ∧ k < m + j by omega)]
        congr 1; omega
      · rw [if_neg c1, if_neg c2, if_neg (show ¬ (m - i ≤ k ∧ k < m - i + i) by omega), if_neg (show ¬ (m + j - i ≤ k ∧ k < m + j - i + i) by omega), if_neg (show ¬ (m - i ≤ k ∧ k < m - i + (m + j - m)) by omega), if_neg (show ¬ (m - i + (m + j - m) ≤ k ∧ k < m + j) by omega)]
theorem rotv_same {α : Type} {i m : Nat} {ys zs : List α} (him : i ≤ m) (h : ∀ k, zs[k]? = swv (m - i) m i ys k) (k : Nat) : zs[k]? = rotv (m - i) m (m + i) ys k := by
  unfold rotv
  rw [h]
  unfold swv
  by_cases c1 : m - i ≤ k ∧ k < m - i + i
  · rw [if_pos c1, if_pos (show m - i ≤ k ∧ k < m - i + (m + i - m) by omega)]
    congr 1; omega
  · by_cases c2 : m ≤ k ∧ k < m + i
    · rw [if_neg c1, if_pos c2, if_neg (show ¬ (m - i ≤ k ∧ k < m - i + (m + i - m)) by omega), if_pos (show m - i + (m + i - m) ≤ k ∧ k < m + i by omega)]
      congr 1; omega
    · rw [if_neg c1, if_neg c2, if_neg (show ¬ (m - i ≤ k ∧ k < m - i + (m + i - m)) by omega), if_neg (show ¬ (m - i + (m + i - m) ≤ k ∧ k < m + i) by omega)]

def RotRel (w : World) (F : Nat → Prop) (v : Value) (xs : List CQ) (a m e : Nat) (vi vj : Value) (wr : World) : Prop :=
  ∃ (i j : Nat) (ys : List CQ), vi = .int .i64 i ∧ vj = .int .i64 j ∧ 0 < i ∧ 0 < j ∧ i ≤ m - a ∧ j ≤ e - m ∧ Row cE tC wr F v ys ∧ Upd F w wr ∧ ys.Perm xs ∧ ∀ p, rotv (m - i) m (m + j) ys p = rotv a m e xs p

set_option maxHeartbeats 4000000 in
set_option maxRecDepth 100000 in
theorem s_rot (w : World) (F : Nat → Prop) (b o c n a m e : Nat) (fv : Value) (xs : List CQ) (hrow : Row cE tC w F (.slice (some ⟨b, o, none⟩) n c) xs) (ham : a < m) (hme : m < e) (hen : e ≤ n) (hn : n ≤ 1000000) :
    Calls Try.prog 60 #[.slice (some ⟨b, o, none⟩) n c, .int .i64 a, .int .i64 m, .int .i64 e, fv] w (SwPost F w (.slice (some ⟨b, o, none⟩) n c) xs (rotv a m e xs)) := by
  have HR := Lib.hid hrow
  clear hrow
  obtain ⟨i0, hi0⟩ : ∃ i, i = m - a := ⟨_, rfl⟩
  obtain ⟨j0, hj0⟩ : ∃ j, j = e - m := ⟨_, rfl⟩
  have q1 : (m : Int) - (a : Int) = (i0 : Int) := by omega
  have q2 : (e : Int) - (m : Int) = (j0 : Int) := by omega
  have HI0 := Lib.hid hi0
  have HJ0 := Lib.hid hj0
  clear hi0 hj0
  go_enter Try.func60, Try.ntmps60
  go_wp2
  go_loopw [10, 11] (RotRel w F (.slice (some ⟨b, o, none⟩) n c) xs a m e) (fun i j _ => (intOf i).toNat + (intOf j).toNat)
  case atStart =>
    have h1 := HI0.out
    have h2 := HJ0.out
    exact ⟨i0, j0, xs, rfl, rfl, by omega, by omega, by omega, by omega, HR.out, Upd.refl _ _, List.Perm.refl _, fun p => by rw [show m - i0 = a by omega, show m + j0 = e by omega]⟩
  case round =>
    clear HR
    obtain ⟨i, j, ys, rfl, rfl, hi, hj, hia, hje, hr, hu, hp, hg⟩ := hrel
    have q3 : (m : Int) - (i : Int) = ((m - i : Nat) : Int) := by omega
    have q3w : IntKind.i64.wrap ((m - i : Nat) : Int) = ((m - i : Nat) : Int) := IntWalk.i64_in _ (by omega)
    by_cases hij : i = j
    · subst hij
      have hsw := s_swap wr F b o c n (m - i) m i fv ys hr (by omega) (by omega) hn
      have HSW := Lib.hid hsw
      have HU := Lib.hid hu
      have HP := Lib.hid hp
      have HG := Lib.hid hg
      clear hr hu hp hg hsw
      have hd : ((i : Int) != (i : Int)) = false := by simp
      go_wp2_with fail
      refine HSW.out.mono ?_
      rintro en w2 ⟨rfl, zs, hz1, hz2, hz3, hz4⟩
      have hfin : SwPost F w (.slice (some ⟨b, o, none⟩) n c) xs (rotv a m e xs) (.returned (.tuple #[])) w2 := ⟨rfl, zs, hz1, HU.out.trans hz2, hz3.trans HP.out, fun k => by rw [rotv_same (by omega) hz4 k]; exact HG.out k⟩
      have HF := Lib.hid hfin
      clear hfin hz1 hz2 hz3 hz4
      go_wp2
      go_end0
      exact HF.out
    · have hd : ((i : Int) != (j : Int)) = true := by simp; omega
      by_cases hlt : j < i
      · have hsw := s_swap wr F b o c n (m - i) m j fv ys hr (by omega) (by omega) hn
        have HSW := Lib.hid hsw
        have HU := Lib.hid hu
        have HP := Lib.hid hp
        have HG := Lib.hid hg
        clear hr hu hp hg hsw
        have q4 : (i : Int) - (j : Int) = ((i - j : Nat) : Int) := by omega
        go_wp2_with fail
        refine HSW.out.mono ?_
        rintro en w2 ⟨rfl, zs, hz1, hz2, hz3, hz4⟩
        have hfin : RotRel w F (.slice (some ⟨b, o, none⟩) n c) xs a m e (.int .i64 ((i - j : Nat) : Int)) (.int .i64 j) w2 := ⟨i - j, j, zs, rfl, rfl, by omega, hj, by omega, hje, hz1, HU.out.trans hz2, hz3.trans HP.out, fun k => by rw [rotv_left hlt (by omega) hz4 k]; exact HG.out k⟩
        have HF := Lib.hid hfin
        clear hfin hz1 hz2 hz3 hz4
        go_wp2
        exact ⟨HF.out, by simp [intOf]; omega⟩
      · have hsw := s_swap wr F b o c n (m - i) (m + j - i) i fv ys hr (by omega) (by omega) hn
        have HSW := Lib.hid hsw
        have HU := Lib.hid hu
        have HP := Lib.hid hp
        have HG := Lib.hid hg
        clear hr hu hp hg hsw
        have q4 : (j : Int) - (i : Int) = ((j - i : Nat) : Int) := by omega
        have q5 : (m : Int) + (j : Int) - (i : Int) = ((m + j - i : Nat) : Int) := by omega
        go_wp2_with fail
        refine HSW.out.mono ?_
        rintro en w2 ⟨rfl, zs, hz1, hz2, hz3, hz4⟩
        have hfin : RotRel w F (.slice (some ⟨b, o, none⟩) n c) xs a m e (.int .i64 i) (.int .i64 ((j - i : Nat) : Int)) w2 := ⟨i, j - i, zs, rfl, rfl, hi, by omega, hia, by omega, hz1, HU.out.trans hz2, hz3.trans HP.out, fun k => by rw [rotv_right (by omega) (by omega) hz4 k]; exact HG.out k⟩
        have HF := Lib.hid hfin
        clear hfin hz1 hz2 hz3 hz4
        go_wp2
        exact ⟨HF.out, by simp [intOf]; omega⟩
end Go.Proofs.Ytjjbnmlhbbnhcaa
/- What merging by a rotation leaves: the plain law. Conditions: none. -/
set_option linter.unusedVariables false
set_option linter.unusedSimpArgs false
namespace Go.Proofs.Ytjjbnmlhbbnhcaa
variable {α : Type}

theorem rotv_lo {s m f : Nat} {xs : List α} {k : Nat} (h : k < s) (hsm : s ≤ m) : rotv s m f xs k = xs[k]? := by
  unfold rotv; rw [if_neg (by omega), if_neg (by omega)]
theorem rotv_hi {s m f : Nat} {xs : List α} {k : Nat} (h : f ≤ k) (hsm : s ≤ m) (hmf : m ≤ f) : rotv s m f xs k = xs[k]? := by
  unfold rotv; rw [if_neg (by omega), if_neg (by omega)]
theorem rotv_a {s m f : Nat} {xs : List α} {k : Nat} (h : s ≤ k) (h2 : k < s + (f - m)) : rotv s m f xs k = xs[k + (m - s)]? := by
  unfold rotv; rw [if_pos ⟨h, h2⟩]
theorem rotv_b {s m f : Nat} {xs : List α} {k : Nat} (h : s + (f - m) ≤ k) (h2 : k < f) : rotv s m f xs k = xs[k - (f - m)]? := by
  unfold rotv; rw [if_neg (by omega), if_pos ⟨h, h2⟩]

/-- A search has ended at s: those before it are not above their partners, those behind it are above them. -/
structure SymAt (key : α → Nat) (a m e : Nat) (xs : List α) (mid s f : Nat) : Prop where
  h1 : a ≤ s
  h2 : s ≤ m
  h3 : m ≤ f
  h4 : f ≤ e
  h5 : s + f = mid + m
  h6 : a ≤ mid
  h7 : mid ≤ e
  h8 : s ≤ mid
  h9 : mid ≤ f
  low : ∀ x y, a < s → f < e → xs[s - 1]? = some x → xs[f]? = some y → key x ≤ key y
  high : ∀ x y, s < m → m < f → xs[f - 1]? = some y → xs[s]? = some x → key y ≤ key x

theorem sym_core {key : α → Nat} {a m e mid s f : Nat} {xs zs : List α} (h : SymAt key a m e xs mid s f) (s1 : SrtR key a m xs) (s2 : SrtR key m e xs) (hl : e ≤ xs.length) (hp : zs.Perm xs) (hz : ∀ k, zs[k]? = rotv s m f xs k) :
    SrtR key a s zs ∧ SrtR key s mid zs ∧ SrtR key mid f zs ∧ SrtR key f e zs ∧ BelR key a mid mid e zs ∧ Rng a e xs zs := by
  obtain ⟨h1, h2, h3, h4, h5, h6, h7, h8, h9, low, high⟩ := h
  have zlo : ∀ k, k < s → zs[k]? = xs[k]? := fun k hk => by rw [hz, rotv_lo hk h2]
  have zhi : ∀ k, f ≤ k → zs[k]? = xs[k]? := fun k hk => by rw [hz, rotv_hi hk h2 h3]
  have za : ∀ k, s ≤ k → k < mid → zs[k]? = xs[k + (m - s)]? := fun k k1 k2 => by rw [hz, rotv_a k1 (by omega)]
  have zb : ∀ k, mid ≤ k → k < f → zs[k]? = xs[k - (f - m)]? := fun k k1 k2 => by rw [hz, rotv_b (by omega) k2]
  have le1 : ∀ i j x y, a ≤ i → i ≤ j → j < m → xs[i]? = some x → xs[j]? = some y → key x ≤ key y := fun i j x y i1 i2 i3 hx hy => by
    by_cases e1 : i = j
    · subst e1; rw [hx] at hy; cases hy; exact Nat.le_refl _
    · exact s1 i j x y i1 (by omega) i3 hx hy
  have le2 : ∀ i j x y, m ≤ i → i ≤ j → j < e → xs[i]? = some x → xs[j]? = some y → key x ≤ key y := fun i j x y i1 i2 i3 hx hy => by
    by_cases e1 : i = j
    · subst e1; rw [hx] at hy; cases hy; exact Nat.le_refl _
    · exact s2 i j x y i1 (by omega) i3 hx hy
  have at_ : ∀ i, i < e → ∃ x, xs[i]? = some x := fun i hi => ⟨xs[i]'(by omega), by simp⟩
  refine ⟨?_, ?_, ?_, ?_, ?_, ?_⟩
  · intro i j x y i1 i2 i3 hx hy
    rw [zlo i (by omega)] at hx; rw [zlo j i3] at hy
    exact s1 i j x y i1 i2 (by omega) hx hy
  · intro i j x y i1 i2 i3 hx hy
    rw [za i i1 (by omega)] at hx; rw [za j (by omega) i3] at hy
    exact s2 _ _ x y (by omega) (by omega) (by omega) hx hy
  · intro i j x y i1 i2 i3 hx hy
    rw [zb i i1 (by omega)] at hx; rw [zb j (by omega) i3] at hy
    exact s1 _ _ x y (by omega) (by omega) (by omega) hx hy
  · intro i j x y i1 i2 i3 hx hy
    rw [zhi i i1] at hx; rw [zhi j (by omega)] at hy
    exact s2 i j x y (by omega) i2 i3 hx hy
  · intro i j x y i1 i2 j1 j2 hx hy
    by_cases c1 : i < s
    · rw [zlo i c1] at hx
      by_cases c2 : j < f
      · rw [zb j j1 c2] at hy
        exact s1 _ _ x y i1 (by omega) (by omega) hx hy
      · rw [zhi j (by omega)] at hy
        obtain ⟨u, hu⟩ := at_ (s - 1) (by omega)
        obtain ⟨v, hv⟩ := at_ f (by omega)
        exact Nat.le_trans (le1 i (s - 1) x u i1 (by omega) (by omega) hx hu) (Nat.le_trans (low u v (by omega) (by omega) hu hv) (le2 f j v y h3 (by omega) j2 hv hy))
    · rw [za i (by omega) i2] at hx
      by_cases c2 : j < f
      · rw [zb j j1 c2] at hy
        obtain ⟨u, hu⟩ := at_ (f - 1) (by omega)
        obtain ⟨v, hv⟩ := at_ s (by omega)
        exact Nat.le_trans (le2 _ (f - 1) x u (by omega) (by omega) (by omega) hx hu) (Nat.le_trans (high v u (by omega) (by omega) hu hv) (le1 s _ v y h1 (by omega) (by omega) hv hy))
      · rw [zhi j (by omega)] at hy
        exact le2 _ j x y (by omega) (by omega) j2 hx hy
  · refine ⟨hp, fun i hi => ?_, fun i i1 i2 => ?_⟩
    · by_cases c : i < s
      · exact zlo i c
      · exact zhi i (by omega)
    · by_cases c1 : i < s
      · exact ⟨i, i1, i2, zlo i c1⟩
      · by_cases c2 : i < mid
        · exact ⟨_, by omega, by omega, za i (by omega) c2⟩
        · by_cases c3 : i < f
          · exact ⟨_, by omega, by omega, zb i (by omega) c3⟩
          · exact ⟨i, i1, i2, zhi i (by omega)⟩

/-- The element at a goes up to the place i, those between one down: step by step. -/
def upv (a k : Nat) (xs : List α) (p : Nat) : Option α := if a ≤ p ∧ p < k then xs[p + 1]? else if p = k then xs[a]? else xs[p]?
theorem upv_start (a : Nat) (xs : List α) (p : Nat) : xs[p]? = upv a a xs p := by
  unfold upv
  rw [if_neg (by omega)]
  split
  · subst_vars; rfl
  · rfl
theorem upv_step {a k : Nat} {xs ys : List α} {x y : α} (hak : a ≤ k) (h : ∀ p, ys[p]? = upv a k xs p) (hx : ys[k]? = some x) (hy : ys[k + 1]? = some y) (p : Nat) : (swp k (k + 1) x y ys)[p]? = upv a (k + 1) xs p := by
  rw [swp_get hx hy]
  have hx' := h k
  have hy' := h (k + 1)
  rw [hx] at hx'; rw [hy] at hy'
  unfold upv at hx' hy' ⊢
  rw [if_neg (by omega), if_pos rfl] at hx'
  rw [if_neg (by omega), if_neg (by omega)] at hy'
  by_cases e1 : p = k + 1
  · rw [if_pos e1, if_neg (by omega), if_pos e1, hx']
  · rw [if_neg e1]
    by_cases e2 : p = k
    · rw [if_pos e2, if_pos (by omega), hy', e2]
    · rw [if_neg e2, h p]
      unfold upv
      by_cases c : a ≤ p ∧ p < k
      · rw [if_pos c, if_pos (by omega)]
      · rw [if_neg c, if_neg e2, if_neg (show ¬ (a ≤ p ∧ p < k + 1) by omega), if_neg e1]
theorem up_end {key : α → Nat} {a e i : Nat} {xs ys : List α} (hi1 : a + 1 ≤ i) (hi2 : i ≤ e) (hl : e ≤ xs.length) (s2 : SrtR key (a + 1) e xs) (hp : ys.Perm xs) (h : ∀ p, ys[p]? = upv a (i - 1) xs p)
    (lo : ∀ p x y, a + 1 ≤ p → p < i → xs[p]? = some x → xs[a]? = some y → key x ≤ key y) (hi : ∀ p x y, i ≤ p → p < e → xs[p]? = some x → xs[a]? = some y → key y ≤ key x) : Rng a e xs ys ∧ SrtR key a e ys := by
  constructor
  · refine ⟨hp, fun p hp => ?_, fun p p1 p2 => ?_⟩
    · rw [h]; unfold upv; rw [if_neg (by omega), if_neg (by omega)]
    · rw [h]; unfold upv
      by_cases c : a ≤ p ∧ p < i - 1
      · exact ⟨p + 1, by omega, by omega, by rw [if_pos c]⟩
      · rw [if_neg c]
        by_cases c2 : p = i - 1
        · exact ⟨a, by omega, by omega, by rw [if_pos c2]⟩
        · exact ⟨p, p1, p2, by rw [if_neg c2]⟩
  · intro p q x y p1 p2 p3 hx hy
    rw [h] at hx hy
    unfold upv at hx hy
    by_cases c : p < i - 1
    · rw [if_pos ⟨p1, c⟩] at hx
      by_cases d : q < i - 1
      · rw [if_pos ⟨by omega, d⟩] at hy
        exact s2 _ _ x y (by omega) (by omega) (by omega) hx hy
      · rw [if_neg (by omega)] at hy
        by_cases d2 : q = i - 1
        · rw [if_pos d2] at hy
          exact lo _ x y (by omega) (by omega) hx hy
        · rw [if_neg d2] at hy
          exact s2 _ _ x y (by omega) (by omega) p3 hx hy
    · rw [if_neg (by omega)] at hx hy
      rw [if_neg (by omega)] at hy
      by_cases d2 : p = i - 1
      · rw [if_pos d2] at hx
        exact hi q y x (by omega) p3 hy hx
      · rw [if_neg d2] at hx
        exact s2 p q x y (by omega) p2 p3 hx hy

/-- The element at m goes down to the place i, those between one up: step by step. -/
def dnv (m k : Nat) (xs : List α) (p : Nat) : Option α := if k < p ∧ p ≤ m then xs[p - 1]? else if p = k then xs[m]? else xs[p]?
theorem dnv_start (m : Nat) (xs : List α) (p : Nat) : xs[p]? = dnv m m xs p := by
  unfold dnv
  rw [if_neg (by omega)]
  split
  · subst_vars; rfl
  · rfl
theorem dnv_step {m k : Nat} {xs ys : List α} {x y : α} (hkm : k + 1 ≤ m) (h : ∀ p, ys[p]? = dnv m (k + 1) xs p) (hx : ys[k + 1]? = some x) (hy : ys[k]? = some y) (p : Nat) : (swp (k + 1) k x y ys)[p]? = dnv m k xs p := by
  rw [swp_get hx hy]
  have hx' := h (k + 1)
  have hy' := h k
  rw [hx] at hx'; rw [hy] at hy'
  unfold dnv at hx' hy' ⊢
  rw [if_neg (by omega), if_pos rfl] at hx'
  rw [if_neg (by omega), if_neg (by omega)] at hy'
  by_cases e1 : p = k
  · rw [if_pos e1, if_neg (by omega), if_pos e1, hx']
  · rw [if_neg e1]
    by_cases e2 : p = k + 1
    · rw [if_pos e2, if_pos (by omega), hy']; congr 1; omega
    · rw [if_neg e2, h p]
      unfold dnv
      by_cases c : k + 1 < p ∧ p ≤ m
      · rw [if_pos c, if_pos (by omega)]
      · rw [if_neg c, if_neg e2, if_neg (show ¬ (k < p ∧ p ≤ m) by omega), if_neg e1]
theorem dn_end {key : α → Nat} {a m i : Nat} {xs ys : List α} (hi1 : a ≤ i) (hi2 : i ≤ m) (hl : m + 1 ≤ xs.length) (s1 : SrtR key a m xs) (hp : ys.Perm xs) (h : ∀ p, ys[p]? = dnv m i xs p)
    (lo : ∀ p x y, a ≤ p → p < i → xs[p]? = some x → xs[m]? = some y → key x ≤ key y) (hi : ∀ p x y, i ≤ p → p < m → xs[p]? = some x → xs[m]? = some y → key y ≤ key x) : Rng a (m + 1) xs ys ∧ SrtR key a (m + 1) ys := by
  constructor
  · refine ⟨hp, fun p hp => ?_, fun p p1 p2 => ?_⟩
    · rw [h]; unfold dnv; rw [if_neg (by omega), if_neg (by omega)]
    · rw [h]; unfold dnv
      by_cases c : i < p ∧ p ≤ m
      · exact ⟨p - 1, by omega, by omega, by rw [if_pos c]⟩
      · rw [if_neg c]
        by_cases c2 : p = i
        · exact ⟨m, by omega, by omega, by rw [if_pos c2]⟩
        · exact ⟨p, p1, p2, by rw [if_neg c2]⟩
  · intro p q x y p1 p2 p3 hx hy
    rw [h] at hx hy
    unfold dnv at hx hy
    by_cases c : p < i
    · rw [if_neg (by omega), if_neg (by omega)] at hx
      by_cases d : q < i
      · rw [if_neg (by omega), if_neg (by omega)] at hy
        exact s1 p q x y p1 p2 (by omega) hx hy
      · by_cases d2 : q = i
        · rw [if_neg (by omega), if_pos d2] at hy
          exact lo p x y p1 c hx hy
        · rw [if_pos (by omega)] at hy
          exact s1 p _ x y p1 (by omega) (by omega) hx hy
    · rw [if_pos (by omega)] at hy
      by_cases d2 : p = i
      · rw [if_neg (by omega), if_pos d2] at hx
        exact hi _ y x (by omega) (by omega) hy hx
      · rw [if_pos (by omega)] at hx
        exact s1 _ _ x y (by omega) (by omega) (by omega) hx hy
end Go.Proofs.Ytjjbnmlhbbnhcaa
/- symMergeCmpFunc at quanta: the walk of two rows of more than one. Conditions: none. -/
set_option linter.unusedVariables false
set_option linter.unusedSimpArgs false
namespace Go.Proofs.Ytjjbnmlhbbnhcaa
open Go.RowKit
attribute [local go_sem] run_store_complex

/-- What symMerge does to shorter rows. -/
def SymIH (S : CQ → Prop) (key : CQ → Nat) (F : Nat → Prop) (b o c n d : Nat) : Prop := ∀ d' < d, ∀ (a m e : Nat), e - a = d' → ∀ (w : World) (xs : List CQ), Row cE tC w F (.slice (some ⟨b, o, none⟩) n c) xs → (∀ x ∈ xs, S x) → a < m → m < e → e ≤ n → SrtR key a m xs → SrtR key m e xs →
    Calls Try.prog 58 #[.slice (some ⟨b, o, none⟩) n c, .int .i64 a, .int .i64 m, .int .i64 e, byV] w (SortPost F w (.slice (some ⟨b, o, none⟩) n c) xs a e (SrtR key a e))

def Sch3 (key : CQ → Nat) (w : World) (F : Nat → Prop) (v : Value) (xs : List CQ) (s0 r0 p : Nat) (vs vr : Value) (wr : World) : Prop :=
  ∃ (i j : Nat), vs = .int .i64 i ∧ vr = .int .i64 j ∧ s0 ≤ i ∧ i ≤ j ∧ j ≤ r0 ∧ Row cE tC wr F v xs ∧ Upd F w wr ∧
    (∀ q x y, s0 ≤ q → q < i → xs[q]? = some x → xs[p - q]? = some y → key x ≤ key y) ∧ (∀ q x y, j ≤ q → q < r0 → xs[q]? = some x → xs[p - q]? = some y → key y ≤ key x)

/-- The search has ended. -/
theorem sym_at {key : CQ → Nat} {xs : List CQ} {a m e mid s0 r0 p s : Nat} (ham : a < m) (hme : m < e) (hmid : mid = (a + e) / 2) (hp : p + 1 = mid + m)
    (h0 : (m > mid ∧ s0 = mid + m - e ∧ r0 = mid) ∨ (m ≤ mid ∧ s0 = a ∧ r0 = m)) (h1 : s0 ≤ s) (h2 : s ≤ r0)
    (lo : ∀ q x y, s0 ≤ q → q < s → xs[q]? = some x → xs[p - q]? = some y → key x ≤ key y) (hi : ∀ q x y, s ≤ q → q < r0 → xs[q]? = some x → xs[p - q]? = some y → key y ≤ key x) : SymAt key a m e xs mid s (mid + m - s) := by
  refine ⟨by omega, by omega, by omega, by omega, by omega, by omega, by omega, by omega, by omega, fun x y g1 g2 hx hy => ?_, fun x y g1 g2 hy hx => ?_⟩
  · refine lo (s - 1) x y (by omega) (by omega) hx ?_
    rw [← hy]; congr 1; omega
  · refine hi s x y (Nat.le_refl _) (by omega) hx ?_
    rw [← hy]; congr 1; omega

theorem rotv_id {α : Type} {s m f : Nat} {xs : List α} (h : s = m ∨ m = f) (h1 : s ≤ m) (h2 : m ≤ f) (k : Nat) : rotv s m f xs k = xs[k]? := by
  unfold rotv
  rcases h with rfl | rfl
  · by_cases c : s ≤ k ∧ k < s + (f - s)
    · rw [if_pos c, Nat.sub_self, Nat.add_zero]
    · rw [if_neg c, if_neg (by omega)]
  · rw [if_neg (by omega)]
    split
    · rw [Nat.sub_self, Nat.sub_zero]
    · rfl

set_option maxHeartbeats 4000000 in
set_option maxRecDepth 100000 in
theorem s_symG {S : CQ → Prop} {key : CQ → Nat} (hc : CmpOk S key) (F : Nat → Prop) (b o c n d : Nat) (hn : n ≤ 1000000) (ih : SymIH S key F b o c n d) (a m e : Nat) (hd : e - a = d) (w : World) (xs : List CQ) (hrow : Row cE tC w F (.slice (some ⟨b, o, none⟩) n c) xs) (hS : ∀ x ∈ xs, S x) (ham : a < m) (hme : m < e) (hen : e ≤ n) (s1 : SrtR key a m xs) (s2 : SrtR key m e xs) (hma : m ≠ a + 1) (hem : e ≠ m + 1) :
    Calls Try.prog 58 #[.slice (some ⟨b, o, none⟩) n c, .int .i64 a, .int .i64 m, .int .i64 e, byV] w (SortPost F w (.slice (some ⟨b, o, none⟩) n c) xs a e (SrtR key a e)) := by
  have HR := Lib.hid hrow
  have HC := Lib.hid hc
  have HS := Lib.hid hS
  have HL := Lib.hid hrow.lenEq
  have HS1 := Lib.hid s1
  have HS2 := Lib.hid s2
  have IH := Lib.hid ih
  have HD := Lib.hid hd
  obtain ⟨d1, hd1⟩ : ∃ d1, d1 = m - a := ⟨_, rfl⟩
  obtain ⟨d2, hd2⟩ : ∃ d2, d2 = e - m := ⟨_, rfl⟩
  have qm : (m : Int) - (a : Int) = (d1 : Int) := by omega
  have qm1 : ((d1 : Int) == 1) = false := by simp; omega
  have qe : (e : Int) - (m : Int) = (d2 : Int) := by omega
  have qe1 : ((d2 : Int) == 1) = false := by simp; omega
  obtain ⟨sm, hsm⟩ : ∃ sm, sm = a + e := ⟨_, rfl⟩
  obtain ⟨mid, hmid⟩ : ∃ mid, mid = (a + e) / 2 := ⟨_, rfl⟩
  have q1 : (a : Int) + (e : Int) = (sm : Int) := by omega
  have q2 : (sm : Int) / 2 = (mid : Int) := by omega
  have q3 : IntKind.i64.wrap (sm : Int) = (sm : Int) := IntWalk.i64_in _ (by omega)
  have q4 : IntKind.u64.wrap (sm : Int) = (sm : Int) := by rw [IntKind.wrap_u64]; omega
  have q5 : IntKind.i64.wrap (mid : Int) = (mid : Int) := IntWalk.i64_in _ (by omega)
  have hsm2 : sm ≤ 2000000 := by omega
  obtain ⟨nn, hnn⟩ : ∃ nn, nn = mid + m := ⟨_, rfl⟩
  have q6 : (mid : Int) + (m : Int) = (nn : Int) := by omega
  obtain ⟨p, hp⟩ : ∃ p, p + 1 = mid + m := ⟨mid + m - 1, by omega⟩
  have q7 : (nn : Int) - 1 = (p : Int) := by omega
  have hnn2 : nn ≤ 2000000 := by omega
  have hmide : mid < e := by omega
  obtain ⟨s0, r0, h0, hs0, hr0⟩ : ∃ s0 r0, ((m > mid ∧ s0 = mid + m - e ∧ r0 = mid) ∨ (m ≤ mid ∧ s0 = a ∧ r0 = m)) ∧ s0 ≤ r0 ∧ r0 ≤ e := by
    by_cases c : m > mid
    · exact ⟨mid + m - e, mid, .inl ⟨c, rfl, rfl⟩, by omega, by omega⟩
    · exact ⟨a, m, .inr ⟨by omega, rfl, rfl⟩, by omega, by omega⟩
  have H0 := Lib.hid h0
  have HMID := Lib.hid hmid
  have HP := Lib.hid hp
  have HNN := Lib.hid hnn
  -- what stands behind the tests of the middle
  have hrest : ∀ s, Sch3 key w F (.slice (some ⟨b, o, none⟩) n c) xs s0 r0 p (.int .i64 s) (.int .i64 s) w → True := fun _ _ => trivial
  clear hrow hc hS s1 s2 ih hd1 hd2 hsm hmid hnn hp hma hem hd hrest
  unfold byV
  go_enter Try.func58, Try.ntmps58
  go_upto_if 140 with fail
  go_cut [20, 21] from 141 (fun vs vr wc => vs = .int .i64 s0 ∧ vr = .int .i64 r0 ∧ w = wc)
  case first =>
    by_cases c : m > mid
    · have c1 : decide ((mid : Int) < (m : Int)) = true := by simp; omega
      have c2 : decide (mid < m) = true := by simp; omega
      have e1 : (nn : Int) - (e : Int) = (s0 : Int) := by have := H0.out; have := HNN.out; omega
      have e2 : r0 = mid := by have := H0.out; omega
      have E2 := Lib.hid e2
      clear e2
      go_wp2
      go_meet
      exact ⟨rfl, by rw [E2.out], rfl⟩
    · have c1 : decide ((mid : Int) < (m : Int)) = false := by simp; omega
      have c2 : decide (mid < m) = false := by simp; omega
      have e1 : s0 = a := by have := H0.out; omega
      have e2 : r0 = m := by have := H0.out; omega
      have E1 := Lib.hid e1
      have E2 := Lib.hid e2
      clear e1 e2
      go_wp2
      go_meet
      exact ⟨by rw [E1.out], by rw [E2.out], rfl⟩
  case rest =>
    obtain ⟨rfl, rfl, rfl⟩ := hcut
    go_wp2
    go_loopw [20, 21] (Sch3 key w F (.slice (some ⟨b, o, none⟩) n c) xs s0 r0 p) (fun i j _ => (intOf j).toNat - (intOf i).toNat)
    case atStart => exact ⟨s0, r0, rfl, rfl, Nat.le_refl _, hs0, Nat.le_refl _, HR.out, Upd.refl _ _, fun q x y h1 h2 => by omega, fun q x y h1 h2 => by omega⟩
    case round =>
      clear HR
      obtain ⟨i, j, rfl, rfl, hi, hij, hj, hr, hu, hlo, hhi⟩ := hrel
      by_cases hlt : i < j
      · obtain ⟨h, hh⟩ : ∃ h, h = (i + j) / 2 := ⟨_, rfl⟩
        have hh1 : i ≤ h := by omega
        have hh2 : h < j := by omega
        obtain ⟨sm, hsm⟩ : ∃ sm, sm = i + j := ⟨_, rfl⟩
        have q1 : (i : Int) + (j : Int) = (sm : Int) := by omega
        have q2 : (sm : Int) / 2 = (h : Int) := by omega
        have q3 : IntKind.i64.wrap (sm : Int) = (sm : Int) := IntWalk.i64_in _ (by omega)
        have q4 : IntKind.u64.wrap (sm : Int) = (sm : Int) := by rw [IntKind.wrap_u64]; omega
        have q5 : IntKind.i64.wrap (h : Int) = (h : Int) := IntWalk.i64_in _ (by omega)
        have hsm2 : sm ≤ 2000000 := by omega
        have hhn : h < n := by omega
        clear hh hsm
        have hh0 := H0.out
        have hpp := HP.out
        have hmm := HMID.out
        obtain ⟨pc, hpc⟩ : ∃ pc, pc = p - h := ⟨_, rfl⟩
        have w1 : (p : Int) - (h : Int) = (pc : Int) := by omega
        have w1w : IntKind.i64.wrap (pc : Int) = (pc : Int) := IntWalk.i64_in _ (by omega)
        have hpn : pc < n := by omega
        have hpb : m ≤ pc ∧ pc < e ∧ h < m := by omega
        obtain ⟨x, hx⟩ : ∃ x, xs[pc]? = some x := by have := HL.out; exact ⟨xs[pc]'(by omega), by simp⟩
        obtain ⟨y, hy⟩ : ∃ y, xs[h]? = some y := by have := HL.out; exact ⟨xs[h]'(by omega), by simp⟩
        have HPC := Lib.hid hpc
        have HPB := Lib.hid hpb
        have HX := Lib.hid hx
        have HY := Lib.hid hy
        have HR := Lib.hid hr
        have HU := Lib.hid hu
        have HLO := Lib.hid hlo
        have HHI := Lib.hid hhi
        clear hx hy hr hu hlo hhi hh0 hpp hmm hpc hpb
        go_wp2
        have HCMP := Lib.hid (fun w => HC.out w x y (HS.out x (List.mem_of_getElem? HX.out)) (HS.out y (List.mem_of_getElem? HY.out)))
        have g0 := row_cell HR.out HX.out
        have g1 := row_cell HR.out HY.out
        have hbl2 := row_lt HR.out
        refine wp_region_noPanic ?_
        refine wp_region_N [13] (fun w1 => w1.cell? ⟨b, o + pc, none⟩ = some (.complex .f64 x.1 x.2) ∧ w1.cell? ⟨b, o + h, none⟩ = some (.complex .f64 y.1 y.2)) (by kernel_rfl) ⟨g0, g1⟩ ?_
        intro hS0
        (refine wpAnyN_takeU 0 (oi := ?oi64) (v := ?v64) ?hi64 (by kernel_rfl) (fun _ _ _ h => h) ?hy64 ?hk64; (case hi64 => (simp only [List.getElem?_toArray, List.getElem?_cons_zero, List.getElem?_cons_succ]; try rfl)); (case hy64 => (first | (refine Or.inl ⟨by rfl, ?_⟩; intro wq _; (try go_simp); (try with_reducible rfl); done) | exact Or.inr ⟨by rfl, rfl⟩)); simp only [Act.put, List.setIfInBounds_toArray, List.set_cons_zero, List.set_cons_succ]); (refine wpAnyN_takeU 1 (oi := ?oi65) (v := ?v65) ?hi65 (by kernel_rfl) (fun _ _ _ h => h) ?hy65 ?hk65; (case hi65 => (simp only [List.getElem?_toArray, List.getElem?_cons_zero, List.getElem?_cons_succ]; try rfl)); (case hy65 => (first | (refine Or.inl ⟨by rfl, ?_⟩; intro wq _; (try go_simp); (try with_reducible rfl); done) | exact Or.inr ⟨by rfl, rfl⟩)); simp only [Act.put, List.setIfInBounds_toArray, List.set_cons_zero, List.set_cons_succ]); (refine wpAnyN_takeU 2 (oi := ?oi66) (v := ?v66) ?hi66 (by kernel_rfl) (fun _ _ _ h => h) ?hy66 ?hk66; (case hi66 => (simp only [List.getElem?_toArray, List.getElem?_cons_zero, List.getElem?_cons_succ]; try rfl)); (case hy66 => (first | (refine Or.inl ⟨by rfl, ?_⟩; intro wq _; (try go_simp); (try with_reducible rfl); done) | exact Or.inr ⟨by rfl, rfl⟩)); simp only [Act.put, List.setIfInBounds_toArray, List.set_cons_zero, List.set_cons_succ]); (refine wpAnyN_takeU 3 (oi := ?oi67) (v := ?v67) ?hi67 (by kernel_rfl) (fun _ _ _ h => h) ?hy67 ?hk67; (case hi67 => (simp only [List.getElem?_toArray, List.getElem?_cons_zero, List.getElem?_cons_succ]; try rfl)); (case hy67 => (first | (refine Or.inl ⟨by rfl, ?_⟩; intro wq _; (try go_simp); (try with_reducible rfl); done) | exact Or.inr ⟨by rfl, rfl⟩)); simp only [Act.put, List.setIfInBounds_toArray, List.set_cons_zero, List.set_cons_succ]); (refine wpAnyN_takeU 4 (oi := ?oi68) (v := ?v68) ?hi68 (by kernel_rfl) (fun _ _ _ h => h) ?hy68 ?hk68; (case hi68 => (simp only [List.getElem?_toArray, List.getElem?_cons_zero, List.getElem?_cons_succ]; try rfl)); (case hy68 => (first | (refine Or.inl ⟨by rfl, ?_⟩; intro wq _; (try go_simp); (try with_reducible rfl); done) | exact Or.inr ⟨by rfl, rfl⟩)); simp only [Act.put, List.setIfInBounds_toArray, List.set_cons_zero, List.set_cons_succ]); (refine wpAnyN_takeU 5 (oi := ?oi69) (v := ?v69) ?hi69 (by kernel_rfl) (fun _ _ _ h => h) ?hy69 ?hk69; (case hi69 => (simp only [List.getElem?_toArray, List.getElem?_cons_zero, List.getElem?_cons_succ]; try rfl)); (case hy69 => (first | (refine Or.inl ⟨by rfl, ?_⟩; intro wq _; (try go_simp); (try with_reducible rfl); done) | exact Or.inr ⟨by rfl, rfl⟩)); simp only [Act.put, List.setIfInBounds_toArray, List.set_cons_zero, List.set_cons_succ])
        (refine wpAnyN_take 6 (oi := ?oi20) (v := ?v20) ?hi20 (by kernel_rfl) (fun _ _ _ h => h) (by assumption) ?hy20 ?hk20; (case hi20 => (simp only [List.getElem?_toArray, List.getElem?_cons_zero, List.getElem?_cons_succ]; try rfl)); (case hy20 => (first | (refine Or.inl ⟨by rfl, ?_⟩; intro wq hSw; (try dsimp only at hSw); go_split_ands; (try go_simp); (try with_reducible rfl); done) | exact Or.inr ⟨by rfl, rfl⟩)); simp only [Act.put, List.setIfInBounds_toArray, List.set_cons_zero, List.set_cons_succ])
        (refine wpAnyN_takeU 7 (oi := ?oi70) (v := ?v70) ?hi70 (by kernel_rfl) (fun _ _ _ h => h) ?hy70 ?hk70; (case hi70 => (simp only [List.getElem?_toArray, List.getElem?_cons_zero, List.getElem?_cons_succ]; try rfl)); (case hy70 => (first | (refine Or.inl ⟨by rfl, ?_⟩; intro wq _; (try go_simp); (try with_reducible rfl); done) | exact Or.inr ⟨by rfl, rfl⟩)); simp only [Act.put, List.setIfInBounds_toArray, List.set_cons_zero, List.set_cons_succ]); (refine wpAnyN_takeU 8 (oi := ?oi71) (v := ?v71) ?hi71 (by kernel_rfl) (fun _ _ _ h => h) ?hy71 ?hk71; (case hi71 => (simp only [List.getElem?_toArray, List.getElem?_cons_zero, List.getElem?_cons_succ]; try rfl)); (case hy71 => (first | (refine Or.inl ⟨by rfl, ?_⟩; intro wq _; (try go_simp); (try with_reducible rfl); done) | exact Or.inr ⟨by rfl, rfl⟩)); simp only [Act.put, List.setIfInBounds_toArray, List.set_cons_zero, List.set_cons_succ]); (refine wpAnyN_takeU 9 (oi := ?oi72) (v := ?v72) ?hi72 (by kernel_rfl) (fun _ _ _ h => h) ?hy72 ?hk72; (case hi72 => (simp only [List.getElem?_toArray, List.getElem?_cons_zero, List.getElem?_cons_succ]; try rfl)); (case hy72 => (first | (refine Or.inl ⟨by rfl, ?_⟩; intro wq _; (try go_simp); (try with_reducible rfl); done) | exact Or.inr ⟨by rfl, rfl⟩)); simp only [Act.put, List.setIfInBounds_toArray, List.set_cons_zero, List.set_cons_succ])
        (refine wpAnyN_take 10 (oi := ?oi21) (v := ?v21) ?hi21 (by kernel_rfl) (fun _ _ _ h => h) (by assumption) ?hy21 ?hk21; (case hi21 => (simp only [List.getElem?_toArray, List.getElem?_cons_zero, List.getElem?_cons_succ]; try rfl)); (case hy21 => (first | (refine Or.inl ⟨by rfl, ?_⟩; intro wq hSw; (try dsimp only at hSw); go_split_ands; (try go_simp); (try with_reducible rfl); done) | exact Or.inr ⟨by rfl, rfl⟩)); simp only [Act.put, List.setIfInBounds_toArray, List.set_cons_zero, List.set_cons_succ])
        (refine wpAnyN_all [11] (by kernel_rfl) ?_; refine AllN.cons (by simp only [List.getElem?_toArray, List.getElem?_cons_zero, List.getElem?_cons_succ]; try rfl) (fun K hK => ?_) AllN.nil)
        go_simp
        refine (HCMP.out _).mono ?_
        rintro en w2 ⟨rfl, hu2⟩
        have hu2' : Upd NoB wr w2 := (Upd.drew NoB wr).trans hu2
        refine hK.out _ _ (fun _ => ⟨cell_stay hu2' g0 hbl2, cell_stay hu2' g1 hbl2⟩) ?_
        clear hK K hS0
        (try simp only [Act.put, List.setIfInBounds_toArray, List.set_cons_zero, List.set_cons_succ])
        have HR2 := Lib.hid (Row.upd HR.out hu2' (fun _ _ h => h))
        have HU2 := Lib.hid (Upd.trans HU.out (hu2'.mono (fun _ _ h => h.elim)))
        clear g0 g1 hu2 hu2' HCMP
        have hlt2 := ordI_lt (key x) (key y)
        generalize ordI (compare (key x) (key y)) = r at hlt2
        obtain ⟨bb, hbb⟩ : ∃ bb, bb = decide (key x < key y) := ⟨_, rfl⟩
        rw [← hbb] at hlt2
        have HBB := Lib.hid hbb
        clear hbb
        (refine wpAnyN_takeU 12 (oi := ?oi73) (v := ?v73) ?hi73 (by kernel_rfl) (fun _ _ _ h => h) ?hy73 ?hk73; (case hi73 => (simp only [List.getElem?_toArray, List.getElem?_cons_zero, List.getElem?_cons_succ]; try rfl)); (case hy73 => (first | (refine Or.inl ⟨by rfl, ?_⟩; intro wq _; (try go_simp); (try with_reducible rfl); done) | exact Or.inr ⟨by rfl, rfl⟩)); simp only [Act.put, List.setIfInBounds_toArray, List.set_cons_zero, List.set_cons_succ])
        (refine wpAnyN_all [13] (by kernel_rfl) ?_; refine AllN.cons (by simp only [List.getElem?_toArray, List.getElem?_cons_zero, List.getElem?_cons_succ]; try rfl) (fun K hK => ?_) AllN.nil)
        go_simp
        refine hK.out _ _ (fun h => absurd h (by decide)) ?_
        clear hK K
        (try simp only [Act.put, List.setIfInBounds_toArray, List.set_cons_zero, List.set_cons_succ])
        refine wpAnyN_done (by kernel_rfl) ?_
        refine NoPanic.normal ?_
        by_cases hxy : key x < key y
        · obtain rfl : bb = true := by rw [HBB.out]; simpa using hxy
          clear hlt2 HBB
          go_wp2
          refine ⟨⟨i, h, rfl, rfl, hi, by omega, by omega, HR2.out, HU2.out, HLO.out, fun q u v p1 p2 hu hv => ?_⟩, by simp [intOf]; omega⟩
          have hPB := HPB.out
          have hPC := HPC.out
          by_cases e2 : j ≤ q
          · exact HHI.out q u v e2 p2 hu hv
          · have hh0 := H0.out
            have hpp := HP.out
            have hmm := HMID.out
            have k1 : key y ≤ key u := by
              by_cases e1 : q = h
              · subst e1; have := HY.out; rw [hu] at this; cases this; exact Nat.le_refl _
              · exact HS1.out h q y u (by omega) (by omega) (by omega) HY.out hu
            have k2 : key v ≤ key x := by
              by_cases e1 : q = h
              · subst e1; rw [← hPC] at hv; have := HX.out; rw [hv] at this; cases this; exact Nat.le_refl _
              · exact HS2.out (p - q) pc v x (by omega) (by omega) (by omega) hv HX.out
            omega
        · obtain rfl : bb = false := by rw [HBB.out]; simpa using hxy
          clear hlt2 HBB
          go_wp2
          refine ⟨⟨h + 1, j, by go_num, rfl, by omega, by omega, hj, HR2.out, HU2.out, fun q u v p1 p2 hu hv => ?_, HHI.out⟩, by simp [intOf]; omega⟩
          have hPB := HPB.out
          have hPC := HPC.out
          by_cases e2 : q < i
          · exact HLO.out q u v p1 e2 hu hv
          · have hh0 := H0.out
            have hpp := HP.out
            have hmm := HMID.out
            have k1 : key u ≤ key y := by
              by_cases e1 : q = h
              · subst e1; have := HY.out; rw [hu] at this; cases this; exact Nat.le_refl _
              · exact HS1.out q h u y (by omega) (by omega) (by omega) hu HY.out
            have k2 : key x ≤ key v := by
              by_cases e1 : q = h
              · subst e1; rw [← hPC] at hv; have := HX.out; rw [hv] at this; cases this; exact Nat.le_refl _
              · exact HS2.out pc (p - q) x v (by omega) (by omega) (by omega) HX.out hv
            omega
      · have hije : j = i := by omega
        subst hije
        have hsy := sym_at ham hme HMID.out HP.out H0.out hi hj hlo hhi
        obtain ⟨f, hf⟩ : ∃ f, f = mid + m - j := ⟨_, rfl⟩
        rw [← hf] at hsy
        have w2 : (nn : Int) - (j : Int) = (f : Int) := by have := HNN.out; have := hsy.h5; omega
        have b1 := hsy.h1
        have b2 := hsy.h2
        have b3 := hsy.h3
        have b4 := hsy.h4
        have b8 := hsy.h8
        have b9 := hsy.h9
        have b10 := hsy.h7
        have HSY := Lib.hid hsy
        have HR := Lib.hid hr
        have HU := Lib.hid hu
        clear hr hu hlo hhi hsy hf
        obtain ⟨t1, ht1⟩ : ∃ t1, t1 = (decide (j < m) && decide (m < f)) := ⟨_, rfl⟩
        have HT1 := Lib.hid ht1
        clear ht1
        go_upto_region 39 with fail
        go_cut [24, 185] from 178 (fun v24 t wc => v24 = .int .i64 f ∧ t = .bool t1 ∧ wr = wc)
        case first =>
          by_cases c1 : j < m
          · by_cases c2 : m < f
            · have g1 : decide (j < m) = true := by simpa using c1
              have g2 : decide (m < f) = true := by simpa using c2
              obtain rfl : t1 = true := by rw [HT1.out, g1, g2]; rfl
              go_wp2
              go_meet
              exact ⟨rfl, rfl, rfl⟩
            · have g1 : decide (j < m) = true := by simpa using c1
              have g2 : decide (m < f) = false := by simpa using c2
              obtain rfl : t1 = false := by rw [HT1.out, g1, g2]; rfl
              go_wp2
              go_meet
              exact ⟨rfl, rfl, rfl⟩
          · have g1 : decide (j < m) = false := by simpa using c1
            obtain rfl : t1 = false := by rw [HT1.out, g1]; rfl
            go_wp2
            go_meet
            exact ⟨rfl, rfl, rfl⟩
        case rest =>
          obtain ⟨rfl, rfl, rfl⟩ := hcut
          go_upto_if 185 with fail
          go_cut [24] from 186 (fun v24 wc => v24 = .int .i64 f ∧ Hid (∃ zs, Row cE tC wc F (.slice (some ⟨b, o, none⟩) n c) zs ∧ Upd F w wc ∧ zs.Perm xs ∧ ∀ k, zs[k]? = rotv j m f xs k))
          case first =>
            cases t1 with
            | true =>
              have hc2 : j < m ∧ m < f := by have := HT1.out; simp at this; exact this
              have hro := s_rot wr F b o c n j m f byV xs HR.out hc2.1 hc2.2 (by omega) hn
              have HRO := Lib.hid hro
              clear hro
              go_wp2_with fail
              refine HRO.out.mono ?_
              rintro en w3 ⟨rfl, zs, z1, z2, z3, z4⟩
              have hfin : ∃ zs, Row cE tC w3 F (.slice (some ⟨b, o, none⟩) n c) zs ∧ Upd F w w3 ∧ zs.Perm xs ∧ ∀ k, zs[k]? = rotv j m f xs k := ⟨zs, z1, HU.out.trans z2, z3, z4⟩
              have HF := Lib.hid hfin
              clear hfin z1 z2 z3 z4
              go_wp2
              go_meet
              exact ⟨rfl, HF⟩
            | false =>
              have hc2 : j = m ∨ m = f := by have := HT1.out; simp at this; omega
              have hfin : ∃ zs, Row cE tC wr F (.slice (some ⟨b, o, none⟩) n c) zs ∧ Upd F w wr ∧ zs.Perm xs ∧ ∀ k, zs[k]? = rotv j m f xs k := ⟨xs, HR.out, HU.out, List.Perm.refl _, fun k => (rotv_id hc2 b2 b3 k).symm⟩
              have HF := Lib.hid hfin
              clear hfin
              go_wp2
              go_meet
              exact ⟨rfl, HF⟩
          case rest =>
            obtain ⟨rfl, hZ⟩ := hcut
            clear HR HU HT1
            obtain ⟨zs, hr, hu, hp, hg⟩ := hZ.out
            have hcore := sym_core HSY.out HS1.out HS2.out (by have := HL.out; omega) hp hg
            clear hZ
            obtain ⟨A1, A2, A3, A4, BEL, RNG⟩ := hcore
            have hSz := RNG.mem HS.out
            have HSZ := Lib.hid hSz
            have HR := Lib.hid hr
            have HU := Lib.hid hu
            have HA1 := Lib.hid A1
            have HA2 := Lib.hid A2
            have HA3 := Lib.hid A3
            have HA4 := Lib.hid A4
            have HBEL := Lib.hid BEL
            have HRNG := Lib.hid RNG
            have hmid2 : a < mid := by have := HMID.out; omega
            clear hr hu hp hg A1 A2 A3 A4 BEL RNG hSz
            obtain ⟨t2, ht2⟩ : ∃ t2, t2 = (decide (a < j) && decide (j < mid)) := ⟨_, rfl⟩
            have HT2 := Lib.hid ht2
            clear ht2
            go_upto_region 41 with fail
            go_cut [24, 199] from 192 (fun v24 t wd => v24 = .int .i64 f ∧ t = .bool t2 ∧ wc = wd)
            case first =>
              by_cases c1 : a < j
              · by_cases c2 : j < mid
                · have g1 : decide (a < j) = true := by simpa using c1
                  have g2 : decide (j < mid) = true := by simpa using c2
                  obtain rfl : t2 = true := by rw [HT2.out, g1, g2]; rfl
                  go_wp2
                  go_meet
                  exact ⟨rfl, rfl, rfl⟩
                · have g1 : decide (a < j) = true := by simpa using c1
                  have g2 : decide (j < mid) = false := by simpa using c2
                  obtain rfl : t2 = false := by rw [HT2.out, g1, g2]; rfl
                  go_wp2
                  go_meet
                  exact ⟨rfl, rfl, rfl⟩
              · have g1 : decide (a < j) = false := by simpa using c1
                obtain rfl : t2 = false := by rw [HT2.out, g1]; rfl
                go_wp2
                go_meet
                exact ⟨rfl, rfl, rfl⟩
            case rest =>
              obtain ⟨rfl, rfl, rfl⟩ := hcut
              go_upto_if 199 with fail
              go_cut [24] from 200 (fun v24 wd => v24 = .int .i64 f ∧ Hid (∃ ys, Row cE tC wd F (.slice (some ⟨b, o, none⟩) n c) ys ∧ Upd F w wd ∧ Rng a mid zs ys ∧ SrtR key a mid ys))
              case first =>
                cases t2 with
                | true =>
                  have hc2 : a < j ∧ j < mid := by have := HT2.out; simp at this; exact this
                  have hro := IH.out (mid - a) (by have := HD.out; omega) a j mid rfl wc zs HR.out HSZ.out hc2.1 hc2.2 (by omega) HA1.out HA2.out
                  have HRO := Lib.hid hro
                  clear hro
                  go_wp2_with fail
                  refine HRO.out.mono ?_
                  rintro en w3 ⟨rfl, ys, z1, z2, z3, z4⟩
                  have hfin : ∃ ys, Row cE tC w3 F (.slice (some ⟨b, o, none⟩) n c) ys ∧ Upd F w w3 ∧ Rng a mid zs ys ∧ SrtR key a mid ys := ⟨ys, z1, HU.out.trans z2, z3, z4⟩
                  have HF := Lib.hid hfin
                  clear hfin z1 z2 z3 z4
                  go_wp2
                  go_meet
                  exact ⟨rfl, HF⟩
                | false =>
                  have hc2 : j = a ∨ j = mid := by have := HT2.out; simp at this; omega
                  have hfin : ∃ ys, Row cE tC wc F (.slice (some ⟨b, o, none⟩) n c) ys ∧ Upd F w wc ∧ Rng a mid zs ys ∧ SrtR key a mid ys := ⟨zs, HR.out, HU.out, Rng.refl _ _ _, by
                    rcases hc2 with e1 | e1
                    · have := HA2.out; rw [e1] at this; exact this
                    · have := HA1.out; rw [e1] at this; exact this⟩
                  have HF := Lib.hid hfin
                  clear hfin hc2
                  go_wp2
                  go_meet
                  exact ⟨rfl, HF⟩
              case rest =>
                obtain ⟨rfl, hZ⟩ := hcut
                clear HR HU HT2
                obtain ⟨ys, hr, hu, hg, hs⟩ := hZ.out
                have HR := Lib.hid hr
                have HU := Lib.hid hu
                have HG := Lib.hid hg
                have HSL := Lib.hid hs
                have HSY2 := Lib.hid (hg.mem HSZ.out)
                have HB3 := Lib.hid (HA3.out.keep hg (.inr (Nat.le_refl _)))
                have HB4 := Lib.hid (HA4.out.keep hg (.inr b9))
                clear hr hu hg hs hZ
                obtain ⟨t3, ht3⟩ : ∃ t3, t3 = (decide (mid < f) && decide (f < e)) := ⟨_, rfl⟩
                have HT3 := Lib.hid ht3
                clear ht3
                go_upto_region 43 with fail
                go_cut [24, 213] from 206 (fun v24 t we => v24 = .int .i64 f ∧ t = .bool t3 ∧ wc = we)
                case first =>
                  by_cases c1 : mid < f
                  · by_cases c2 : f < e
                    · have g1 : decide (mid < f) = true := by simpa using c1
                      have g2 : decide (f < e) = true := by simpa using c2
                      obtain rfl : t3 = true := by rw [HT3.out, g1, g2]; rfl
                      go_wp2
                      go_meet
                      exact ⟨rfl, rfl, rfl⟩
                    · have g1 : decide (mid < f) = true := by simpa using c1
                      have g2 : decide (f < e) = false := by simpa using c2
                      obtain rfl : t3 = false := by rw [HT3.out, g1, g2]; rfl
                      go_wp2
                      go_meet
                      exact ⟨rfl, rfl, rfl⟩
                  · have g1 : decide (mid < f) = false := by simpa using c1
                    obtain rfl : t3 = false := by rw [HT3.out, g1]; rfl
                    go_wp2
                    go_meet
                    exact ⟨rfl, rfl, rfl⟩
                case rest =>
                  obtain ⟨rfl, rfl, rfl⟩ := hcut
                  cases t3 with
                  | true =>
                    have hc2 : mid < f ∧ f < e := by have := HT3.out; simp at this; exact this
                    have hro := IH.out (e - mid) (by have := HD.out; omega) mid f e rfl wc ys HR.out HSY2.out hc2.1 hc2.2 (by omega) HB3.out HB4.out
                    have HRO := Lib.hid hro
                    clear hro
                    go_wp2_with fail
                    refine HRO.out.mono ?_
                    rintro en w3 ⟨rfl, us, z1, z2, z3, z4⟩
                    have hfin : SortPost F w (.slice (some ⟨b, o, none⟩) n c) xs a e (SrtR key a e) (.returned (.tuple #[])) w3 :=
                      ⟨rfl, us, z1, HU.out.trans z2, HRNG.out.trans ((HG.out.wide (Nat.le_refl _) b10).trans (z3.wide (by omega) (Nat.le_refl _))), SrtR.join (HSL.out.keep z3 (.inl (Nat.le_refl _))) z4 ((HBEL.out.left HG.out (Nat.le_refl _)).right z3 (Nat.le_refl _))⟩
                    have HF := Lib.hid hfin
                    clear hfin z1 z2 z3 z4
                    go_wp2
                    go_end0
                    exact HF.out
                  | false =>
                    have hc2 : mid = f ∨ f = e := by have := HT3.out; simp at this; omega
                    have hz4 : SrtR key mid e ys := by
                      rcases hc2 with e1 | e1
                      · have := HB4.out; rw [← e1] at this; exact this
                      · have := HB3.out; rw [e1] at this; exact this
                    have hfin : SortPost F w (.slice (some ⟨b, o, none⟩) n c) xs a e (SrtR key a e) (.returned (.tuple #[])) wc :=
                      ⟨rfl, ys, HR.out, HU.out, HRNG.out.trans (HG.out.wide (Nat.le_refl _) b10), SrtR.join HSL.out hz4 (HBEL.out.left HG.out (Nat.le_refl _))⟩
                    have HF := Lib.hid hfin
                    clear hfin hz4 hc2
                    go_wp2
                    go_end0
                    exact HF.out
end Go.Proofs.Ytjjbnmlhbbnhcaa
/- symMergeCmpFunc at quanta: its walk. Conditions: none. -/
set_option linter.unusedVariables false
set_option linter.unusedSimpArgs false
namespace Go.Proofs.Ytjjbnmlhbbnhcaa
open Go.RowKit
attribute [local go_sem] run_store_complex

def Sch1 (key : CQ → Nat) (w : World) (F : Nat → Prop) (v : Value) (xs : List CQ) (a m e : Nat) (z : CQ) (vi vj : Value) (wr : World) : Prop :=
  ∃ (i j : Nat), vi = .int .i64 i ∧ vj = .int .i64 j ∧ m ≤ i ∧ i ≤ j ∧ j ≤ e ∧ Row cE tC wr F v xs ∧ Upd F w wr ∧
    (∀ p x, m ≤ p → p < i → xs[p]? = some x → key x ≤ key z) ∧ (∀ p x, j ≤ p → p < e → xs[p]? = some x → key z ≤ key x)

def UpRel (w : World) (F : Nat → Prop) (v : Value) (xs : List CQ) (a i : Nat) (vk : Value) (wr : World) : Prop :=
  ∃ (k : Nat) (ys : List CQ), vk = .int .i64 k ∧ a ≤ k ∧ k ≤ i ∧ Row cE tC wr F v ys ∧ Upd F w wr ∧ ys.Perm xs ∧ ∀ p, ys[p]? = upv a k xs p
def DnRel (w : World) (F : Nat → Prop) (v : Value) (xs : List CQ) (i m : Nat) (vk : Value) (wr : World) : Prop :=
  ∃ (k : Nat) (ys : List CQ), vk = .int .i64 k ∧ i ≤ k ∧ k ≤ m ∧ Row cE tC wr F v ys ∧ Upd F w wr ∧ ys.Perm xs ∧ ∀ p, ys[p]? = dnv m k xs p

set_option maxHeartbeats 4000000 in
set_option maxRecDepth 100000 in
theorem s_sym {S : CQ → Prop} {key : CQ → Nat} (hc : CmpOk S key) (F : Nat → Prop) (b o c n : Nat) (hn : n ≤ 1000000) : ∀ (d a m e : Nat), e - a = d → ∀ (w : World) (xs : List CQ), Row cE tC w F (.slice (some ⟨b, o, none⟩) n c) xs → (∀ x ∈ xs, S x) → a < m → m < e → e ≤ n → SrtR key a m xs → SrtR key m e xs →
    Calls Try.prog 58 #[.slice (some ⟨b, o, none⟩) n c, .int .i64 a, .int .i64 m, .int .i64 e, byV] w (SortPost F w (.slice (some ⟨b, o, none⟩) n c) xs a e (SrtR key a e)) := by
  intro d
  induction d using Nat.strongRecOn with
  | _ d ih =>
  intro a m e hd w xs hrow hS ham hme hen s1 s2
  have HR := Lib.hid hrow
  have HC := Lib.hid hc
  have HS := Lib.hid hS
  have HL := Lib.hid hrow.lenEq
  have HS1 := Lib.hid s1
  have HS2 := Lib.hid s2
  have IH := Lib.hid ih
  have hbl := row_lt hrow
  clear hrow hc hS s1 s2 ih
  unfold byV
  by_cases hma : m = a + 1
  · have qm : (m : Int) - (a : Int) = 1 := by omega
    have HMA := Lib.hid hma
    clear hma
    obtain ⟨z, hz⟩ : ∃ z, xs[a]? = some z := by have := HL.out; exact ⟨xs[a]'(by omega), by simp⟩
    have HZ := Lib.hid hz
    clear hz
    go_enter Try.func58, Try.ntmps58
    go_wp2
    go_loopw [10, 11] (Sch1 key w F (.slice (some ⟨b, o, none⟩) n c) xs a m e z) (fun i j _ => (intOf j).toNat - (intOf i).toNat)
    case atStart => exact ⟨m, e, rfl, rfl, Nat.le_refl _, by omega, Nat.le_refl _, HR.out, Upd.refl _ _, fun p x h1 h2 => by omega, fun p x h1 h2 => by omega⟩
    case round =>
      clear HR
      obtain ⟨i, j, rfl, rfl, hi, hij, hj, hr, hu, hlo, hhi⟩ := hrel
      by_cases hlt : i < j
      · obtain ⟨h, hh⟩ : ∃ h, h = (i + j) / 2 := ⟨_, rfl⟩
        have hh1 : i ≤ h := by omega
        have hh2 : h < j := by omega
        obtain ⟨sm, hsm⟩ : ∃ sm, sm = i + j := ⟨_, rfl⟩
        have q1 : (i : Int) + (j : Int) = (sm : Int) := by omega
        have q2 : (sm : Int) / 2 = (h : Int) := by omega
        have q3 : IntKind.i64.wrap (sm : Int) = (sm : Int) := IntWalk.i64_in _ (by omega)
        have q4 : IntKind.u64.wrap (sm : Int) = (sm : Int) := by rw [IntKind.wrap_u64]; omega
        have q5 : IntKind.i64.wrap (h : Int) = (h : Int) := IntWalk.i64_in _ (by omega)
        have hsm2 : sm ≤ 2000000 := by omega
        have hhn : h < n := by omega
        clear hh hsm
        obtain ⟨x, hx⟩ : ∃ x, xs[h]? = some x := by have := HL.out; exact ⟨xs[h]'(by omega), by simp⟩
        obtain ⟨y, hy⟩ : ∃ y, xs[a]? = some y := ⟨z, HZ.out⟩
        have hyz : y = z := by have := HZ.out; rw [hy] at this; cases this; rfl
        have HX := Lib.hid hx
        have HY := Lib.hid hy
        have HR := Lib.hid hr
        have HU := Lib.hid hu
        have HLO := Lib.hid hlo
        have HHI := Lib.hid hhi
        have HYZ := Lib.hid hyz
        have han : a < n := by omega
        clear hx hy hr hu hlo hhi hyz
        go_wp2
        have HCMP := Lib.hid (fun w => HC.out w x y (HS.out x (List.mem_of_getElem? HX.out)) (HS.out y (List.mem_of_getElem? HY.out)))
        have g0 := row_cell HR.out HX.out
        have g1 := row_cell HR.out HY.out
        have hbl2 := row_lt HR.out
        refine wp_region_noPanic ?_
        refine wp_region_N [10] (fun w1 => w1.cell? ⟨b, o + h, none⟩ = some (.complex .f64 x.1 x.2) ∧ w1.cell? ⟨b, o + a, none⟩ = some (.complex .f64 y.1 y.2)) (by kernel_rfl) ⟨g0, g1⟩ ?_
        intro hS0
        (refine wpAnyN_takeU 0 (oi := ?oi74) (v := ?v74) ?hi74 (by kernel_rfl) (fun _ _ _ h => h) ?hy74 ?hk74; (case hi74 => (simp only [List.getElem?_toArray, List.getElem?_cons_zero, List.getElem?_cons_succ]; try rfl)); (case hy74 => (first | (refine Or.inl ⟨by rfl, ?_⟩; intro wq _; (try go_simp); (try with_reducible rfl); done) | exact Or.inr ⟨by rfl, rfl⟩)); simp only [Act.put, List.setIfInBounds_toArray, List.set_cons_zero, List.set_cons_succ]); (refine wpAnyN_takeU 1 (oi := ?oi75) (v := ?v75) ?hi75 (by kernel_rfl) (fun _ _ _ h => h) ?hy75 ?hk75; (case hi75 => (simp only [List.getElem?_toArray, List.getElem?_cons_zero, List.getElem?_cons_succ]; try rfl)); (case hy75 => (first | (refine Or.inl ⟨by rfl, ?_⟩; intro wq _; (try go_simp); (try with_reducible rfl); done) | exact Or.inr ⟨by rfl, rfl⟩)); simp only [Act.put, List.setIfInBounds_toArray, List.set_cons_zero, List.set_cons_succ]); (refine wpAnyN_takeU 2 (oi := ?oi76) (v := ?v76) ?hi76 (by kernel_rfl) (fun _ _ _ h => h) ?hy76 ?hk76; (case hi76 => (simp only [List.getElem?_toArray, List.getElem?_cons_zero, List.getElem?_cons_succ]; try rfl)); (case hy76 => (first | (refine Or.inl ⟨by rfl, ?_⟩; intro wq _; (try go_simp); (try with_reducible rfl); done) | exact Or.inr ⟨by rfl, rfl⟩)); simp only [Act.put, List.setIfInBounds_toArray, List.set_cons_zero, List.set_cons_succ]); (refine wpAnyN_takeU 3 (oi := ?oi77) (v := ?v77) ?hi77 (by kernel_rfl) (fun _ _ _ h => h) ?hy77 ?hk77; (case hi77 => (simp only [List.getElem?_toArray, List.getElem?_cons_zero, List.getElem?_cons_succ]; try rfl)); (case hy77 => (first | (refine Or.inl ⟨by rfl, ?_⟩; intro wq _; (try go_simp); (try with_reducible rfl); done) | exact Or.inr ⟨by rfl, rfl⟩)); simp only [Act.put, List.setIfInBounds_toArray, List.set_cons_zero, List.set_cons_succ])
        (refine wpAnyN_take 4 (oi := ?oi22) (v := ?v22) ?hi22 (by kernel_rfl) (fun _ _ _ h => h) (by assumption) ?hy22 ?hk22; (case hi22 => (simp only [List.getElem?_toArray, List.getElem?_cons_zero, List.getElem?_cons_succ]; try rfl)); (case hy22 => (first | (refine Or.inl ⟨by rfl, ?_⟩; intro wq hSw; (try dsimp only at hSw); go_split_ands; (try go_simp); (try with_reducible rfl); done) | exact Or.inr ⟨by rfl, rfl⟩)); simp only [Act.put, List.setIfInBounds_toArray, List.set_cons_zero, List.set_cons_succ])
        (refine wpAnyN_takeU 5 (oi := ?oi78) (v := ?v78) ?hi78 (by kernel_rfl) (fun _ _ _ h => h) ?hy78 ?hk78; (case hi78 => (simp only [List.getElem?_toArray, List.getElem?_cons_zero, List.getElem?_cons_succ]; try rfl)); (case hy78 => (first | (refine Or.inl ⟨by rfl, ?_⟩; intro wq _; (try go_simp); (try with_reducible rfl); done) | exact Or.inr ⟨by rfl, rfl⟩)); simp only [Act.put, List.setIfInBounds_toArray, List.set_cons_zero, List.set_cons_succ]); (refine wpAnyN_takeU 6 (oi := ?oi79) (v := ?v79) ?hi79 (by kernel_rfl) (fun _ _ _ h => h) ?hy79 ?hk79; (case hi79 => (simp only [List.getElem?_toArray, List.getElem?_cons_zero, List.getElem?_cons_succ]; try rfl)); (case hy79 => (first | (refine Or.inl ⟨by rfl, ?_⟩; intro wq _; (try go_simp); (try with_reducible rfl); done) | exact Or.inr ⟨by rfl, rfl⟩)); simp only [Act.put, List.setIfInBounds_toArray, List.set_cons_zero, List.set_cons_succ]); (refine wpAnyN_takeU 7 (oi := ?oi80) (v := ?v80) ?hi80 (by kernel_rfl) (fun _ _ _ h => h) ?hy80 ?hk80; (case hi80 => (simp only [List.getElem?_toArray, List.getElem?_cons_zero, List.getElem?_cons_succ]; try rfl)); (case hy80 => (first | (refine Or.inl ⟨by rfl, ?_⟩; intro wq _; (try go_simp); (try with_reducible rfl); done) | exact Or.inr ⟨by rfl, rfl⟩)); simp only [Act.put, List.setIfInBounds_toArray, List.set_cons_zero, List.set_cons_succ])
        (refine wpAnyN_take 8 (oi := ?oi23) (v := ?v23) ?hi23 (by kernel_rfl) (fun _ _ _ h => h) (by assumption) ?hy23 ?hk23; (case hi23 => (simp only [List.getElem?_toArray, List.getElem?_cons_zero, List.getElem?_cons_succ]; try rfl)); (case hy23 => (first | (refine Or.inl ⟨by rfl, ?_⟩; intro wq hSw; (try dsimp only at hSw); go_split_ands; (try go_simp); (try with_reducible rfl); done) | exact Or.inr ⟨by rfl, rfl⟩)); simp only [Act.put, List.setIfInBounds_toArray, List.set_cons_zero, List.set_cons_succ])
        (refine wpAnyN_all [9] (by kernel_rfl) ?_; refine AllN.cons (by simp only [List.getElem?_toArray, List.getElem?_cons_zero, List.getElem?_cons_succ]; try rfl) (fun K hK => ?_) AllN.nil)
        go_simp
        refine (HCMP.out _).mono ?_
        rintro en w2 ⟨rfl, hu2⟩
        have hu2' : Upd NoB wr w2 := (Upd.drew NoB wr).trans hu2
        refine hK.out _ _ (fun _ => ⟨cell_stay hu2' g0 hbl2, cell_stay hu2' g1 hbl2⟩) ?_
        clear hK K hS0
        (try simp only [Act.put, List.setIfInBounds_toArray, List.set_cons_zero, List.set_cons_succ])
        have HR2 := Lib.hid (Row.upd HR.out hu2' (fun _ _ h => h))
        have HU2 := Lib.hid (Upd.trans HU.out (hu2'.mono (fun _ _ h => h.elim)))
        clear g0 g1 hu2 hu2' HCMP
        have hlt2 := ordI_lt (key x) (key y)
        generalize ordI (compare (key x) (key y)) = r at hlt2
        obtain ⟨bb, hbb⟩ : ∃ bb, bb = decide (key x < key y) := ⟨_, rfl⟩
        rw [← hbb] at hlt2
        have HBB := Lib.hid hbb
        clear hbb
        skip
        (refine wpAnyN_all [10] (by kernel_rfl) ?_; refine AllN.cons (by simp only [List.getElem?_toArray, List.getElem?_cons_zero, List.getElem?_cons_succ]; try rfl) (fun K hK => ?_) AllN.nil)
        go_simp
        refine hK.out _ _ (fun h => absurd h (by decide)) ?_
        clear hK K
        (try simp only [Act.put, List.setIfInBounds_toArray, List.set_cons_zero, List.set_cons_succ])
        refine wpAnyN_done (by kernel_rfl) ?_
        refine NoPanic.normal ?_
        by_cases hxy : key x < key y
        · obtain rfl : bb = true := by rw [HBB.out]; simpa using hxy
          clear hlt2 HBB
          go_wp2
          refine ⟨⟨h + 1, j, by go_num, rfl, by omega, by omega, hj, HR2.out, HU2.out, fun p u p1 p2 hu => ?_, HHI.out⟩, by simp [intOf]; omega⟩
          by_cases e1 : p = h
          · subst e1
            have := HX.out; rw [hu] at this; cases this
            rw [← HYZ.out]; omega
          · by_cases e2 : p < i
            · exact HLO.out p u p1 e2 hu
            · have := HS2.out p h u x p1 (by omega) (by omega) hu HX.out
              rw [← HYZ.out]; omega
        · obtain rfl : bb = false := by rw [HBB.out]; simpa using hxy
          clear hlt2 HBB
          go_wp2
          refine ⟨⟨i, h, rfl, rfl, hi, by omega, by omega, HR2.out, HU2.out, HLO.out, fun p u p1 p2 hu => ?_⟩, by simp [intOf]; omega⟩
          by_cases e1 : p = h
          · subst e1
            have := HX.out; rw [hu] at this; cases this
            rw [← HYZ.out]; omega
          · by_cases e2 : j ≤ p
            · exact HHI.out p u e2 p2 hu
            · have := HS2.out h p x u (by omega) (by omega) p2 HX.out hu
              rw [← HYZ.out]; omega
      · have hije : j = i := by omega
        subst hije
        have HR := Lib.hid hr
        have HU := Lib.hid hu
        have HLO := Lib.hid hlo
        have HHI := Lib.hid hhi
        clear hr hu hlo hhi
        obtain ⟨i1, hi1⟩ : ∃ i1, j = i1 + 1 := ⟨j - 1, by omega⟩
        have q1 : (j : Int) - 1 = (i1 : Int) := by omega
        have q1w : IntKind.i64.wrap (i1 : Int) = (i1 : Int) := IntWalk.i64_in _ (by omega)
        have hai : a ≤ i1 := by have := HMA.out; omega
        have hin : i1 < n := by omega
        have HI1 := Lib.hid hi1
        clear hi1
        go_wp2
        go_loopw [13] (UpRel w F (.slice (some ⟨b, o, none⟩) n c) xs a i1) (fun i _ => i1 - (intOf i).toNat)
        case atStart => exact ⟨a, xs, rfl, Nat.le_refl _, hai, HR.out, HU.out, List.Perm.refl _, upv_start a xs⟩
        case round =>
          clear HR HU
          obtain ⟨k, ys, rfl, hk1, hk2, hr, hu, hp, hg⟩ := hrel
          by_cases hlt2 : k < i1
          · have hl0 := HL.out
            have hpl := hp.length_eq
            obtain ⟨y, hy⟩ : ∃ y, ys[k]? = some y := ⟨ys[k]'(by omega), by simp⟩
            obtain ⟨x, hx⟩ : ∃ x, ys[k + 1]? = some x := ⟨ys[k + 1]'(by omega), by simp⟩
            have hup := fun p => upv_step hk1 hg hy hx p
            have g0 := row_cell hr hx
            have g1 := row_cell hr hy
            obtain ⟨k1, hk1e⟩ : ∃ k1, k1 = k + 1 := ⟨_, rfl⟩
            rw [← hk1e] at hx hup g0
            have q2 : (k : Int) + 1 = (k1 : Int) := by omega
            have q2w : IntKind.i64.wrap (k1 : Int) = (k1 : Int) := IntWalk.i64_in _ (by omega)
            have hkn : k < n := by omega
            have hk1n : k1 < n := by omega
            have HX := Lib.hid hx
            have HY := Lib.hid hy
            have HR := Lib.hid hr
            have HU := Lib.hid hu
            have HP := Lib.hid hp
            have HUP := Lib.hid hup
            have HK1 := Lib.hid hk1e
            clear hr hu hp hg hx hy hl0 hpl hup hk1e
            go_wp2
            have HRD := Lib.hid (Row.upd HR.out (Upd.drew NoB wr) (fun _ _ h => h))
            have HUD := Lib.hid (Upd.drew F wr)
            clear g0 g1
            have g0 := row_cell HRD.out HX.out
            have g1 := row_cell HRD.out HY.out
            refine wp_region_noPanic ?_
            refine wp_region_N [15, 17] (fun w1 => w1.cell? ⟨b, o + k1, none⟩ = some (.complex .f64 x.1 x.2) ∧ w1.cell? ⟨b, o + k, none⟩ = some (.complex .f64 y.1 y.2)) (by kernel_rfl) ⟨g0, g1⟩ ?_
            intro hS0
            generalize wr.drew = wd at HRD HUD g0 g1 hS0 ⊢
            have f0 := row_frozen HRD.out (o + k)
            have f1 := row_frozen HRD.out (o + k1)
            (refine wpAnyN_takeU 0 (oi := ?oi81) (v := ?v81) ?hi81 (by kernel_rfl) (fun _ _ _ h => h) ?hy81 ?hk81; (case hi81 => (simp only [List.getElem?_toArray, List.getElem?_cons_zero, List.getElem?_cons_succ]; try rfl)); (case hy81 => (first | (refine Or.inl ⟨by rfl, ?_⟩; intro wq _; (try go_simp); (try with_reducible rfl); done) | exact Or.inr ⟨by rfl, rfl⟩)); simp only [Act.put, List.setIfInBounds_toArray, List.set_cons_zero, List.set_cons_succ]); (refine wpAnyN_takeU 1 (oi := ?oi82) (v := ?v82) ?hi82 (by kernel_rfl) (fun _ _ _ h => h) ?hy82 ?hk82; (case hi82 => (simp only [List.getElem?_toArray, List.getElem?_cons_zero, List.getElem?_cons_succ]; try rfl)); (case hy82 => (first | (refine Or.inl ⟨by rfl, ?_⟩; intro wq _; (try go_simp); (try with_reducible rfl); done) | exact Or.inr ⟨by rfl, rfl⟩)); simp only [Act.put, List.setIfInBounds_toArray, List.set_cons_zero, List.set_cons_succ]); (refine wpAnyN_takeU 2 (oi := ?oi83) (v := ?v83) ?hi83 (by kernel_rfl) (fun _ _ _ h => h) ?hy83 ?hk83; (case hi83 => (simp only [List.getElem?_toArray, List.getElem?_cons_zero, List.getElem?_cons_succ]; try rfl)); (case hy83 => (first | (refine Or.inl ⟨by rfl, ?_⟩; intro wq _; (try go_simp); (try with_reducible rfl); done) | exact Or.inr ⟨by rfl, rfl⟩)); simp only [Act.put, List.setIfInBounds_toArray, List.set_cons_zero, List.set_cons_succ]); (refine wpAnyN_takeU 3 (oi := ?oi84) (v := ?v84) ?hi84 (by kernel_rfl) (fun _ _ _ h => h) ?hy84 ?hk84; (case hi84 => (simp only [List.getElem?_toArray, List.getElem?_cons_zero, List.getElem?_cons_succ]; try rfl)); (case hy84 => (first | (refine Or.inl ⟨by rfl, ?_⟩; intro wq _; (try go_simp); (try with_reducible rfl); done) | exact Or.inr ⟨by rfl, rfl⟩)); simp only [Act.put, List.setIfInBounds_toArray, List.set_cons_zero, List.set_cons_succ]); (refine wpAnyN_takeU 4 (oi := ?oi85) (v := ?v85) ?hi85 (by kernel_rfl) (fun _ _ _ h => h) ?hy85 ?hk85; (case hi85 => (simp only [List.getElem?_toArray, List.getElem?_cons_zero, List.getElem?_cons_succ]; try rfl)); (case hy85 => (first | (refine Or.inl ⟨by rfl, ?_⟩; intro wq _; (try go_simp); (try with_reducible rfl); done) | exact Or.inr ⟨by rfl, rfl⟩)); simp only [Act.put, List.setIfInBounds_toArray, List.set_cons_zero, List.set_cons_succ]); (refine wpAnyN_takeU 5 (oi := ?oi86) (v := ?v86) ?hi86 (by kernel_rfl) (fun _ _ _ h => h) ?hy86 ?hk86; (case hi86 => (simp only [List.getElem?_toArray, List.getElem?_cons_zero, List.getElem?_cons_succ]; try rfl)); (case hy86 => (first | (refine Or.inl ⟨by rfl, ?_⟩; intro wq _; (try go_simp); (try with_reducible rfl); done) | exact Or.inr ⟨by rfl, rfl⟩)); simp only [Act.put, List.setIfInBounds_toArray, List.set_cons_zero, List.set_cons_succ]); (refine wpAnyN_takeU 6 (oi := ?oi87) (v := ?v87) ?hi87 (by kernel_rfl) (fun _ _ _ h => h) ?hy87 ?hk87; (case hi87 => (simp only [List.getElem?_toArray, List.getElem?_cons_zero, List.getElem?_cons_succ]; try rfl)); (case hy87 => (first | (refine Or.inl ⟨by rfl, ?_⟩; intro wq _; (try go_simp); (try with_reducible rfl); done) | exact Or.inr ⟨by rfl, rfl⟩)); simp only [Act.put, List.setIfInBounds_toArray, List.set_cons_zero, List.set_cons_succ]); (refine wpAnyN_takeU 7 (oi := ?oi88) (v := ?v88) ?hi88 (by kernel_rfl) (fun _ _ _ h => h) ?hy88 ?hk88; (case hi88 => (simp only [List.getElem?_toArray, List.getElem?_cons_zero, List.getElem?_cons_succ]; try rfl)); (case hy88 => (first | (refine Or.inl ⟨by rfl, ?_⟩; intro wq _; (try go_simp); (try with_reducible rfl); done) | exact Or.inr ⟨by rfl, rfl⟩)); simp only [Act.put, List.setIfInBounds_toArray, List.set_cons_zero, List.set_cons_succ]); (refine wpAnyN_takeU 8 (oi := ?oi89) (v := ?v89) ?hi89 (by kernel_rfl) (fun _ _ _ h => h) ?hy89 ?hk89; (case hi89 => (simp only [List.getElem?_toArray, List.getElem?_cons_zero, List.getElem?_cons_succ]; try rfl)); (case hy89 => (first | (refine Or.inl ⟨by rfl, ?_⟩; intro wq _; (try go_simp); (try with_reducible rfl); done) | exact Or.inr ⟨by rfl, rfl⟩)); simp only [Act.put, List.setIfInBounds_toArray, List.set_cons_zero, List.set_cons_succ])
            (refine wpAnyN_take 9 (oi := ?oi24) (v := ?v24) ?hi24 (by kernel_rfl) (fun _ _ _ h => h) (by assumption) ?hy24 ?hk24; (case hi24 => (simp only [List.getElem?_toArray, List.getElem?_cons_zero, List.getElem?_cons_succ]; try rfl)); (case hy24 => (first | (refine Or.inl ⟨by rfl, ?_⟩; intro wq hSw; (try dsimp only at hSw); go_split_ands; (try go_simp); (try with_reducible rfl); done) | exact Or.inr ⟨by rfl, rfl⟩)); simp only [Act.put, List.setIfInBounds_toArray, List.set_cons_zero, List.set_cons_succ])
            (refine wpAnyN_takeU 10 (oi := ?oi90) (v := ?v90) ?hi90 (by kernel_rfl) (fun _ _ _ h => h) ?hy90 ?hk90; (case hi90 => (simp only [List.getElem?_toArray, List.getElem?_cons_zero, List.getElem?_cons_succ]; try rfl)); (case hy90 => (first | (refine Or.inl ⟨by rfl, ?_⟩; intro wq _; (try go_simp); (try with_reducible rfl); done) | exact Or.inr ⟨by rfl, rfl⟩)); simp only [Act.put, List.setIfInBounds_toArray, List.set_cons_zero, List.set_cons_succ]); (refine wpAnyN_takeU 11 (oi := ?oi91) (v := ?v91) ?hi91 (by kernel_rfl) (fun _ _ _ h => h) ?hy91 ?hk91; (case hi91 => (simp only [List.getElem?_toArray, List.getElem?_cons_zero, List.getElem?_cons_succ]; try rfl)); (case hy91 => (first | (refine Or.inl ⟨by rfl, ?_⟩; intro wq _; (try go_simp); (try with_reducible rfl); done) | exact Or.inr ⟨by rfl, rfl⟩)); simp only [Act.put, List.setIfInBounds_toArray, List.set_cons_zero, List.set_cons_succ]); (refine wpAnyN_takeU 12 (oi := ?oi92) (v := ?v92) ?hi92 (by kernel_rfl) (fun _ _ _ h => h) ?hy92 ?hk92; (case hi92 => (simp only [List.getElem?_toArray, List.getElem?_cons_zero, List.getElem?_cons_succ]; try rfl)); (case hy92 => (first | (refine Or.inl ⟨by rfl, ?_⟩; intro wq _; (try go_simp); (try with_reducible rfl); done) | exact Or.inr ⟨by rfl, rfl⟩)); simp only [Act.put, List.setIfInBounds_toArray, List.set_cons_zero, List.set_cons_succ])
            (refine wpAnyN_take 13 (oi := ?oi25) (v := ?v25) ?hi25 (by kernel_rfl) (fun _ _ _ h => h) (by assumption) ?hy25 ?hk25; (case hi25 => (simp only [List.getElem?_toArray, List.getElem?_cons_zero, List.getElem?_cons_succ]; try rfl)); (case hy25 => (first | (refine Or.inl ⟨by rfl, ?_⟩; intro wq hSw; (try dsimp only at hSw); go_split_ands; (try go_simp); (try with_reducible rfl); done) | exact Or.inr ⟨by rfl, rfl⟩)); simp only [Act.put, List.setIfInBounds_toArray, List.set_cons_zero, List.set_cons_succ])
            (refine wpAnyN_takeU 14 (oi := ?oi93) (v := ?v93) ?hi93 (by kernel_rfl) (fun _ _ _ h => h) ?hy93 ?hk93; (case hi93 => (simp only [List.getElem?_toArray, List.getElem?_cons_zero, List.getElem?_cons_succ]; try rfl)); (case hy93 => (first | (refine Or.inl ⟨by rfl, ?_⟩; intro wq _; (try go_simp); (try with_reducible rfl); done) | exact Or.inr ⟨by rfl, rfl⟩)); simp only [Act.put, List.setIfInBounds_toArray, List.set_cons_zero, List.set_cons_succ])
            (refine wpAnyN_all [15] (by kernel_rfl) ?_; refine AllN.cons (by simp only [List.getElem?_toArray, List.getElem?_cons_zero, List.getElem?_cons_succ]; try rfl) (fun K hK => ?_) AllN.nil)
            go_simp
            refine hK.out _ _ (fun h => absurd h (by decide)) ?_
            clear hK K hS0
            (try simp only [Act.put, List.setIfInBounds_toArray, List.set_cons_zero, List.set_cons_succ])
            (refine wpAnyN_takeU 16 (oi := ?oi94) (v := ?v94) ?hi94 (by kernel_rfl) (fun _ _ _ h => h) ?hy94 ?hk94; (case hi94 => (simp only [List.getElem?_toArray, List.getElem?_cons_zero, List.getElem?_cons_succ]; try rfl)); (case hy94 => (first | (refine Or.inl ⟨by rfl, ?_⟩; intro wq _; (try go_simp); (try with_reducible rfl); done) | exact Or.inr ⟨by rfl, rfl⟩)); simp only [Act.put, List.setIfInBounds_toArray, List.set_cons_zero, List.set_cons_succ])
            have hsw := row_swap HRD.out HY.out HX.out
            obtain ⟨u2, hu2⟩ : ∃ u, (wd.setCell ⟨b, o + k, none⟩ (.complex .f64 x.1 x.2)).cell? ⟨b, o + k1, none⟩ = some u := row_still HRD.out HY.out HX.out
            have f2 : (wd.setCell ⟨b, o + k, none⟩ (.complex .f64 x.1 x.2)).frozen? ⟨b, o + k1, none⟩ = false := row_frozen (row_put HRD.out HY.out) _
            (refine wpAnyN_all [17] (by kernel_rfl) ?_; refine AllN.cons (by simp only [List.getElem?_toArray, List.getElem?_cons_zero, List.getElem?_cons_succ]; try rfl) (fun K hK => ?_) AllN.nil)
            go_simp
            refine hK.out _ _ (fun h => absurd h (by decide)) ?_
            clear hK K
            (try simp only [Act.put, List.setIfInBounds_toArray, List.set_cons_zero, List.set_cons_succ])
            refine wpAnyN_done (by kernel_rfl) ?_
            refine NoPanic.normal ?_
            generalize (wd.setCell ⟨b, o + k, none⟩ (.complex .f64 x.1 x.2)).setCell ⟨b, o + k1, none⟩ (.complex .f64 y.1 y.2) = ws at hsw ⊢
            have HSW := Lib.hid (show Row cE tC ws F (.slice (some ⟨b, o, none⟩) n c) _ ∧ Upd F wr ws from ⟨hsw.1, HUD.out.trans hsw.2⟩)
            clear hsw g0 g1 f0 f1 f2 hu2 HRD HUD u2
            go_wp2
            have hsz := HSW.out
            have hK1 := HK1.out
            exact ⟨⟨k1, _, rfl, by omega, by omega, hsz.1, HU.out.trans hsz.2, (swp_perm HY.out HX.out).trans HP.out, HUP.out⟩, by simp [intOf]; omega⟩
          · have hke : k = i1 := by omega
            subst hke
            have hm := HMA.out
            have hI := HI1.out
            have hZ := HZ.out
            have hend := up_end (key := key) (a := a) (e := e) (i := j) (xs := xs) (ys := ys) (by omega) hj (by have := HL.out; omega) (by rw [← hm]; exact HS2.out) hp (by rw [hI]; exact hg)
              (fun p x y p1 p2 hx hy => by rw [hZ] at hy; cases hy; exact HLO.out p x (by omega) p2 hx) (fun p x y p1 p2 hx hy => by rw [hZ] at hy; cases hy; exact HHI.out p x p1 p2 hx)
            have hfin : SortPost F w (.slice (some ⟨b, o, none⟩) n c) xs a e (SrtR key a e) (.returned (.tuple #[])) wr := ⟨rfl, ys, hr, hu, hend.1, hend.2⟩
            have HF := Lib.hid hfin
            clear hfin hr hu hp hg hend hm hI hZ
            go_wp2
            go_end0
            exact HF.out
  · obtain ⟨d1, hd1⟩ : ∃ d1, d1 = m - a := ⟨_, rfl⟩
    have qm : (m : Int) - (a : Int) = (d1 : Int) := by omega
    have qm1 : ((d1 : Int) == 1) = false := by simp; omega
    have HD1 := Lib.hid hd1
    have HMA := Lib.hid hma
    clear hma hd1
    by_cases hem : e = m + 1
    · have qe : (e : Int) - (m : Int) = 1 := by omega
      have HEM := Lib.hid hem
      clear hem
      obtain ⟨z, hz⟩ : ∃ z, xs[m]? = some z := by have := HL.out; exact ⟨xs[m]'(by omega), by simp⟩
      have HZ := Lib.hid hz
      clear hz
      go_enter Try.func58, Try.ntmps58
      go_wp2
      go_loopw [14, 15] (Sch1 key w F (.slice (some ⟨b, o, none⟩) n c) xs a a m z) (fun i j _ => (intOf j).toNat - (intOf i).toNat)
      case atStart => exact ⟨a, m, rfl, rfl, Nat.le_refl _, by omega, Nat.le_refl _, HR.out, Upd.refl _ _, fun p x h1 h2 => by omega, fun p x h1 h2 => by omega⟩
      case round =>
        clear HR
        obtain ⟨i, j, rfl, rfl, hi, hij, hj, hr, hu, hlo, hhi⟩ := hrel
        by_cases hlt : i < j
        · obtain ⟨h, hh⟩ : ∃ h, h = (i + j) / 2 := ⟨_, rfl⟩
          have hh1 : i ≤ h := by omega
          have hh2 : h < j := by omega
          obtain ⟨sm, hsm⟩ : ∃ sm, sm = i + j := ⟨_, rfl⟩
          have q1 : (i : Int) + (j : Int) = (sm : Int) := by omega
          have q2 : (sm : Int) / 2 = (h : Int) := by omega
          have q3 : IntKind.i64.wrap (sm : Int) = (sm : Int) := IntWalk.i64_in _ (by omega)
          have q4 : IntKind.u64.wrap (sm : Int) = (sm : Int) := by rw [IntKind.wrap_u64]; omega
          have q5 : IntKind.i64.wrap (h : Int) = (h : Int) := IntWalk.i64_in _ (by omega)
          have hsm2 : sm ≤ 2000000 := by omega
          have hhn : h < n := by omega
          clear hh hsm
          obtain ⟨y, hy⟩ : ∃ y, xs[h]? = some y := by have := HL.out; exact ⟨xs[h]'(by omega), by simp⟩
          obtain ⟨x, hx⟩ : ∃ x, xs[m]? = some x := ⟨z, HZ.out⟩
          have hxz : x = z := by have := HZ.out; rw [hx] at this; cases this; rfl
          have HX := Lib.hid hx
          have HY := Lib.hid hy
          have HR := Lib.hid hr
          have HU := Lib.hid hu
          have HLO := Lib.hid hlo
          have HHI := Lib.hid hhi
          have HXZ := Lib.hid hxz
          have hmn : m < n := by omega
          clear hx hy hr hu hlo hhi hxz
          go_wp2
          have HCMP := Lib.hid (fun w => HC.out w x y (HS.out x (List.mem_of_getElem? HX.out)) (HS.out y (List.mem_of_getElem? HY.out)))
          have g0 := row_cell HR.out HX.out
          have g1 := row_cell HR.out HY.out
          have hbl2 := row_lt HR.out
          refine wp_region_noPanic ?_
          refine wp_region_N [11] (fun w1 => w1.cell? ⟨b, o + m, none⟩ = some (.complex .f64 x.1 x.2) ∧ w1.cell? ⟨b, o + h, none⟩ = some (.complex .f64 y.1 y.2)) (by kernel_rfl) ⟨g0, g1⟩ ?_
          intro hS0
          (refine wpAnyN_takeU 0 (oi := ?oi95) (v := ?v95) ?hi95 (by kernel_rfl) (fun _ _ _ h => h) ?hy95 ?hk95; (case hi95 => (simp only [List.getElem?_toArray, List.getElem?_cons_zero, List.getElem?_cons_succ]; try rfl)); (case hy95 => (first | (refine Or.inl ⟨by rfl, ?_⟩; intro wq _; (try go_simp); (try with_reducible rfl); done) | exact Or.inr ⟨by rfl, rfl⟩)); simp only [Act.put, List.setIfInBounds_toArray, List.set_cons_zero, List.set_cons_succ]); (refine wpAnyN_takeU 1 (oi := ?oi96) (v := ?v96) ?hi96 (by kernel_rfl) (fun _ _ _ h => h) ?hy96 ?hk96; (case hi96 => (simp only [List.getElem?_toArray, List.getElem?_cons_zero, List.getElem?_cons_succ]; try rfl)); (case hy96 => (first | (refine Or.inl ⟨by rfl, ?_⟩; intro wq _; (try go_simp); (try with_reducible rfl); done) | exact Or.inr ⟨by rfl, rfl⟩)); simp only [Act.put, List.setIfInBounds_toArray, List.set_cons_zero, List.set_cons_succ]); (refine wpAnyN_takeU 2 (oi := ?oi97) (v := ?v97) ?hi97 (by kernel_rfl) (fun _ _ _ h => h) ?hy97 ?hk97; (case hi97 => (simp only [List.getElem?_toArray, List.getElem?_cons_zero, List.getElem?_cons_succ]; try rfl)); (case hy97 => (first | (refine Or.inl ⟨by rfl, ?_⟩; intro wq _; (try go_simp); (try with_reducible rfl); done) | exact Or.inr ⟨by rfl, rfl⟩)); simp only [Act.put, List.setIfInBounds_toArray, List.set_cons_zero, List.set_cons_succ]); (refine wpAnyN_takeU 3 (oi := ?oi98) (v := ?v98) ?hi98 (by kernel_rfl) (fun _ _ _ h => h) ?hy98 ?hk98; (case hi98 => (simp only [List.getElem?_toArray, List.getElem?_cons_zero, List.getElem?_cons_succ]; try rfl)); (case hy98 => (first | (refine Or.inl ⟨by rfl, ?_⟩; intro wq _; (try go_simp); (try with_reducible rfl); done) | exact Or.inr ⟨by rfl, rfl⟩)); simp only [Act.put, List.setIfInBounds_toArray, List.set_cons_zero, List.set_cons_succ])
          (refine wpAnyN_take 4 (oi := ?oi26) (v := ?v26) ?hi26 (by kernel_rfl) (fun _ _ _ h => h) (by assumption) ?hy26 ?hk26; (case hi26 => (simp only [List.getElem?_toArray, List.getElem?_cons_zero, List.getElem?_cons_succ]; try rfl)); (case hy26 => (first | (refine Or.inl ⟨by rfl, ?_⟩; intro wq hSw; (try dsimp only at hSw); go_split_ands; (try go_simp); (try with_reducible rfl); done) | exact Or.inr ⟨by rfl, rfl⟩)); simp only [Act.put, List.setIfInBounds_toArray, List.set_cons_zero, List.set_cons_succ])
          (refine wpAnyN_takeU 5 (oi := ?oi99) (v := ?v99) ?hi99 (by kernel_rfl) (fun _ _ _ h => h) ?hy99 ?hk99; (case hi99 => (simp only [List.getElem?_toArray, List.getElem?_cons_zero, List.getElem?_cons_succ]; try rfl)); (case hy99 => (first | (refine Or.inl ⟨by rfl, ?_⟩; intro wq _; (try go_simp); (try with_reducible rfl); done) | exact Or.inr ⟨by rfl, rfl⟩)); simp only [Act.put, List.setIfInBounds_toArray, List.set_cons_zero, List.set_cons_succ]); (refine wpAnyN_takeU 6 (oi := ?oi100) (v := ?v100) ?hi100 (by kernel_rfl) (fun _ _ _ h => h) ?hy100 ?hk100; (case hi100 => (simp only [List.getElem?_toArray, List.getElem?_cons_zero, List.getElem?_cons_succ]; try rfl)); (case hy100 => (first | (refine Or.inl ⟨by rfl, ?_⟩; intro wq _; (try go_simp); (try with_reducible rfl); done) | exact Or.inr ⟨by rfl, rfl⟩)); simp only [Act.put, List.setIfInBounds_toArray, List.set_cons_zero, List.set_cons_succ]); (refine wpAnyN_takeU 7 (oi := ?oi101) (v := ?v101) ?hi101 (by kernel_rfl) (fun _ _ _ h => h) ?hy101 ?hk101; (case hi101 => (simp only [List.getElem?_toArray, List.getElem?_cons_zero, List.getElem?_cons_succ]; try rfl)); (case hy101 => (first | (refine Or.inl ⟨by rfl, ?_⟩; intro wq _; (try go_simp); (try with_reducible rfl); done) | exact Or.inr ⟨by rfl, rfl⟩)); simp only [Act.put, List.setIfInBounds_toArray, List.set_cons_zero, List.set_cons_succ])
          (refine wpAnyN_take 8 (oi := ?oi27) (v := ?v27) ?hi27 (by kernel_rfl) (fun _ _ _ h => h) (by assumption) ?hy27 ?hk27; (case hi27 => (simp only [List.getElem?_toArray, List.getElem?_cons_zero, List.getElem?_cons_succ]; try rfl)); (case hy27 => (first | (refine Or.inl ⟨by rfl, ?_⟩; intro wq hSw; (try dsimp only at hSw); go_split_ands; (try go_simp); (try with_reducible rfl); done) | exact Or.inr ⟨by rfl, rfl⟩)); simp only [Act.put, List.setIfInBounds_toArray, List.set_cons_zero, List.set_cons_succ])
          (refine wpAnyN_all [9] (by kernel_rfl) ?_; refine AllN.cons (by simp only [List.getElem?_toArray, List.getElem?_cons_zero, List.getElem?_cons_succ]; try rfl) (fun K hK => ?_) AllN.nil)
          go_simp
          refine (HCMP.out _).mono ?_
          rintro en w2 ⟨rfl, hu2⟩
          have hu2' : Upd NoB wr w2 := (Upd.drew NoB wr).trans hu2
          refine hK.out _ _ (fun _ => ⟨cell_stay hu2' g0 hbl2, cell_stay hu2' g1 hbl2⟩) ?_
          clear hK K hS0
          (try simp only [Act.put, List.setIfInBounds_toArray, List.set_cons_zero, List.set_cons_succ])
          have HR2 := Lib.hid (Row.upd HR.out hu2' (fun _ _ h => h))
          have HU2 := Lib.hid (Upd.trans HU.out (hu2'.mono (fun _ _ h => h.elim)))
          clear g0 g1 hu2 hu2' HCMP
          have hlt2 := ordI_lt (key x) (key y)
          generalize ordI (compare (key x) (key y)) = r at hlt2
          obtain ⟨bb, hbb⟩ : ∃ bb, bb = decide (key x < key y) := ⟨_, rfl⟩
          rw [← hbb] at hlt2
          have HBB := Lib.hid hbb
          clear hbb
          (refine wpAnyN_takeU 10 (oi := ?oi102) (v := ?v102) ?hi102 (by kernel_rfl) (fun _ _ _ h => h) ?hy102 ?hk102; (case hi102 => (simp only [List.getElem?_toArray, List.getElem?_cons_zero, List.getElem?_cons_succ]; try rfl)); (case hy102 => (first | (refine Or.inl ⟨by rfl, ?_⟩; intro wq _; (try go_simp); (try with_reducible rfl); done) | exact Or.inr ⟨by rfl, rfl⟩)); simp only [Act.put, List.setIfInBounds_toArray, List.set_cons_zero, List.set_cons_succ])
          (refine wpAnyN_all [11] (by kernel_rfl) ?_; refine AllN.cons (by simp only [List.getElem?_toArray, List.getElem?_cons_zero, List.getElem?_cons_succ]; try rfl) (fun K hK => ?_) AllN.nil)
          go_simp
          refine hK.out _ _ (fun h => absurd h (by decide)) ?_
          clear hK K
          (try simp only [Act.put, List.setIfInBounds_toArray, List.set_cons_zero, List.set_cons_succ])
          refine wpAnyN_done (by kernel_rfl) ?_
          refine NoPanic.normal ?_
          by_cases hxy : key x < key y
          · obtain rfl : bb = true := by rw [HBB.out]; simpa using hxy
            clear hlt2 HBB
            go_wp2
            refine ⟨⟨i, h, rfl, rfl, hi, by omega, by omega, HR2.out, HU2.out, HLO.out, fun p u p1 p2 hu => ?_⟩, by simp [intOf]; omega⟩
            by_cases e1 : p = h
            · subst e1
              have := HY.out; rw [hu] at this; cases this
              rw [← HXZ.out]; omega
            · by_cases e2 : j ≤ p
              · exact HHI.out p u e2 p2 hu
              · have := HS1.out h p y u (by omega) (by omega) p2 HY.out hu
                rw [← HXZ.out]; omega
          · obtain rfl : bb = false := by rw [HBB.out]; simpa using hxy
            clear hlt2 HBB
            go_wp2
            refine ⟨⟨h + 1, j, by go_num, rfl, by omega, by omega, hj, HR2.out, HU2.out, fun p u p1 p2 hu => ?_, HHI.out⟩, by simp [intOf]; omega⟩
            by_cases e1 : p = h
            · subst e1
              have := HY.out; rw [hu] at this; cases this
              rw [← HXZ.out]; omega
            · by_cases e2 : p < i
              · exact HLO.out p u p1 e2 hu
              · have := HS1.out p h u y p1 (by omega) (by omega) hu HY.out
                rw [← HXZ.out]; omega
        · have hije : j = i := by omega
          subst hije
          have HR := Lib.hid hr
          have HU := Lib.hid hu
          have HLO := Lib.hid hlo
          have HHI := Lib.hid hhi
          clear hr hu hlo hhi
          have hjn : j < n := by omega
          go_wp2
          go_loopw [17] (DnRel w F (.slice (some ⟨b, o, none⟩) n c) xs j m) (fun i _ => (intOf i).toNat)
          case atStart => exact ⟨m, xs, rfl, hj, Nat.le_refl _, HR.out, HU.out, List.Perm.refl _, dnv_start m xs⟩
          case round =>
            clear HR HU
            obtain ⟨k1, ys, rfl, hk1, hk2, hr, hu, hp, hg⟩ := hrel
            by_cases hlt2 : j < k1
            · have hl0 := HL.out
              have hpl := hp.length_eq
              obtain ⟨k, hk⟩ : ∃ k, k1 = k + 1 := ⟨k1 - 1, by omega⟩
              obtain ⟨y, hy⟩ : ∃ y, ys[k1]? = some y := ⟨ys[k1]'(by omega), by simp⟩
              obtain ⟨x, hx⟩ : ∃ x, ys[k]? = some x := ⟨ys[k]'(by omega), by simp⟩
              have hup := fun p => dnv_step (m := m) (k := k) (xs := xs) (ys := ys) (x := y) (y := x) (by omega) (by rw [← hk]; exact hg) (by rw [← hk]; exact hy) hx p
              rw [← hk] at hup
              have g0 := row_cell hr hx
              have g1 := row_cell hr hy
              have q2 : (k1 : Int) - 1 = (k : Int) := by omega
              have q2w : IntKind.i64.wrap (k : Int) = (k : Int) := IntWalk.i64_in _ (by omega)
              have hkn : k < n := by omega
              have hk1n : k1 < n := by omega
              have HX := Lib.hid hx
              have HY := Lib.hid hy
              have HR := Lib.hid hr
              have HU := Lib.hid hu
              have HP := Lib.hid hp
              have HUP := Lib.hid hup
              have HK1 := Lib.hid hk
              clear hr hu hp hg hx hy hl0 hpl hup hk
              go_wp2
              have HRD := Lib.hid (Row.upd HR.out (Upd.drew NoB wr) (fun _ _ h => h))
              have HUD := Lib.hid (Upd.drew F wr)
              clear g0 g1
              have g0 := row_cell HRD.out HX.out
              have g1 := row_cell HRD.out HY.out
              refine wp_region_noPanic ?_
              refine wp_region_N [15, 17] (fun w1 => w1.cell? ⟨b, o + k, none⟩ = some (.complex .f64 x.1 x.2) ∧ w1.cell? ⟨b, o + k1, none⟩ = some (.complex .f64 y.1 y.2)) (by kernel_rfl) ⟨g0, g1⟩ ?_
              intro hS0
              generalize wr.drew = wd at HRD HUD g0 g1 hS0 ⊢
              have f0 := row_frozen HRD.out (o + k1)
              have f1 := row_frozen HRD.out (o + k)
              (refine wpAnyN_takeU 0 (oi := ?oi103) (v := ?v103) ?hi103 (by kernel_rfl) (fun _ _ _ h => h) ?hy103 ?hk103; (case hi103 => (simp only [List.getElem?_toArray, List.getElem?_cons_zero, List.getElem?_cons_succ]; try rfl)); (case hy103 => (first | (refine Or.inl ⟨by rfl, ?_⟩; intro wq _; (try go_simp); (try with_reducible rfl); done) | exact Or.inr ⟨by rfl, rfl⟩)); simp only [Act.put, List.setIfInBounds_toArray, List.set_cons_zero, List.set_cons_succ]); (refine wpAnyN_takeU 1 (oi := ?oi104) (v := ?v104) ?hi104 (by kernel_rfl) (fun _ _ _ h => h) ?hy104 ?hk104; (case hi104 => (simp only [List.getElem?_toArray, List.getElem?_cons_zero, List.getElem?_cons_succ]; try rfl)); (case hy104 => (first | (refine Or.inl ⟨by rfl, ?_⟩; intro wq _; (try go_simp); (try with_reducible rfl); done) | exact Or.inr ⟨by rfl, rfl⟩)); simp only [Act.put, List.setIfInBounds_toArray, List.set_cons_zero, List.set_cons_succ]); (refine wpAnyN_takeU 2 (oi := ?oi105) (v := ?v105) ?hi105 (by kernel_rfl) (fun _ _ _ h => h) ?hy105 ?hk105; (case hi105 => (simp only [List.getElem?_toArray, List.getElem?_cons_zero, List.getElem?_cons_succ]; try rfl)); (case hy105 => (first | (refine Or.inl ⟨by rfl, ?_⟩; intro wq _; (try go_simp); (try with_reducible rfl); done) | exact Or.inr ⟨by rfl, rfl⟩)); simp only [Act.put, List.setIfInBounds_toArray, List.set_cons_zero, List.set_cons_succ]); (refine wpAnyN_takeU 3 (oi := ?oi106) (v := ?v106) ?hi106 (by kernel_rfl) (fun _ _ _ h => h) ?hy106 ?hk106; (case hi106 => (simp only [List.getElem?_toArray, List.getElem?_cons_zero, List.getElem?_cons_succ]; try rfl)); (case hy106 => (first | (refine Or.inl ⟨by rfl, ?_⟩; intro wq _; (try go_simp); (try with_reducible rfl); done) | exact Or.inr ⟨by rfl, rfl⟩)); simp only [Act.put, List.setIfInBounds_toArray, List.set_cons_zero, List.set_cons_succ]); (refine wpAnyN_takeU 4 (oi := ?oi107) (v := ?v107) ?hi107 (by kernel_rfl) (fun _ _ _ h => h) ?hy107 ?hk107; (case hi107 => (simp only [List.getElem?_toArray, List.getElem?_cons_zero, List.getElem?_cons_succ]; try rfl)); (case hy107 => (first | (refine Or.inl ⟨by rfl, ?_⟩; intro wq _; (try go_simp); (try with_reducible rfl); done) | exact Or.inr ⟨by rfl, rfl⟩)); simp only [Act.put, List.setIfInBounds_toArray, List.set_cons_zero, List.set_cons_succ]); (refine wpAnyN_takeU 5 (oi := ?oi108) (v := ?v108) ?hi108 (by kernel_rfl) (fun _ _ _ h => h) ?hy108 ?hk108; (case hi108 => (simp only [List.getElem?_toArray, List.getElem?_cons_zero, List.getElem?_cons_succ]; try rfl)); (case hy108 => (first | (refine Or.inl ⟨by rfl, ?_⟩; intro wq _; (try go_simp); (try with_reducible rfl); done) | exact Or.inr ⟨by rfl, rfl⟩)); simp only [Act.put, List.setIfInBounds_toArray, List.set_cons_zero, List.set_cons_succ]); (refine wpAnyN_takeU 6 (oi := ?oi109) (v := ?v109) ?hi109 (by kernel_rfl) (fun _ _ _ h => h) ?hy109 ?hk109; (case hi109 => (simp only [List.getElem?_toArray, List.getElem?_cons_zero, List.getElem?_cons_succ]; try rfl)); (case hy109 => (first | (refine Or.inl ⟨by rfl, ?_⟩; intro wq _; (try go_simp); (try with_reducible rfl); done) | exact Or.inr ⟨by rfl, rfl⟩)); simp only [Act.put, List.setIfInBounds_toArray, List.set_cons_zero, List.set_cons_succ]); (refine wpAnyN_takeU 7 (oi := ?oi110) (v := ?v110) ?hi110 (by kernel_rfl) (fun _ _ _ h => h) ?hy110 ?hk110; (case hi110 => (simp only [List.getElem?_toArray, List.getElem?_cons_zero, List.getElem?_cons_succ]; try rfl)); (case hy110 => (first | (refine Or.inl ⟨by rfl, ?_⟩; intro wq _; (try go_simp); (try with_reducible rfl); done) | exact Or.inr ⟨by rfl, rfl⟩)); simp only [Act.put, List.setIfInBounds_toArray, List.set_cons_zero, List.set_cons_succ]); (refine wpAnyN_takeU 8 (oi := ?oi111) (v := ?v111) ?hi111 (by kernel_rfl) (fun _ _ _ h => h) ?hy111 ?hk111; (case hi111 => (simp only [List.getElem?_toArray, List.getElem?_cons_zero, List.getElem?_cons_succ]; try rfl)); (case hy111 => (first | (refine Or.inl ⟨by rfl, ?_⟩; intro wq _; (try go_simp); (try with_reducible rfl); done) | exact Or.inr ⟨by rfl, rfl⟩)); simp only [Act.put, List.setIfInBounds_toArray, List.set_cons_zero, List.set_cons_succ])
              (refine wpAnyN_take 9 (oi := ?oi28) (v := ?v28) ?hi28 (by kernel_rfl) (fun _ _ _ h => h) (by assumption) ?hy28 ?hk28; (case hi28 => (simp only [List.getElem?_toArray, List.getElem?_cons_zero, List.getElem?_cons_succ]; try rfl)); (case hy28 => (first | (refine Or.inl ⟨by rfl, ?_⟩; intro wq hSw; (try dsimp only at hSw); go_split_ands; (try go_simp); (try with_reducible rfl); done) | exact Or.inr ⟨by rfl, rfl⟩)); simp only [Act.put, List.setIfInBounds_toArray, List.set_cons_zero, List.set_cons_succ])
              (refine wpAnyN_takeU 10 (oi := ?oi112) (v := ?v112) ?hi112 (by kernel_rfl) (fun _ _ _ h => h) ?hy112 ?hk112; (case hi112 => (simp only [List.getElem?_toArray, List.getElem?_cons_zero, List.getElem?_cons_succ]; try rfl)); (case hy112 => (first | (refine Or.inl ⟨by rfl, ?_⟩; intro wq _; (try go_simp); (try with_reducible rfl); done) | exact Or.inr ⟨by rfl, rfl⟩)); simp only [Act.put, List.setIfInBounds_toArray, List.set_cons_zero, List.set_cons_succ]); (refine wpAnyN_takeU 11 (oi := ?oi113) (v := ?v113) ?hi113 (by kernel_rfl) (fun _ _ _ h => h) ?hy113 ?hk113; (case hi113 => (simp only [List.getElem?_toArray, List.getElem?_cons_zero, List.getElem?_cons_succ]; try rfl)); (case hy113 => (first | (refine Or.inl ⟨by rfl, ?_⟩; intro wq _; (try go_simp); (try with_reducible rfl); done) | exact Or.inr ⟨by rfl, rfl⟩)); simp only [Act.put, List.setIfInBounds_toArray, List.set_cons_zero, List.set_cons_succ]); (refine wpAnyN_takeU 12 (oi := ?oi114) (v := ?v114) ?hi114 (by kernel_rfl) (fun _ _ _ h => h) ?hy114 ?hk114; (case hi114 => (simp only [List.getElem?_toArray, List.getElem?_cons_zero, List.getElem?_cons_succ]; try rfl)); (case hy114 => (first | (refine Or.inl ⟨by rfl, ?_⟩; intro wq _; (try go_simp); (try with_reducible rfl); done) | exact Or.inr ⟨by rfl, rfl⟩)); simp only [Act.put, List.setIfInBounds_toArray, List.set_cons_zero, List.set_cons_succ])
              (refine wpAnyN_take 13 (oi := ?oi29) (v := ?v29) ?hi29 (by kernel_rfl) (fun _ _ _ h => h) (by assumption) ?hy29 ?hk29; (case hi29 => (simp only [List.getElem?_toArray, List.getElem?_cons_zero, List.getElem?_cons_succ]; try rfl)); (case hy29 => (first | (refine Or.inl ⟨by rfl, ?_⟩; intro wq hSw; (try dsimp only at hSw); go_split_ands; (try go_simp); (try with_reducible rfl); done) | exact Or.inr ⟨by rfl, rfl⟩)); simp only [Act.put, List.setIfInBounds_toArray, List.set_cons_zero, List.set_cons_succ])
              (refine wpAnyN_takeU 14 (oi := ?oi115) (v := ?v115) ?hi115 (by kernel_rfl) (fun _ _ _ h => h) ?hy115 ?hk115; (case hi115 => (simp only [List.getElem?_toArray, List.getElem?_cons_zero, List.getElem?_cons_succ]; try rfl)); (case hy115 => (first | (refine Or.inl ⟨by rfl, ?_⟩; intro wq _; (try go_simp); (try with_reducible rfl); done) | exact Or.inr ⟨by rfl, rfl⟩)); simp only [Act.put, List.setIfInBounds_toArray, List.set_cons_zero, List.set_cons_succ])
              (refine wpAnyN_all [15] (by kernel_rfl) ?_; refine AllN.cons (by simp only [List.getElem?_toArray, List.getElem?_cons_zero, List.getElem?_cons_succ]; try rfl) (fun K hK => ?_) AllN.nil)
              go_simp
              refine hK.out _ _ (fun h => absurd h (by decide)) ?_
              clear hK K hS0
              (try simp only [Act.put, List.setIfInBounds_toArray, List.set_cons_zero, List.set_cons_succ])
              (refine wpAnyN_takeU 16 (oi := ?oi116) (v := ?v116) ?hi116 (by kernel_rfl) (fun _ _ _ h => h) ?hy116 ?hk116; (case hi116 => (simp only [List.getElem?_toArray, List.getElem?_cons_zero, List.getElem?_cons_succ]; try rfl)); (case hy116 => (first | (refine Or.inl ⟨by rfl, ?_⟩; intro wq _; (try go_simp); (try with_reducible rfl); done) | exact Or.inr ⟨by rfl, rfl⟩)); simp only [Act.put, List.setIfInBounds_toArray, List.set_cons_zero, List.set_cons_succ])
              have hsw := row_swap HRD.out HY.out HX.out
              obtain ⟨u2, hu2⟩ : ∃ u, (wd.setCell ⟨b, o + k1, none⟩ (.complex .f64 x.1 x.2)).cell? ⟨b, o + k, none⟩ = some u := row_still HRD.out HY.out HX.out
              have f2 : (wd.setCell ⟨b, o + k1, none⟩ (.complex .f64 x.1 x.2)).frozen? ⟨b, o + k, none⟩ = false := row_frozen (row_put HRD.out HY.out) _
              (refine wpAnyN_all [17] (by kernel_rfl) ?_; refine AllN.cons (by simp only [List.getElem?_toArray, List.getElem?_cons_zero, List.getElem?_cons_succ]; try rfl) (fun K hK => ?_) AllN.nil)
              go_simp
              refine hK.out _ _ (fun h => absurd h (by decide)) ?_
              clear hK K
              (try simp only [Act.put, List.setIfInBounds_toArray, List.set_cons_zero, List.set_cons_succ])
              refine wpAnyN_done (by kernel_rfl) ?_
              refine NoPanic.normal ?_
              generalize (wd.setCell ⟨b, o + k1, none⟩ (.complex .f64 x.1 x.2)).setCell ⟨b, o + k, none⟩ (.complex .f64 y.1 y.2) = ws at hsw ⊢
              have HSW := Lib.hid (show Row cE tC ws F (.slice (some ⟨b, o, none⟩) n c) _ ∧ Upd F wr ws from ⟨hsw.1, HUD.out.trans hsw.2⟩)
              clear hsw g0 g1 f0 f1 f2 hu2 HRD HUD u2
              go_wp2
              have hsz := HSW.out
              have hK1 := HK1.out
              exact ⟨⟨k, _, rfl, by omega, by omega, hsz.1, HU.out.trans hsz.2, (swp_perm HY.out HX.out).trans HP.out, HUP.out⟩, by simp [intOf]; omega⟩
            · have hke : k1 = j := by omega
              subst hke
              have hm := HEM.out
              have hZ := HZ.out
              have hend := dn_end (key := key) (a := a) (m := m) (i := k1) (xs := xs) (ys := ys) hi hj (by have := HL.out; omega) HS1.out hp hg
                (fun p x y p1 p2 hx hy => by rw [hZ] at hy; cases hy; exact HLO.out p x p1 p2 hx) (fun p x y p1 p2 hx hy => by rw [hZ] at hy; cases hy; exact HHI.out p x p1 p2 hx)
              rw [← hm] at hend
              have hfin : SortPost F w (.slice (some ⟨b, o, none⟩) n c) xs a e (SrtR key a e) (.returned (.tuple #[])) wr := ⟨rfl, ys, hr, hu, hend.1, hend.2⟩
              have HF := Lib.hid hfin
              clear hfin hr hu hp hg hend hm hZ
              go_wp2
              go_end0
              exact HF.out
    · exact s_symG HC.out F b o c n d hn IH.out a m e hd w xs HR.out HS.out ham hme hen HS1.out HS2.out HMA.out hem
end Go.Proofs.Ytjjbnmlhbbnhcaa
/- stableCmpFunc, SortStableFunc at quanta: their walks. Conditions: none. -/
set_option linter.unusedVariables false
set_option linter.unusedSimpArgs false
namespace Go.Proofs.Ytjjbnmlhbbnhcaa
open Go.RowKit

/-- The blocks of bs from lo to hi are in order, each. -/
def SB {α : Type} (key : α → Nat) (bs lo hi : Nat) (ys : List α) : Prop := ∀ p, bs ∣ p → lo ≤ p → p < hi → SrtR key p (min (p + bs) hi) ys
theorem dvd_gap {bs p a : Nat} (hp : bs ∣ p) (ha : bs ∣ a) (h : p < a) : p + bs ≤ a := by
  have := Nat.le_of_dvd (by omega) (Nat.dvd_sub ha hp)
  omega
section
variable {α : Type} {key : α → Nat} {bs a e n : Nat} {ys zs : List α}
theorem SB.step (h : SB key bs 0 a ys) (ha : bs ∣ a) (h1 : a ≤ e) (h2 : e ≤ a + bs) (g : Rng a e ys zs) (s : SrtR key a e zs) : SB key bs 0 e zs := by
  intro p hp _ hpe
  by_cases c : p < a
  · have := dvd_gap hp ha c
    have h3 := h p hp (Nat.zero_le _) c
    rw [Nat.min_eq_left (by omega)] at h3 ⊢
    exact h3.keep g (.inl (by omega))
  · have hpa : p = a := by
      by_cases d : a = p
      · exact d.symm
      · have := dvd_gap ha hp (by omega); omega
    subst hpa
    rw [Nat.min_eq_right h2]
    exact s
theorem SB.later (h : SB key bs a n ys) (he : a ≤ e) (g : Rng a e ys zs) : SB key bs e n zs := by
  intro p hp h1 h2
  exact (h p hp (by omega) h2).keep g (.inr h1)
theorem SB.whole (h : SB key bs 0 n ys) (hb : n ≤ bs) : SrtR key 0 n ys := by
  by_cases hn : n = 0
  · subst hn; intro i j x y i1 i2 i3; omega
  · have := h 0 (Nat.dvd_zero _) (Nat.le_refl _) (by omega)
    rw [Nat.min_eq_right (by omega)] at this
    exact this
end

def StRel1 (key : CQ → Nat) (w : World) (F : Nat → Prop) (v : Value) (xs : List CQ) (n : Nat) (va vb : Value) (wr : World) : Prop :=
  ∃ (a : Nat) (ys : List CQ), va = .int .i64 a ∧ vb = .int .i64 ((a : Int) + 20) ∧ 20 ∣ a ∧ a ≤ n ∧ Row cE tC wr F v ys ∧ Upd F w wr ∧ Rng 0 n xs ys ∧ SB key 20 0 a ys
def StRel2 (key : CQ → Nat) (w : World) (F : Nat → Prop) (v : Value) (xs : List CQ) (n : Nat) (vs : Value) (wr : World) : Prop :=
  ∃ (bs : Nat) (ys : List CQ), vs = .int .i64 bs ∧ 0 < bs ∧ bs ≤ 2 * n + 20 ∧ Row cE tC wr F v ys ∧ Upd F w wr ∧ Rng 0 n xs ys ∧ SB key bs 0 n ys
def StRel3 (key : CQ → Nat) (w : World) (F : Nat → Prop) (v : Value) (xs : List CQ) (n bs : Nat) (va vb : Value) (wr : World) : Prop :=
  ∃ (a : Nat) (ys : List CQ), va = .int .i64 a ∧ vb = .int .i64 ((a : Int) + 2 * (bs : Int)) ∧ 2 * bs ∣ a ∧ a ≤ n ∧ Row cE tC wr F v ys ∧ Upd F w wr ∧ Rng 0 n xs ys ∧ SB key (2 * bs) 0 a ys ∧ SB key bs a n ys

set_option maxHeartbeats 4000000 in
set_option maxRecDepth 100000 in
theorem s_stab {S : CQ → Prop} {key : CQ → Nat} (hc : CmpOk S key) (w : World) (F : Nat → Prop) (b o c n : Nat) (xs : List CQ) (hrow : Row cE tC w F (.slice (some ⟨b, o, none⟩) n c) xs) (hS : ∀ x ∈ xs, S x) (hn : n ≤ 1000000) :
    Calls Try.prog 52 #[.slice (some ⟨b, o, none⟩) n c, .int .i64 n, byV] w (SortPost F w (.slice (some ⟨b, o, none⟩) n c) xs 0 n (SrtR key 0 n)) := by
  have HR := Lib.hid hrow
  have HC := Lib.hid hc
  have HS := Lib.hid hS
  clear hrow hc hS
  unfold byV
  go_enter Try.func52, Try.ntmps52
  go_wp2
  go_loopw [7, 8] (StRel1 key w F (.slice (some ⟨b, o, none⟩) n c) xs n) (fun i _ _ => n + 1 - (intOf i).toNat)
  case atStart => exact ⟨0, xs, rfl, rfl, Nat.dvd_zero _, Nat.zero_le _, HR.out, Upd.refl _ _, Rng.refl _ _ _, fun p _ _ h => by omega⟩
  case round =>
    clear HR
    obtain ⟨a, ys, rfl, rfl, had, han, hr, hu, hg, hs⟩ := hrel
    obtain ⟨a2, ha2⟩ : ∃ a2, a2 = a + 20 := ⟨_, rfl⟩
    have qa : (a : Int) + 20 = (a2 : Int) := by omega
    rw [qa]
    by_cases hle : a2 ≤ n
    · have hin := s_ins HC.out wr F b o c n a a2 ys hr (hg.mem HS.out) (by omega) hle hn
      have HIN := Lib.hid hin
      have HU := Lib.hid hu
      have HG := Lib.hid hg
      have HB := Lib.hid hs
      have HAD := Lib.hid had
      have HA2 := Lib.hid ha2
      clear hin hr hu hg hs had ha2
      go_wp2_with fail
      refine HIN.out.mono ?_
      rintro en w2 ⟨rfl, zs, z1, z2, z3, z4⟩
      have h2 := HA2.out
      have hfin : StRel1 key w F (.slice (some ⟨b, o, none⟩) n c) xs n (.int .i64 a2) (.int .i64 ((a2 : Int) + 20)) w2 := ⟨a2, zs, rfl, rfl, by rw [h2]; exact Nat.dvd_add HAD.out (Nat.dvd_refl _), hle, z1, HU.out.trans z2, HG.out.trans (z3.wide (Nat.zero_le _) hle), HB.out.step HAD.out (by omega) (by omega) z3 z4⟩
      have HF := Lib.hid hfin
      clear hfin z1 z2 z3 z4 h2
      go_wp2
      exact ⟨HF.out, by have := HA2.out; simp [intOf]; omega⟩
    · have hin := s_ins HC.out wr F b o c n a n ys hr (hg.mem HS.out) han (Nat.le_refl _) hn
      have HIN := Lib.hid hin
      have HU := Lib.hid hu
      have HG := Lib.hid hg
      have HB := Lib.hid hs
      have HAD := Lib.hid had
      have HA2 := Lib.hid ha2
      clear hin hr hu hg hs had ha2
      go_wp2_with fail
      refine HIN.out.mono ?_
      rintro en w2 ⟨rfl, zs, z1, z2, z3, z4⟩
      have h2 := HA2.out
      have hfin : StRel2 key w F (.slice (some ⟨b, o, none⟩) n c) xs n (.int .i64 20) w2 := ⟨20, zs, rfl, by omega, by omega, z1, HU.out.trans z2, HG.out.trans (z3.wide (Nat.zero_le _) (Nat.le_refl _)), HB.out.step HAD.out han (by omega) z3 z4⟩
      have HF := Lib.hid hfin
      clear hfin z1 z2 z3 z4 h2
      clear HIN HU HG HB HAD HA2
      go_wp2
      go_loopw [6, 7, 8, 9] (fun vs _ _ _ wr => StRel2 key w F (.slice (some ⟨b, o, none⟩) n c) xs n vs wr) (fun i _ _ _ _ => n - (intOf i).toNat)
      case atStart => exact HF.out
      case round =>
        clear HF
        obtain ⟨bs, ys, rfl, hb0, hb1, hr, hu, hg, hs⟩ := hrel
        by_cases hlt : bs < n
        · obtain ⟨b2, hb2⟩ : ∃ b2, b2 = 2 * bs := ⟨_, rfl⟩
          have q2 : (2 : Int) * (bs : Int) = (b2 : Int) := by omega
          have q3 : (bs : Int) * 2 = (b2 : Int) := by omega
          have HU := Lib.hid hu
          have HG := Lib.hid hg
          have HB := Lib.hid hs
          have HR := Lib.hid hr
          have HB2 := Lib.hid hb2
          clear hr hu hg hs hb2
          have hb2n : b2 ≤ 2000000 := by have := HB2.out; omega
          go_wp2
          go_loopw [7, 8] (StRel3 key w F (.slice (some ⟨b, o, none⟩) n c) xs n bs) (fun i _ _ => n + 1 - (intOf i).toNat)
          case atStart => exact ⟨0, ys, rfl, by rw [q2]; simp, Nat.dvd_zero _, Nat.zero_le _, HR.out, HU.out, HG.out, fun p _ _ h => by omega, HB.out⟩
          case round =>
            clear HR HU HG HB
            obtain ⟨a, zs, rfl, rfl, had, han, hr, hu, hg, hs, hs2⟩ := hrel
            have hb2 := HB2.out
            rw [q2]
            obtain ⟨a2, ha2⟩ : ∃ a2, a2 = a + b2 := ⟨_, rfl⟩
            obtain ⟨a1, ha1⟩ : ∃ a1, a1 = a + bs := ⟨_, rfl⟩
            have qa : (a : Int) + (b2 : Int) = (a2 : Int) := by omega
            have qa1 : (a : Int) + (bs : Int) = (a1 : Int) := by omega
            obtain ⟨a3, ha3⟩ : ∃ a3, a3 = a2 + b2 := ⟨_, rfl⟩
            have qa2 : (a2 : Int) + (b2 : Int) = (a3 : Int) := by omega
            have hb2n' : a3 ≤ 9000000 := by omega
            clear ha3
            rw [qa]
            have hdb : bs ∣ a := Nat.dvd_trans (Nat.dvd_mul_left _ _) had
            have hda : bs ∣ a1 := by rw [ha1]; exact Nat.dvd_add hdb (Nat.dvd_refl _)
            by_cases hle : a2 ≤ n
            · have k1 : SrtR key a a1 zs := by have := hs2 a hdb (Nat.le_refl _) (by omega); rw [Nat.min_eq_left (by omega), ← ha1] at this; exact this
              have k2 : SrtR key a1 a2 zs := by have := hs2 a1 hda (by omega) (by omega); rw [Nat.min_eq_left (by omega)] at this; rw [show a2 = a1 + bs by omega]; exact this
              have hme := s_sym HC.out F b o c n hn (a2 - a) a a1 a2 rfl wr zs hr (hg.mem HS.out) (by omega) (by omega) hle k1 k2
              have HME := Lib.hid hme
              have HU := Lib.hid hu
              have HG := Lib.hid hg
              have HB := Lib.hid hs
              have HBB := Lib.hid hs2
              have HAD := Lib.hid had
              have HA2 := Lib.hid ha2
              have HA1 := Lib.hid ha1
              clear hme hr hu hg hs hs2 had ha2 ha1 k1 k2 hdb hda hb2
              go_wp2_with fail
              refine HME.out.mono ?_
              rintro en w2 ⟨rfl, us, z1, z2, z3, z4⟩
              have h2 := HA2.out
              have h3 := HB2.out
              have hfin : StRel3 key w F (.slice (some ⟨b, o, none⟩) n c) xs n bs (.int .i64 a2) (.int .i64 (a3 : Int)) w2 := ⟨a2, us, rfl, by rw [q2, ← qa2], by rw [h2, h3]; exact Nat.dvd_add HAD.out (Nat.dvd_refl _), hle, z1, HU.out.trans z2, HG.out.trans (z3.wide (Nat.zero_le _) hle), HB.out.step HAD.out (by omega) (by omega) z3 z4, HBB.out.later (by omega) z3⟩
              have HF := Lib.hid hfin
              clear hfin z1 z2 z3 z4 h2 h3
              go_wp2
              exact ⟨HF.out, by have := HA2.out; have := HB2.out; simp [intOf]; omega⟩
            · by_cases hm : a1 < n
              · have k1 : SrtR key a a1 zs := by have := hs2 a hdb (Nat.le_refl _) (by omega); rw [Nat.min_eq_left (by omega), ← ha1] at this; exact this
                have k2 : SrtR key a1 n zs := by have := hs2 a1 hda (by omega) hm; rw [Nat.min_eq_right (by omega)] at this; exact this
                have hme := s_sym HC.out F b o c n hn (n - a) a a1 n rfl wr zs hr (hg.mem HS.out) (by omega) hm (Nat.le_refl _) k1 k2
                have HME := Lib.hid hme
                have HU := Lib.hid hu
                have HG := Lib.hid hg
                have HB := Lib.hid hs
                have HAD := Lib.hid had
                have HA2 := Lib.hid ha2
                clear hme hr hu hg hs hs2 had ha2 ha1 k1 k2 hdb hda hb2
                go_wp2_with fail
                refine HME.out.mono ?_
                rintro en w2 ⟨rfl, us, z1, z2, z3, z4⟩
                have h2 := HA2.out
                have h3 := HB2.out
                have hfin : StRel2 key w F (.slice (some ⟨b, o, none⟩) n c) xs n (.int .i64 b2) w2 := ⟨b2, us, rfl, by omega, by omega, z1, HU.out.trans z2, HG.out.trans (z3.wide (Nat.zero_le _) (Nat.le_refl _)), by rw [h3]; exact HB.out.step HAD.out han (by omega) z3 z4⟩
                have HF := Lib.hid hfin
                clear hfin z1 z2 z3 z4 h2 h3
                go_wp2
                exact ⟨HF.out, by have := HB2.out; simp [intOf]; omega⟩
              · have k1 : SrtR key a n zs := by
                  by_cases e1 : a < n
                  · have := hs2 a hdb (Nat.le_refl _) e1; rw [Nat.min_eq_right (by omega)] at this; exact this
                  · intro i j x y i1 i2 i3; omega
                have hfin : StRel2 key w F (.slice (some ⟨b, o, none⟩) n c) xs n (.int .i64 b2) wr := ⟨b2, zs, rfl, by omega, by omega, hr, hu, hg, by rw [hb2]; exact hs.step had han (by omega) (Rng.refl _ _ _) k1⟩
                have HF := Lib.hid hfin
                clear hfin hr hu hg hs hs2 had ha2 ha1 k1 hdb hda hb2
                go_wp2
                exact ⟨HF.out, by have := HB2.out; simp [intOf]; omega⟩
        · have hfin : SortPost F w (.slice (some ⟨b, o, none⟩) n c) xs 0 n (SrtR key 0 n) (.returned (.tuple #[])) wr := ⟨rfl, ys, hr, hu, hg, hs.whole (by omega)⟩
          have HF := Lib.hid hfin
          clear hfin hr hu hg hs
          go_wp2
          go_end0
          exact HF.out

set_option maxHeartbeats 1000000 in
set_option maxRecDepth 100000 in
theorem s_sort {S : CQ → Prop} {key : CQ → Nat} (hc : CmpOk S key) (w : World) (F : Nat → Prop) (b o c n : Nat) (xs : List CQ) (hrow : Row cE tC w F (.slice (some ⟨b, o, none⟩) n c) xs) (hS : ∀ x ∈ xs, S x) (hn : n ≤ 1000000) :
    Calls Try.prog 38 #[.slice (some ⟨b, o, none⟩) n c, byV] w (SortPost F w (.slice (some ⟨b, o, none⟩) n c) xs 0 n (SrtR key 0 n)) := by
  have HST := Lib.hid (s_stab hc w F b o c n xs hrow hS hn)
  clear hc hrow hS
  unfold byV at HST ⊢
  go_enter Try.func38, Try.ntmps38
  go_wp2_with fail
  refine HST.out.mono ?_
  rintro en w2 ⟨rfl, h⟩
  have HH := Lib.hid h
  clear h HST
  go_wp2
  go_end0
  exact ⟨rfl, HH.out⟩
end Go.Proofs.Ytjjbnmlhbbnhcaa
