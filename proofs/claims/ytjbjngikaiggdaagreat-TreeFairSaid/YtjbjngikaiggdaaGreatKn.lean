/- Slices of ints that are read, in every world of some memory. Conditions: none. -/
import Derived.Test.YtjbjngikaiggdaaGreatG
set_option linter.unusedVariables false
set_option linter.unusedSimpArgs false
namespace Go.Proofs.YtjbjngikaiggdaaGreat
open Go.RowKit G
/-- What a slice of ints shows, in every world of H. -/
def KnI (H : List SP) (A : Option Addr) (l : List Int) : Prop := ∀ w, Sat w H → ∀ j x, l[j]? = some x → ∃ a, A = some a ∧ w.cell? (a.add j) = some (.int .i64 x)
theorem KnI.isSome {H : List SP} {A : Option Addr} {l : List Int} (h : KnI H A l) (hl : l ≠ []) : ∀ w, Sat w H → ∃ b o, A = some ⟨b, o, none⟩ := by
  intro w hs
  cases l with
  | nil => exact absurd rfl hl
  | cons x r =>
    obtain ⟨⟨b, o, s⟩, rfl, hc⟩ := h w hs 0 x rfl
    cases s with
    | none => exact ⟨b, o, rfl⟩
    | some z => simp [Addr.add, World.cell?] at hc; split at hc <;> simp at hc
theorem KnI.tail {H : List SP} {b o c : Nat} {x : Int} {l : List Int} (h : KnI H (some ⟨b, o, none⟩) (x :: l)) (hc : l.length + 1 ≤ c) : KnI H (cutA (some ⟨b, o, none⟩) c 1 1) l := by
  unfold cutA
  intro w hs j y hj
  have hl : 0 < l.length := by have := (List.getElem?_eq_some_iff.1 hj).1; omega
  rw [if_neg (by omega)]
  obtain ⟨a, ha, hcell⟩ := h w hs (j + 1) y (by simpa using hj)
  cases ha
  refine ⟨⟨b, o + 1 * 1, none⟩, by simp [Addr.add_lit], ?_⟩
  rw [Addr.add_lit] at hcell ⊢
  rw [show o + 1 * 1 + j = o + (j + 1) by omega]; exact hcell
def countOf (l : List Int) (d : Int) : Nat := (l.filter fun x => x == d).length
theorem KnI.cell0 {H : List SP} {b o : Nat} {x : Int} {l : List Int} (h : KnI H (some ⟨b, o, none⟩) (x :: l)) : ∀ w, Sat w H → w.cell? ⟨b, o + 0 * 1, none⟩ = some (.int .i64 x) := by
  intro w hs
  obtain ⟨a, ha, hcell⟩ := h w hs 0 x rfl
  cases ha
  rw [Addr.add_lit] at hcell; simpa using hcell
theorem countOf_cons (x : Int) (r : List Int) (d : Int) : countOf (x :: r) d = countOf r d + if (x == d) = true then 1 else 0 := by
  unfold countOf
  by_cases e : (x == d) = true
  · simp [List.filter_cons, e]
  · simp [List.filter_cons, e]
structure CntX where
  A : Option Addr
  c : Nat
  l : List Int
  m : Int
end Go.Proofs.YtjbjngikaiggdaaGreat
