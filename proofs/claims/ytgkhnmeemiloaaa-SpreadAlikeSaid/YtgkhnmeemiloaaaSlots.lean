/- spread.Slots as the printed texts want it. Conditions: none. -/
import Derived.Test.YtgkhnmeemiloaaaSlo
import Derived.Test.YtgkhnmeemiloaaaWWords
namespace Go.Proofs.Ytgkhnmeemiloaaa
open Go.RowKit Go.Proofs.YtgkhnmeemiloaaaW.PrintWords
def spread_Slots.f (l0 : List Int) : Option (List Int) := some (slotsOf l0)
theorem rd_of_C {w : World} {A : Option Addr} {c : Nat} {l : List Int} (hr : Kd.C (Kd.int .i64) w A l.length l) : RdI w (.slice A l.length c) l := by
  have hr' : ReadsOf (Value.int .i64) 0 w A l.length l := Kd.reads_of_C hr
  obtain ⟨_, _, h⟩ := hr'
  refine ⟨A, c, rfl, fun hA => ?_, fun a ha j u hu => ?_⟩
  · cases l with
    | nil => rfl
    | cons x r => obtain ⟨ad, e, _⟩ := h (by simp); rw [hA] at e; cases e
  · obtain ⟨hj, hju⟩ := List.getElem?_eq_some_iff.1 hu
    obtain ⟨ad, e, hc⟩ := h (by omega)
    have : ad = a := by rw [ha] at e; cases e; rfl
    subst this
    have := hc j hj
    simpa [List.getD, hu] using this
theorem len_of_C {w : World} {A : Option Addr} {l : List Int} (hr : Kd.C (Kd.int .i64) w A l.length l) : l.length ≤ 9223372036854775807 := hr.2.1
theorem spread_Slots.calls (A0 : Option Addr) (c0 : Nat) (l0 : List Int) (r : List Int) (w : World) (hr0 : Kd.C (Kd.int .i64) w A0 l0.length l0) (hc0 : l0.length ≤ c0) (h : spread_Slots.f l0 = some r) :
    Calls Try.prog 28 #[.slice A0 l0.length c0] w fun e w' => ∃ v0_ : Value, e = .returned (v0_) ∧ Kd.R (Kd.int .i64) 3 w' w.heap.size (fun _ => True) v0_ r ∧ Below w.heap.size w w' := by
  obtain rfl : slotsOf l0 = r := Option.some.inj h
  refine (sp_slots w _ l0 (rd_of_C hr0) ?_).mono ?_
  · exact len_of_C hr0
  · rintro e w' ⟨v0, rfl, h1, h2⟩
    exact ⟨v0, rfl, Kd.R_of_own (by rw [encs]; exact h1) (fun _ _ => trivial), h2.below⟩
end Go.Proofs.Ytgkhnmeemiloaaa
