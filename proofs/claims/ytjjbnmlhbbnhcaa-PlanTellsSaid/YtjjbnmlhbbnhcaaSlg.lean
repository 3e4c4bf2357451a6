/- spread.Slots as G wants it. Conditions: none. -/
import Derived.Test.YtjjbnmlhbbnhcaaSlo
import Derived.Test.YtjjbnmlhbbnhcaaGa
set_option linter.unusedVariables false
set_option linter.unusedSimpArgs false
namespace Go.Proofs.Ytjjbnmlhbbnhcaa
open Go.RowKit G
theorem flat_kE (k : IntKind) : ∀ l : List Int, (kE k).flat l = l.map (Value.int k)
  | [] => rfl
  | x :: l => by rw [Enc.flat_cons, flat_kE k l]; rfl
theorem slots_walk (H : List SP) (s : SV Int) (hk : KR H (kE .i64) s) (hl : s.l.length ≤ 9223372036854775807) : ∀ w, Sat w H → Calls Try.prog 22 #[.slice s.a s.l.length s.c] w (Ret (ι := Option Addr × Nat) (fun p => .slice p.1 (slotsOf s.l).length p.2) fun p => row (kE .i64) 3 (.slice p.1 (slotsOf s.l).length p.2) (slotsOf s.l) :: H) := by
  intro w hs
  have hr : RdI w (.slice s.a s.l.length s.c) s.l := by
    obtain ⟨ao, c, hv, h1, h2, h3, h4⟩ := hk w hs
    refine ⟨ao, c, hv, fun h => (h3 h).1, fun a ha j u hu => h4 a ha j (.int .i64 u) ?_⟩
    rw [flat_kE, List.getElem?_map, hu]; rfl
  refine (sp_slots w _ s.l hr hl).mono ?_
  rintro e w' ⟨v0, rfl, ⟨ho1, ho2⟩, hu⟩
  rcases ho2 with ⟨rfl, hn0⟩ | ⟨g, cap, cur, rfl, hg, hb, h1, h2, h3, h4⟩
  · have h0 : slotsOf s.l = [] := List.eq_nil_of_length_eq_zero hn0
    rw [h0]
    exact ⟨(none, 0), rfl, hs.fresh hu (Row.nil (kE .i64) _ _) (fun b hb => hb.elim)⟩
  · refine ⟨(some ⟨g, 0, none⟩, cap), rfl, hs.fresh hu (G' := OneB g) (.inr ⟨g, 0, cap, cur, rfl, rfl, hb, h1, h2, ?_, ?_⟩) (fun b hb => by cases hb; exact hg)⟩
    · rw [h3, Nat.zero_add]; exact Nat.le_refl _
    · rw [flat_kE, List.drop_zero]; exact h4
end Go.Proofs.Ytjjbnmlhbbnhcaa
