/- G: make of rows. Conditions: none. -/
import Derived.Test.YtjjbnmlhbbnhcaaGa
import Derived.Deep.OwnRows
set_option linter.unusedVariables false
set_option linter.unusedSimpArgs false
namespace Go.Proofs.Ytjjbnmlhbbnhcaa
open Go.RowKit G
namespace G
section
variable {α : Type} {E : Enc α} {T : TypeId} {H : List SP} {P : Program} {n : Nat} {L : List (Nat × Value)} {c : Code}
theorem made_list (z : Value) (m : Nat) : (madeCells #[z] m).toList = List.replicate m z := by
  apply List.ext_getElem
  · simp [madeCells]
  · intro i h1 h2; simp [madeCells, Nat.mod_one]
theorem flat_replicate (x0 : α) (z : Value) (h : E.enc x0 = [z]) : ∀ m, E.flat (List.replicate m x0) = List.replicate m z
  | 0 => rfl
  | m + 1 => by rw [List.replicate_succ, Enc.flat_cons, flat_replicate x0 z h m, h, List.replicate_succ]; rfl
/-- make, elements of one cell. -/
theorem mkS {i : Nat} (t : TypeId) (ln cp : Operand) (m : Nat) (x0 : α) (z : Value) (bytes : Nat) (d : Option Tmp) (hg : ∀ rest, goes n c i L rest = true) (hd : (opAt c i).dst = d) (hop : (opAt c i).op = .makeSlice t ln cp)
    (hl : ∀ rest, evalL L rest ln = .int .i64 (m : Int)) (hc : ∀ rest, evalL L rest cp = .int .i64 (m : Int)) (ht : P.underlying t = some (.slice T))
    (hinfo : (P.info? T).map (fun i => (i.zero, i.size, i.bytes)) = some (some z, 1, bytes)) (hz1 : z.cells = #[z]) (hx0 : E.enc x0 = [z]) (hb : bytes ≤ 64) (hm : m ≤ 1000000) :
    Step P n L H c i d (fun b : Nat => .slice (some ⟨b, 0, none⟩) m m) (fun b => row E T (.slice (some ⟨b, 0, none⟩) m m) (List.replicate m x0) :: H) := by
  refine valueS d _ _ hg hd ?_
  intro rest w _ hs
  have hk1 : E.k = 1 := by rw [← E.len x0, hx0]; rfl
  have hbm : bytes * m ≤ 64 * 1000000 := Nat.mul_le_mul hb hm
  refine ⟨w.heap.size, w.alloc (.cells (madeCells #[z] m) T), ?_, ?_⟩
  · unfold execOp
    simp only [hop, hl, hc, Sem.run_bind, run_make_row' t T z bytes ht hinfo hz1 .i64 .i64 m (by omega) (by omega) w, Result.andThen_ok]
    rfl
  · refine Sat.fresh hs (Upd.alloc _ _ _) (G' := OneB w.heap.size) ?_ (fun b hb => by cases hb; exact Nat.le_refl _)
    refine .inr ⟨w.heap.size, 0, m, _, by rw [List.length_replicate], rfl, heap_alloc_new w _, by rw [List.length_replicate]; exact Nat.le_refl _, by unfold maxLen; omega, ?_, ?_⟩
    · have : (madeCells #[z] m).size = m := by rw [← Array.length_toList, made_list, List.length_replicate]
      rw [this, hk1]; omega
    · rw [List.drop_zero, made_list, flat_replicate x0 z hx0, List.length_replicate, hk1, Nat.mul_one]
      exact List.take_of_length_le (by simp)
end
end G
end Go.Proofs.Ytjjbnmlhbbnhcaa
