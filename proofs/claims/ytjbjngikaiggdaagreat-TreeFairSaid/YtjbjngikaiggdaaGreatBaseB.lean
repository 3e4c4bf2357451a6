/- Words of our own for the walks: append, cut, index over rows. Conditions: none. -/
import Derived.Test.YtjbjngikaiggdaaGreatBase
namespace Go.Proofs.YtjbjngikaiggdaaGreat
open Go.RowKit
section
variable {α : Type} {E : Enc α} {T : TypeId} {w w' : World} {F G : Nat → Prop} {v y : Value} {xs ys : List α} {P : Program}

theorem take_mid {β : Type} (l : List β) (o n m : Nat) (ys : List β) (hy : ys.length = m) (hl : o + n + m ≤ l.length) :
    ((l.take (o + n) ++ ys ++ l.drop (o + n + m)).drop o).take (n + m) = (l.drop o).take n ++ ys := by
  have h1 : (l.take (o + n) ++ ys ++ l.drop (o + n + m)).drop o = (l.drop o).take n ++ (ys ++ l.drop (o + n + m)) := by
    rw [List.append_assoc, List.drop_append, List.length_take, show o - min (o + n) l.length = 0 by omega, List.drop_zero, List.drop_take]
    congr 2; omega
  rw [h1, ← List.append_assoc, List.take_append, List.take_of_length_le (by simp; omega)]
  have : n + m - ((l.drop o).take n ++ ys).length = 0 := by simp; omega
  rw [this, List.take_zero, List.append_nil]

/-- The element type's row of the table. -/
structure Ety (P : Program) (E : Enc α) (T : TypeId) (z : Value) : Prop where
  info : ∃ i, P.info? T = some i ∧ i.zero = some z ∧ i.size = E.k ∧ i.bytes ≤ 65536
  zero : z.cells.size = E.k

theorem run_append_row {t ty : TypeId} {z : Value} (ht : P.underlying t = some (.slice T)) (hE : Ety P E T z)
    (hrow : Row E T w F v xs) (hy : Rd E w y ys) (hn : xs.length + ys.length ≤ 1073741824) :
    ∃ v' w' F', (Builtin.append_ #[t, t] ty #[v, y]).run P w = .ok v' w' ∧ Row E T w' F' v' (xs ++ ys) ∧ Upd F w w' ∧ (∀ b, F' b → F b ∨ w.heap.size ≤ b) ∧ (ys ≠ [] → v' ≠ .slice none 0 0) := by
  obtain ⟨⟨i, hi, hz, hsize, hbt⟩, hzs⟩ := hE
  obtain ⟨ao, cy, rfl, hy1, hy2, hy3, hy4⟩ := hy
  have hflat := E.flat_length ys
  have hkk := E.kpos
  have hbytes : (xs.length + ys.length) * i.bytes ≤ 140737488355328 := by
    have := Nat.mul_le_mul hn hbt
    omega
  -- the grown row
  have grown : ∀ cap : Nat, xs.length + ys.length ≤ cap → cap ≤ maxLen → Row E T (w.drew.alloc (.cells ((E.flat xs).toArray ++ (E.flat ys).toArray ++ Builtin.zeroCells z.cells (cap - (xs.length + ys.length))) T)) (OneB w.heap.size) (.slice (some ⟨w.heap.size, 0, none⟩) (xs.length + ys.length) cap) (xs ++ ys) := by
    intro cap hc1 hc2
    refine .inr ⟨w.heap.size, 0, cap, _, by rw [List.length_append], rfl, heap_alloc_new w.drew _, by rw [List.length_append]; exact hc1, hc2, ?_, ?_⟩
    · simp only [Array.size_append, List.size_toArray, size_zeroCells, hzs, E.flat_length, Nat.zero_add, ← Nat.add_mul]
      exact Nat.le_of_eq (by congr 1; omega)
    · simp only [Array.toList_append, List.drop_zero, List.length_append]
      rw [← E.flat_append]
      have hl : (xs.length + ys.length) * E.k = (E.flat (xs ++ ys)).length := by rw [E.flat_length, List.length_append]
      rw [hl]; exact List.take_left
  have updNew : ∀ o : Obj, Upd F w (w.drew.alloc o) := fun o => (Upd.drew F w).trans (Upd.alloc F w.drew o)
  rcases hrow with ⟨rfl, rfl, rfl⟩ | ⟨b, o, c, cur, rfl, rfl, hb, hc1, hc2, hc3, hcur⟩
  · by_cases hm : ys = []
    · subst hm
      refine ⟨.slice none 0 0, w, NoB, ?_, Row.nil E T w, Upd.refl _ w, fun b hb => hb.elim, fun h => absurd rfl h⟩
      cases ao <;> simp [Builtin.append_, run_underlying ht, sizeOf, typeInfo, hi, Builtin.lenOf, Builtin.firstCells, loadCells, loadCellsFrom]
    · cases ao with
      | none => exact absurd (hy3 rfl).1 hm
      | some a =>
        obtain ⟨ab, aoff, asp⟩ := a
        have hcells := hy4 _ rfl
        have hpos : 0 < ys.length := by cases ys with | nil => exact absurd rfl hm | cons _ _ => simp
        have hlen : (E.flat ys).length = ys.length * i.size := by rw [hsize]; exact hflat
        have hcap : (grownCap w ys.length 0 T) ≤ maxLen := grownCap_le_maxLen w _ 0 T (by simp [maxLen]; simp at hn; omega)
        have hr := run_append_nil (P := P) w t ty T i z ht hi hz ⟨ab, aoff, asp⟩ ys.length cy (E.flat ys) hlen hcells hpos (by simp at hn; omega) (by simp at hbytes; omega)
        refine ⟨_, _, OneB w.heap.size, hr, ?_, updNew _, fun b hb => .inr (by cases hb; exact Nat.le_refl _), fun _ h => by cases h⟩
        have g := grown (grownCap w ys.length 0 T) (by simpa using grownCap_ge w ys.length 0 T) hcap
        simpa [Enc.flat_nil] using g
  · by_cases hroom : xs.length + ys.length ≤ c
    · -- in place
      have hlen : (E.flat ys).length = ys.length * i.size := by rw [hsize]; exact hflat
      have hfit : o + xs.length * E.k + (E.flat ys).length ≤ cur.size := by
        rw [hflat]
        have := Nat.mul_le_mul_right E.k hroom
        rw [Nat.add_mul] at this
        omega
      have hf : (Builtin.firstCells E.k ys.length (.slice ao ys.length cy)).run P w = .ok (E.flat ys).toArray w := by
        cases ao with
        | none => rw [(hy3 rfl).1]; simp [Builtin.firstCells, Enc.flat_nil]
        | some a =>
          obtain ⟨ab, aoff, asp⟩ := a
          have hcells := hy4 _ rfl
          exact run_firstCells_some (P := P) w E.k ys.length ⟨ab, aoff, asp⟩ ys.length cy (E.flat ys) hflat hcells
      have hst := run_storeCells_at P b (o + xs.length * E.k) T (E.flat ys) 0 cur w hb (by simpa using hfit) (E.flat_one' ys)
      simp only [Nat.add_zero] at hst
      have hr : (Builtin.append_ #[t, t] ty #[.slice (some ⟨b, o, none⟩) xs.length c, .slice ao ys.length cy]).run P w =
          .ok (.slice (some ⟨b, o, none⟩) (xs.length + ys.length) c) (w.setRow b (cur.toList.take (o + xs.length * E.k) ++ E.flat ys ++ cur.toList.drop (o + xs.length * E.k + (E.flat ys).length)).toArray) := by
        simp [Builtin.append_, run_underlying ht, sizeOf, typeInfo, hi, hsize, Builtin.lenOf, hroom, hf, Addr.add_lit, hst]
      refine ⟨_, _, OneB b, hr, .inr ⟨b, o, c, _, by rw [List.length_append], rfl, setRow_heap w b cur _ T _ hb, by rw [List.length_append]; exact hroom, hc2, ?_, ?_⟩, ⟨rfl, rfl, rfl, by simp [World.setRow], fun k _ hk => setRow_other w b k _ (fun e => hk e)⟩, fun b hb => .inl hb, fun _ h => by cases h⟩
      · simp only [List.size_toArray, List.length_append, List.length_take, List.length_drop, Array.length_toList]
        omega
      · rw [List.length_append, Nat.add_mul, E.flat_append, ← hcur, ← hflat]
        exact take_mid cur.toList o (xs.length * E.k) (E.flat ys).length (E.flat ys) rfl (by simpa using hfit)
    · -- a new row
      cases ao with
      | none =>
        have := (hy3 rfl).1; subst this
        simp at hroom; omega
      | some a =>
        obtain ⟨ab, aoff, asp⟩ := a
        have hcells := hy4 _ rfl
        have hlen : (E.flat ys).length = ys.length * i.size := by rw [hsize]; exact hflat
        have hlx : (E.flat xs).length = xs.length * i.size := by rw [hsize]; exact E.flat_length xs
        have hxs : ∀ j u, (E.flat xs)[j]? = some u → w.cell? ((⟨b, o, none⟩ : Addr).add j) = some u := by
          intro j u hu
          rw [Addr.add_lit, cell_of_row w b (o + j) cur T (0, 0) hb]
          rw [← hcur, List.getElem?_take] at hu
          split at hu
          · rw [List.getElem?_drop] at hu; simpa using hu
          · cases hu
        have hcap : (grownCap w (xs.length + ys.length) c T) ≤ maxLen := grownCap_le_maxLen w _ c T (by simp [maxLen]; omega)
        have hr := run_append_grow (P := P) w t ty T i z ht hi hz ⟨b, o, none⟩ xs.length c (E.flat xs) hlx hxs ⟨ab, aoff, asp⟩ ys.length cy (E.flat ys) hlen hcells (by omega) (by omega) (growslice_fits (by omega) hbytes)
        exact ⟨_, _, OneB w.heap.size, hr, grown _ (grownCap_ge w _ c T) hcap, updNew _, fun b hb => .inr (by cases hb; exact Nat.le_refl _), fun _ h => by cases h⟩
end
end Go.Proofs.YtjbjngikaiggdaaGreat
