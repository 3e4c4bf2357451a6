/- Sleepers' rows: sorted by their numbers; what a setting, a waking leaves. Conditions: none. -/
import Derived.Test.YtgkhnmeemiloaaaTimK
import Derived.Test.YtgkhnmeemiloaaaOpen
import Derived.OpenShut
namespace Go.Proofs.Ytgkhnmeemiloaaa
open Go.RowKit

def Srt (l : List (Int × Int)) : Prop := l.Pairwise (fun a b => a.1 < b.1)
theorem Srt.nil : Srt [] := List.Pairwise.nil
theorem mem_tmSet (id u : Int) : ∀ (l : List (Int × Int)), Srt l → ∀ x, x ∈ tmSet id u l ↔ x = (id, u) ∨ (x.1 ≠ id ∧ x ∈ l)
  | [], _, x => by simp [tmSet]
  | y :: r, h, x => by
    have h1 := List.pairwise_cons.1 h
    unfold tmSet
    by_cases hlt : id < y.1
    · rw [if_pos hlt]
      constructor
      · intro hx
        rcases List.mem_cons.1 hx with h | h
        · exact .inl h
        · refine .inr ⟨?_, h⟩
          rcases List.mem_cons.1 h with rfl | h
          · omega
          · have := h1.1 x h; omega
      · rintro (h | ⟨_, h⟩)
        · simp [h]
        · simp [List.mem_cons.1 h]
    · rw [if_neg hlt]
      by_cases he : y.1 = id
      · rw [if_pos he]
        constructor
        · intro hx
          rcases List.mem_cons.1 hx with h | h
          · exact .inl h
          · exact .inr ⟨by have := h1.1 x h; omega, by simp [h]⟩
        · rintro (h | ⟨hn, h⟩)
          · simp [h]
          · rcases List.mem_cons.1 h with rfl | h
            · exact absurd he hn
            · simp [h]
      · rw [if_neg he, List.mem_cons, mem_tmSet id u r h1.2 x, List.mem_cons]
        constructor
        · rintro (rfl | h | ⟨h1, h2⟩)
          · exact .inr ⟨he, .inl rfl⟩
          · exact .inl h
          · exact .inr ⟨h1, .inr h2⟩
        · rintro (h | ⟨h1, rfl | h2⟩)
          · exact .inr (.inl h)
          · exact .inl rfl
          · exact .inr (.inr ⟨h1, h2⟩)
theorem Srt.set {l : List (Int × Int)} (id u : Int) (h : Srt l) : Srt (tmSet id u l) := by
  induction l with
  | nil => exact List.pairwise_singleton _ _
  | cons y r ih =>
    have h1 := List.pairwise_cons.1 h
    unfold tmSet
    by_cases hlt : id < y.1
    · rw [if_pos hlt]
      exact List.pairwise_cons.2 ⟨fun x hx => by
        rcases List.mem_cons.1 hx with rfl | hx
        · exact hlt
        · have := h1.1 x hx; show id < x.1; omega, h⟩
    · rw [if_neg hlt]
      by_cases he : y.1 = id
      · rw [if_pos he]
        exact List.pairwise_cons.2 ⟨fun x hx => by have := h1.1 x hx; show id < x.1; omega, h1.2⟩
      · rw [if_neg he]
        refine List.pairwise_cons.2 ⟨fun x hx => ?_, ih h1.2⟩
        rcases (mem_tmSet id u r h1.2 x).1 hx with rfl | ⟨_, hx⟩
        · show y.1 < id; omega
        · exact h1.1 x hx
theorem tmSet_len (id u : Int) (l : List (Int × Int)) : (tmSet id u l).length ≤ l.length + 1 := by
  induction l with
  | nil => simp [tmSet]
  | cons y r ih => unfold tmSet; split <;> (try split) <;> simp_all
theorem Srt.rest {l : List (Int × Int)} (t : Int) (h : Srt l) : Srt (restOf t l) := List.Pairwise.filter _ h
theorem Srt.due {l : List (Int × Int)} (t : Int) (h : Srt l) : (dueOf t l).Pairwise (· < ·) := by
  unfold dueOf
  exact List.pairwise_map.2 (List.Pairwise.filter _ h)
theorem mem_due {l : List (Int × Int)} (t id : Int) : id ∈ dueOf t l ↔ ∃ u, (id, u) ∈ l ∧ u ≤ t := by
  simp [dueOf]
theorem mem_rest {l : List (Int × Int)} (t : Int) (x : Int × Int) : x ∈ restOf t l ↔ x ∈ l ∧ t < x.2 := by
  simp [restOf]
theorem due_set {l : List (Int × Int)} (h : Srt l) (id u t : Int) : id ∈ dueOf t (tmSet id u l) ↔ u ≤ t := by
  rw [mem_due]
  constructor
  · rintro ⟨v, hv, ht⟩
    rcases (mem_tmSet id u l h _).1 hv with e | ⟨e, _⟩
    · cases e; exact ht
    · exact absurd rfl e
  · intro ht
    exact ⟨u, (mem_tmSet id u l h _).2 (.inl rfl), ht⟩
theorem due_length (t : Int) (l : List (Int × Int)) : (dueOf t l).length + (restOf t l).length = l.length := by
  unfold dueOf restOf
  rw [List.length_map]
  induction l with
  | nil => rfl
  | cons x r ih =>
    rw [List.filter_cons, List.filter_cons]
    cases hd : decide (x.2 ≤ t) <;> simp <;> omega

/-- A row of numbers, apart from timers newer than w0; a second row of timers beside it. -/
def TS2 (w0 w : World) (p q : Value) (l m : List (Int × Int)) : Prop := ∃ F G, TmAt w F p l ∧ TmAt w G q m ∧ (∀ b, F b → w0.heap.size ≤ b) ∧ (∀ b, G b → w0.heap.size ≤ b) ∧ (∀ b, F b → ¬ G b) ∧ Upd NoB w0 w
theorem TS2.swap {w0 w : World} {p q : Value} {l m : List (Int × Int)} (h : TS2 w0 w p q l m) : TS2 w0 w q p m l := by
  obtain ⟨F, G, h1, h2, h3, h4, h5, h6⟩ := h
  exact ⟨G, F, h2, h1, h4, h3, fun b hg hf => h5 b hf hg, h6⟩
theorem t2_set {w0 w : World} {p q : Value} {l m : List (Int × Int)} (h : TS2 w0 w p q l m) (id u : Int) (hn : l.length ≤ 1000000000) :
    Calls Try.prog 14 #[p, .int .i64 id, .int .i64 u] w fun e w' => e = .returned (.tuple #[]) ∧ TS2 w0 w' p q (tmSet id u l) m := by
  obtain ⟨F, G, h1, h2, h3, h4, h5, h6⟩ := h
  refine (tm_set w F p l id u h1 hn).mono ?_
  rintro e w' ⟨F', rfl, g1, g2, g3⟩
  refine ⟨rfl, F', G, g1, h2.upd g2 (fun b hg hf => h5 b hf hg), fun b hb => (g3 b hb).elim (h3 b) (fun h => Nat.le_trans h6.size h), h4, fun b hf hg => ?_, h6.newer g2 h3⟩
  rcases g3 b hf with h | h
  · exact h5 b h hg
  · have := h2.lt b hg; omega
theorem t2_set' {w0 w : World} {p q : Value} {l m : List (Int × Int)} (h : TS2 w0 w p q l m) (id u : Int) (hn : m.length ≤ 1000000000) :
    Calls Try.prog 14 #[q, .int .i64 id, .int .i64 u] w fun e w' => e = .returned (.tuple #[]) ∧ TS2 w0 w' p q l (tmSet id u m) := by
  refine (t2_set h.swap id u hn).mono ?_
  rintro e w' ⟨rfl, h⟩
  exact ⟨rfl, h.swap⟩
theorem t2_new {w0 w : World} {p : Value} {l : List (Int × Int)} (h : TS w0 w p l) : Calls Try.prog 13 #[] w fun e w' => ∃ b, e = .returned (.pointer (some ⟨b, 0, none⟩)) ∧ TS2 w0 w' p (.pointer (some ⟨b, 0, none⟩)) l [] := by
  obtain ⟨F, h1, h2, h3⟩ := h
  refine (tm_new w).mono ?_
  rintro e w' ⟨rfl, rfl⟩
  refine ⟨_, rfl, F, _, h1.upd (Upd.alloc NoB _ _) (fun _ _ h => h), tm_new_at w, h2, ?_, ?_, h3.trans (Upd.alloc _ _ _)⟩
  · rintro b (rfl | h)
    · exact h3.size
    · exact h.elim
  · rintro b hb (rfl | h)
    · have := h1.lt _ hb; omega
    · exact h.elim
theorem t2_due {w0 w : World} {p q : Value} {l m : List (Int × Int)} (h : TS2 w0 w p q l m) (t : Int) (hn : l.length ≤ 1000000000) :
    Calls Try.prog 19 #[p, .int .i64 t] w fun e w' => ∃ v, e = .returned v ∧ TR w0 w' q m v (dueOf t l) := by
  obtain ⟨F, G, h1, h2, h3, h4, h5, h6⟩ := h
  refine (tm_due w F p l t h1 hn).mono ?_
  rintro e w' ⟨v, F', H, rfl, g1, g2, g3, g4, g5⟩
  refine ⟨v, rfl, G, H, h2.upd g2 (fun b hg hf => h5 b hf hg), h4, h6.newer g2 h3, g4, fun x hx => ⟨Nat.le_trans h6.size (g5 x hx).1, fun hg => ?_⟩⟩
  have := h2.lt x hg
  have := (g5 x hx).1
  omega
theorem tr_due {w0 w : World} {p : Value} {l : List (Int × Int)} {v : Value} {r : List Int} (h : TR w0 w p l v r) (t : Int) (hn : l.length ≤ 1000000000) :
    Calls Try.prog 19 #[p, .int .i64 t] w fun e w' => ∃ v', e = .returned v' ∧ Upd NoB w0 w' ∧ Rd intE w' v r ∧ Rd intE w' v' (dueOf t l) := by
  obtain ⟨F, G, h1, h2, h3, h4, h5⟩ := h
  refine (tm_due w F p l t h1 hn).mono ?_
  rintro e w' ⟨v', F', H, rfl, g1, g2, g3, g4, g5⟩
  exact ⟨v', rfl, h3.newer g2 h2, (h4.upd g2 (fun b hb => (h5 b hb).2)).rd, g4.rd⟩
end Go.Proofs.Ytgkhnmeemiloaaa
