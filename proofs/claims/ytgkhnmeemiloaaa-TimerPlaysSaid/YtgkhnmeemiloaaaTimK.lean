/- What the laws' first call looks at, of timers. Conditions: none. -/
import Derived.Test.YtgkhnmeemiloaaaTim2
set_option linter.unusedVariables false
set_option linter.unusedSimpArgs false
namespace Go.Proofs.Ytgkhnmeemiloaaa
open Go.RowKit

/-- Timers that are newer than the world w0. -/
def TS (w0 w : World) (p : Value) (l : List (Int × Int)) : Prop := ∃ F, TmAt w F p l ∧ (∀ b, F b → w0.heap.size ≤ b) ∧ Upd NoB w0 w
theorem Upd.newer {F : Nat → Prop} {w0 w w' : World} (h : Upd NoB w0 w) (k : Upd F w w') (hF : ∀ b, F b → w0.heap.size ≤ b) : Upd NoB w0 w' :=
  h.then k (fun b hb hb' => by have := hF b hb'; omega)
theorem ts_set {w0 w : World} {p : Value} {l : List (Int × Int)} (h : TS w0 w p l) (id u : Int) (hn : l.length ≤ 1000000000) :
    Calls Try.prog 14 #[p, .int .i64 id, .int .i64 u] w fun e w' => e = .returned (.tuple #[]) ∧ TS w0 w' p (tmSet id u l) := by
  obtain ⟨F, h1, h2, h3⟩ := h
  refine (tm_set w F p l id u h1 hn).mono ?_
  rintro e w' ⟨F', rfl, g1, g2, g3⟩
  exact ⟨rfl, F', g1, fun b hb => (g3 b hb).elim (h2 b) (fun h => Nat.le_trans h3.size h), h3.newer g2 h2⟩
theorem ts_drop {w0 w : World} {p : Value} {l : List (Int × Int)} (h : TS w0 w p l) (id : Int) (hn : l.length ≤ 1000000000) :
    Calls Try.prog 16 #[p, .int .i64 id] w fun e w' => e = .returned (.bool (tmPlace id l).2) ∧ TS w0 w' p (tmDrop id l) := by
  obtain ⟨F, h1, h2, h3⟩ := h
  refine (tm_drop w F p l id h1 hn).mono ?_
  rintro e w' ⟨F', rfl, g1, g2, g3⟩
  exact ⟨rfl, F', g1, fun b hb => (g3 b hb).elim (h2 b) (fun h => Nat.le_trans h3.size h), h3.newer g2 h2⟩
theorem ts_next {w0 w : World} {p : Value} {l : List (Int × Int)} (h : TS w0 w p l) (hn : l.length ≤ 1000000000) :
    Calls Try.prog 21 #[p] w fun e w' => e = .returned (.tuple #[.int .i64 (tmNextOf l).1, .bool (tmNextOf l).2]) ∧ TS w0 w' p l := by
  obtain ⟨F, h1, h2, h3⟩ := h
  refine (tm_next w F p l h1 hn).mono ?_
  rintro e w' ⟨rfl, g1⟩
  exact ⟨rfl, F, h1.upd g1 (fun _ _ h => h), h2, h3.trans g1⟩
theorem ts_len {w0 w : World} {p : Value} {l : List (Int × Int)} (h : TS w0 w p l) :
    Calls Try.prog 23 #[p] w fun e w' => e = .returned (.int .i64 l.length) ∧ w = w' := by
  obtain ⟨F, h1, h2, h3⟩ := h
  exact tm_len w F p l h1
theorem ts_new (w : World) : Calls Try.prog 13 #[] w fun e w' => ∃ b, e = .returned (.pointer (some ⟨b, 0, none⟩)) ∧ TS w w' (.pointer (some ⟨b, 0, none⟩)) [] := by
  refine (tm_new w).mono ?_
  rintro e w' ⟨rfl, rfl⟩
  exact ⟨_, rfl, _, tm_new_at w, fun b hb => hb.elim (fun h => by cases h; exact Nat.le_refl _) (fun h => h.elim), Upd.alloc _ _ _⟩
/-- A row apart from timers, newer than w0. -/
def TR (w0 w : World) (p : Value) (l : List (Int × Int)) (v : Value) (r : List Int) : Prop := ∃ F G, TmAt w F p l ∧ (∀ b, F b → w0.heap.size ≤ b) ∧ Upd NoB w0 w ∧ Row intE 3 w G v r ∧ (∀ x, G x → w0.heap.size ≤ x ∧ ¬ F x)
theorem TR.ts {w0 w : World} {p : Value} {l : List (Int × Int)} {v : Value} {r : List Int} (h : TR w0 w p l v r) : TS w0 w p l := by
  obtain ⟨F, G, h1, h2, h3, _⟩ := h; exact ⟨F, h1, h2, h3⟩
theorem TR.rd {w0 w : World} {p : Value} {l : List (Int × Int)} {v : Value} {r : List Int} (h : TR w0 w p l v r) : Rd intE w v r := by
  obtain ⟨F, G, h1, h2, h3, h4, _⟩ := h; exact h4.rd
theorem ts_due {w0 w : World} {p : Value} {l : List (Int × Int)} (h : TS w0 w p l) (t : Int) (hn : l.length ≤ 1000000000) :
    Calls Try.prog 19 #[p, .int .i64 t] w fun e w' => ∃ v, e = .returned v ∧ TR w0 w' p (restOf t l) v (dueOf t l) := by
  obtain ⟨F, h1, h2, h3⟩ := h
  refine (tm_due w F p l t h1 hn).mono ?_
  rintro e w' ⟨v, F', G, rfl, g1, g2, g3, g4, g5⟩
  exact ⟨v, rfl, F', G, g1, fun b hb => (g3 b hb).elim (h2 b) (fun h => Nat.le_trans h3.size h), h3.newer g2 h2, g4, fun x hx => ⟨Nat.le_trans h3.size (g5 x hx).1, (g5 x hx).2⟩⟩
theorem tr_drop {w0 w : World} {p : Value} {l : List (Int × Int)} {v : Value} {r : List Int} (h : TR w0 w p l v r) (id : Int) (hn : l.length ≤ 1000000000) :
    Calls Try.prog 16 #[p, .int .i64 id] w fun e w' => e = .returned (.bool (tmPlace id l).2) ∧ TR w0 w' p (tmDrop id l) v r := by
  obtain ⟨F, G, h1, h2, h3, h4, h5⟩ := h
  refine (tm_drop w F p l id h1 hn).mono ?_
  rintro e w' ⟨F', rfl, g1, g2, g3⟩
  refine ⟨rfl, F', G, g1, fun b hb => (g3 b hb).elim (h2 b) (fun h => Nat.le_trans h3.size h), h3.newer g2 h2, h4.upd g2 (fun b hb => (h5 b hb).2), fun x hx => ⟨(h5 x hx).1, fun hf => ?_⟩⟩
  rcases g3 x hf with h | h
  · exact (h5 x hx).2 h
  · have := h4.lt x hx; omega

set_option maxHeartbeats 4000000 in
set_option maxRecDepth 100000 in
theorem tm_known (w : World) : Calls Try.prog 12 #[] w fun e w' => e = .returned (.bool true) ∧ Upd NoB w w' := by
  go_enter Try.func12, Try.ntmps12
  go_wp2_with (go_at_call 13; refine (ts_new w).mono ?_; rintro e w1 ⟨b, rfl, h1⟩; have H1 := Lib.hid h1; clear h1)
  refine (ts_next H1.out (by decide)).mono ?_
  rintro e w2 ⟨rfl, h2⟩
  rw [show (tmNextOf []).1 = 0 from rfl, show (tmNextOf []).2 = false from rfl]
  have H2 := Lib.hid h2
  clear h2
  go_wp2_with fail
  refine (ts_set H2.out 2 5 (by decide)).mono ?_
  rintro e w3 ⟨rfl, h3⟩
  have H3 := Lib.hid h3
  clear h3
  go_wp2_with fail
  refine (ts_set H3.out 1 9 (by decide)).mono ?_
  rintro e w4 ⟨rfl, h4⟩
  have H4 := Lib.hid h4
  clear h4
  go_wp2_with fail
  refine (ts_set H4.out 3 5 (by decide)).mono ?_
  rintro e w5 ⟨rfl, h5⟩
  rw [show tmSet 3 5 (tmSet 1 9 (tmSet 2 5 [])) = [(1, 9), (2, 5), (3, 5)] by decide] at h5
  have H5 := Lib.hid h5
  clear h5
  go_wp2_with fail
  refine (ts_next H5.out (by decide)).mono ?_
  rintro e w6 ⟨rfl, h6⟩
  rw [show (tmNextOf [((1 : Int), (9 : Int)), (2, 5), (3, 5)]).1 = 5 by decide, show (tmNextOf [((1 : Int), (9 : Int)), (2, 5), (3, 5)]).2 = true from rfl]
  have H6 := Lib.hid h6
  clear h6
  go_wp2_with fail
  refine (ts_due H6.out 5 (by decide)).mono ?_
  rintro e w7 ⟨v, rfl, h7⟩
  rw [show restOf 5 [(1, 9), (2, 5), (3, 5)] = [(1, 9)] by decide, show dueOf 5 [(1, 9), (2, 5), (3, 5)] = [2, 3] by decide] at h7
  have H7 := Lib.hid h7
  clear h7
  go_wp2_with fail
  refine (tr_drop H7.out 1 (by decide)).mono ?_
  rintro e w8 ⟨rfl, h8⟩
  rw [show (tmPlace 1 [((1 : Int), (9 : Int))]).2 = true by decide]
  rw [show tmDrop 1 [((1 : Int), (9 : Int))] = [] by decide] at h8
  have H8 := Lib.hid h8
  clear h8
  go_wp2_with fail
  refine (tr_drop H8.out 1 (by decide)).mono ?_
  rintro e w9 ⟨rfl, h9⟩
  rw [show (tmPlace 1 []).2 = false from rfl]
  rw [show tmDrop 1 [] = [] from rfl] at h9
  obtain ⟨b2, o, c, hv, hc1, hc2, hcell⟩ := h9.rd.at (i := 0) (by decide)
  subst hv
  have g0 : w9.cell? ⟨b2, o, none⟩ = some (.int .i64 2) := hcell 0 0 2 _ rfl rfl
  have g1 : w9.cell? ⟨b2, o + 1, none⟩ = some (.int .i64 3) := hcell 1 0 3 _ rfl rfl
  have hlen := ts_len h9.ts
  have HL := Lib.hid hlen
  have HU : Hid (Upd NoB w w9) := by obtain ⟨_, _, _, h⟩ := h9.ts; exact h
  clear h9 hcell hlen H1 H2 H3 H4 H5 H6 H7 H8
  go_wp2_with (go_at_call 23; refine HL.out.mono ?_; rintro e w' ⟨rfl, rfl⟩)
  go_ret
  exact ⟨by simp, HU.out⟩
end Go.Proofs.Ytgkhnmeemiloaaa
