/- plan.Count: its walk. Conditions: none. -/
import Derived.Test.YtjjbnmlhbbnhcaaSlg
set_option linter.unusedVariables false
set_option linter.unusedSimpArgs false
namespace Go.Proofs.Ytjjbnmlhbbnhcaa
open Go.RowKit G
set_option maxRecDepth 100000 in
theorem countG_walk (H : List SP) (A : Option Addr) (c : Nat) (l : List Int) (d : Int) (hk : KnI H A l) (hc : l.length ≤ c) (hl : l.length ≤ 9223372036854775807) : ∀ w, Sat w H →
    Calls Try.prog 12 #[.slice A l.length c, .int .i64 d] w (Ret (ι := Unit) (fun _ => .int .i64 (countOf l d)) fun _ => H) := by
  refine enterG (fn := Try.f12) 19 [.slice A l.length c, .int .i64 d] Try.func12 (by kernel_rfl) (by kernel_rfl) (by kernel_rfl) ?_
  refine seqR (by kernel_rfl) ?_
  refine regionR 1 (by kernel_rfl) (by kernel_rfl) ?_
  refine (run0 (z := 0) 1 [0, 1, 4] [(0, .slice A l.length c), (1, .int .i64 d), (4, .int .i64 0)] (fun _ => by kernel_rfl) (endR ?_) : RT _ _ _ _ _ _ 1 _)
  refine scopeG 0 (fun (x : CntX) => [(0, .slice x.A x.l.length x.c), (1, .int .i64 d), (5, .int .i64 x.m)]) (fun _ => (H)) (fun k (x : CntX) => k = x.l.length ∧ KnI H x.A x.l ∧ x.l.length ≤ x.c ∧ x.m + countOf x.l d = countOf l d ∧ 0 ≤ x.m) (by kernel_rfl) (by kernel_rfl) (by kernel_rfl) (by kernel_rfl) ?_ ?_
  · skip
    rintro k ⟨A, c, xs, m⟩ ⟨rfl, hk, hc, hm, hm0⟩ K hK
    dsimp only at hk hc hm hm0 ⊢
    cases xs with
    | nil =>
      refine seqR (by kernel_rfl) ?_
      refine seqR (by kernel_rfl) ?_
      refine regionR 3 (by kernel_rfl) (by kernel_rfl) ?_
      refine (run0 (z := 0) 3 [0, 1, 5, 8] [(0, .slice A (([] : List Int).length) c), (1, .int .i64 d), (5, .int .i64 m), (8, .bool ((([] : List Int).length : Int) == 0))] (fun _ => by kernel_rfl) (endR ?_) : RT _ _ _ _ _ _ 3 _)
      refine condR (b := true) (by kernel_rfl) (fun _ => by kernel_rfl) (fun _ => ?_) (fun h => by cases h)
      refine seqR (by kernel_rfl) ?_
      refine regionR 2 (by kernel_rfl) (by kernel_rfl) ?_
      refine (run0 (z := 0) 2 [0, 1, 5, 4] [(0, .slice A (([] : List Int).length) c), (1, .int .i64 d), (5, .int .i64 m), (4, .int .i64 m)] (fun _ => by kernel_rfl) (endR ?_) : RT _ _ _ _ _ _ 2 _)
      refine retR (by kernel_rfl) ?_
      refine thenV ?_
      refine jumpV ?_
      refine done0 (.int .i64 m) (fun _ => by kernel_rfl) (fun w hs => ?_) .ret (.inr rfl)
      have : m = countOf l d := by simpa [countOf] using hm
      rw [this]; exact ⟨(), rfl, hs⟩
    | cons x r =>
      refine seqR (by kernel_rfl) ?_
      refine seqR (by kernel_rfl) ?_
      refine regionR 3 (by kernel_rfl) (by kernel_rfl) ?_
      refine (run0 (z := 0) 3 [0, 1, 5, 8] [(0, .slice A ((x :: r).length) c), (1, .int .i64 d), (5, .int .i64 m), (8, .bool (((x :: r).length : Int) == 0))] (fun _ => by kernel_rfl) (endR ?_) : RT _ _ _ _ _ _ 3 _)
      refine condR (b := false) (by kernel_rfl) (fun _ => by kernel_rfl) (fun h => by cases h) (fun _ => ?_)
      refine skipR (by kernel_rfl) ?_
      refine seqR (by kernel_rfl) ?_
      refine seqR (by kernel_rfl) ?_
      refine regionR 5 (by kernel_rfl) (by kernel_rfl) ?_
      refine (run0 (z := 4) 1 [0, 1, 5, 10] [(0, .slice A ((x :: r).length) c), (1, .int .i64 d), (5, .int .i64 m), (10, .slice A ((x :: r).length) c)] (fun _ => by kernel_rfl) ?_ : RT _ _ _ _ _ _ 5 _)
      refine PT.know (hk.isSome (by simp)) ?_
      rintro ⟨b, o, rfl⟩
      refine (stepR (z := 3) (yldS (idxY 26 (.tmp 10) (.const (.int .i64 0)) b o ((x :: r).length) c 0 1 3 0 .i64 (some 11) (fun _ => by kernel_rfl) (by kernel_rfl) (by kernel_rfl) (fun _ => by kernel_rfl) (fun _ => by kernel_rfl) Try.underlying26 (by kernel_rfl) (by first | rfl | assumption | simp) (by first | omega | (simp; done) | (simp; omega) | (simp at *; omega)))) (fun _ => ?_) : RT _ _ _ _ _ _ 4 _)
      refine (runR (H := (H)) (z := 0) 3 [0, 1, 5, 14] [(0, .slice (some ⟨b, o, none⟩) ((x :: r).length) c), (1, .int .i64 d), (5, .int .i64 m), (14, .bool (x == d))] [(⟨b, o + 0 * 1, none⟩, .int .i64 x)] (hasC (fun w hs => hk.cell0 w hs) has0) (fun _ => by kernel_rfl) (endR ?_) : RT _ _ _ _ _ _ 3 _)
      have hcc := countOf_cons x r d
      rw [hcc] at hm
      have hb : countOf l d ≤ l.length := List.length_filter_le _ _
      refine joinR (fun (m' : {m' : Int // m' + countOf r d = countOf l d ∧ 0 ≤ m'}) => [(0, .slice (some ⟨b, o, none⟩) ((x :: r).length) c), (1, .int .i64 d), (5, .int .i64 m'.1)]) (fun (_ : {m' : Int // m' + countOf r d = countOf l d ∧ 0 ≤ m'}) => (H)) ?_ (fun m' => ?_)
      · skip
        refine condR (b := x == d) (by kernel_rfl) (fun _ => by kernel_rfl) (fun h => ?_) (fun h => ?_)
        · skip
          rw [if_pos h] at hm
          refine regionR 3 (by kernel_rfl) (by kernel_rfl) ?_
          refine (run0 (z := 0) 3 [0, 1, 5] [(0, .slice (some ⟨b, o, none⟩) ((x :: r).length) c), (1, .int .i64 d), (5, .int .i64 (IntKind.i64.wrap (m + 1)))] (fun _ => by kernel_rfl) (endR ?_) : RT _ _ _ _ _ _ 3 _)
          rw [show IntKind.i64.wrap (m + 1) = m + 1 by rw [IntKind.wrap_i64]; omega]
          refine PT.keep (L' := [(0, .slice (some ⟨b, o, none⟩) ((x :: r).length) c), (1, .int .i64 d), (5, .int .i64 (m + 1))]) [0, 1, 5] rfl ?_
          exact midR (⟨m + 1, by omega, by omega⟩) rfl rfl
        · skip
          rw [if_neg (by simp [h])] at hm
          refine skipR (by kernel_rfl) ?_
          refine PT.keep (L' := [(0, .slice (some ⟨b, o, none⟩) ((x :: r).length) c), (1, .int .i64 d), (5, .int .i64 m)]) [0, 1, 5] rfl ?_
          exact midR (⟨m, by simpa using hm, hm0⟩) rfl rfl
      refine seqR (by kernel_rfl) ?_
      refine regionR 3 (by kernel_rfl) (by kernel_rfl) ?_
      refine (run0 (z := 2) 1 [0, 1, 5, 17] [(0, .slice (some ⟨b, o, none⟩) ((x :: r).length) c), (1, .int .i64 d), (5, .int .i64 m'.1), (17, .slice (some ⟨b, o, none⟩) ((x :: r).length) c)] (fun _ => by kernel_rfl) ?_ : RT _ _ _ _ _ _ 3 _)
      refine (stepR (z := 1) (cutS 26 (.tmp 17) (.const (.int .i64 1)) (some ⟨b, o, none⟩) ((x :: r).length) c 1 1 3 1 .i64 (some 18) (fun _ => by kernel_rfl) (by kernel_rfl) (by kernel_rfl) (fun _ => by kernel_rfl) (fun _ => by kernel_rfl) Try.underlying26 (by kernel_rfl) (by first | rfl | assumption | simp) (by simp)) (fun _ => ?_) : RT _ _ _ _ _ _ 2 _)
      have hk' := hk.tail (by simpa using hc)
      obtain ⟨A', hA'⟩ : ∃ A', A' = cutA (some ⟨b, o, none⟩) c 1 1 := ⟨_, rfl⟩
      rw [← hA'] at hk' ⊢
      refine (run0 (z := 0) 1 [0, 1, 5] [(0, .slice A' (((x :: r).length) - 1) (c - 1)), (1, .int .i64 d), (5, .int .i64 m'.1)] (fun _ => by kernel_rfl) (endR ?_) : RT _ _ _ _ _ _ 1 _)
      refine gotoR 0 (by kernel_rfl) (by kernel_rfl) ?_
      refine PT.keep (L' := [(0, .slice A' (((x :: r).length) - 1) (c - 1)), (1, .int .i64 d), (5, .int .i64 m'.1)]) [0, 1, 5] rfl ?_
      exact jumpR (hK r.length ⟨A', c - 1, r, m'.1⟩ (by simp) ⟨rfl, hk', by simp at hc; simp; omega, m'.2.1, m'.2.2⟩)
  · skip
    intro K hK
    refine seqR (by kernel_rfl) ?_
    refine regionR 1 (by kernel_rfl) (by kernel_rfl) ?_
    refine (run0 (z := 0) 1 [0, 1, 4, 5] [(0, .slice A l.length c), (1, .int .i64 d), (4, .int .i64 0), (5, .int .i64 0)] (fun _ => by kernel_rfl) (endR ?_) : RT _ _ _ _ _ _ 1 _)
    refine seqR (by kernel_rfl) ?_
    refine labelR (by kernel_rfl) ?_
    refine PT.keep (L' := [(0, .slice A l.length c), (1, .int .i64 d), (5, .int .i64 0)]) [0, 1, 5] rfl ?_
    refine codeR (by kernel_rfl) (hK l.length ⟨A, c, l, 0⟩ ⟨rfl, hk, hc, by simp, by simp⟩)
theorem KR.knI {H : List SP} {s : SV Int} (h : KR H (kE .i64) s) : KnI H s.a s.l := by
  intro w hs j x hx
  obtain ⟨ao, c, hv, h1, h2, h3, h4⟩ := h w hs
  unfold SV.v at hv
  injection hv with e1
  cases ha : s.a with
  | none => rw [ha] at e1; have := (h3 e1.symm).1; rw [this] at hx; simp at hx
  | some a => rw [ha] at e1; exact ⟨a, rfl, h4 a e1.symm j (.int .i64 x) (by rw [flat_kE, List.getElem?_map, hx]; rfl)⟩
end Go.Proofs.Ytjjbnmlhbbnhcaa
