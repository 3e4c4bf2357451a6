/- tontineref11.Counts: its walk. Conditions: none. -/
import Derived.Test.YtjjbnmlhbbnhcaaRf5
import Derived.Test.YtjjbnmlhbbnhcaaSh2
import Derived.Test.YtjjbnmlhbbnhcaaGb
set_option linter.unusedVariables false
set_option linter.unusedSimpArgs false
namespace Go.Proofs.Ytjjbnmlhbbnhcaa
open Go.RowKit G
theorem rowKRm {α : Type} {E : Enc α} {T : TypeId} {H : List SP} (i : Nat) {A : Option Addr} {m k : Nat} {xs : List α} (hi : H[i]? = some (row E T (.slice A m k) xs)) (hm : m = xs.length) : KR H E ⟨A, k, xs⟩ := by subst hm; exact rowKRat i hi
theorem wsum_left (frame : Int) : ∀ (l : List (Int × Int)), (∀ p ∈ l, 0 ≤ p.1 ∧ p.1 ≤ 64000) → l.length ≤ 6 → frame - wsum (l.map Prod.fst) = leftOf frame l ∧ 0 ≤ wsum (l.map Prod.fst) ∧ wsum (l.map Prod.fst) ≤ 64000 * l.length := by
  intro l h hl
  have key : ∀ n, n ≤ l.length → frame - wsum ((l.take n).map Prod.fst) = leftOf frame (l.take n) ∧ 0 ≤ wsum ((l.take n).map Prod.fst) ∧ wsum ((l.take n).map Prod.fst) ≤ 64000 * n := by
    intro n
    induction n with
    | zero => intro _; simp [wsum, leftOf]
    | succ n ih =>
      intro hn
      obtain ⟨y, hy⟩ : ∃ y, l[n]? = some y := ⟨l[n]'(by omega), List.getElem?_eq_getElem (by omega)⟩
      have ht : l.take (n + 1) = l.take n ++ [y] := by rw [List.take_add_one, hy]; rfl
      have hb := h y (List.mem_of_getElem? hy)
      obtain ⟨i1, i2, i3⟩ := ih (by omega)
      rw [ht, leftOf_snoc, List.map_append, List.map_cons, List.map_nil, wsum_snoc, ← i1, IntKind.wrap_i64]
      omega
  have := key l.length (Nat.le_refl _)
  rwa [List.take_length] at this
theorem grAt_one (l : List (Int × Int)) : grAt l 1 = 0 := by unfold grAt grAt; split <;> rfl
set_option maxHeartbeats 1000000 in
set_option maxRecDepth 100000 in
theorem rcounts_walk (H : List SP) (frame : Int) (s : SV Int) (hk : KR H (kE .i64) s) : ∀ w, Sat w H → Calls Try.prog 25 #[.int .i64 frame, .slice s.a s.l.length s.c] w (Ret (ι := Option Addr × Nat) (fun p => .slice p.1 (countsOf frame s.l).length p.2) fun p => row (kE .i64) 3 (.slice p.1 (countsOf frame s.l).length p.2) (countsOf frame s.l) :: H) := by
  refine enterG (fn := Try.f25) 88 [.int .i64 frame, .slice s.a s.l.length s.c] Try.func25 (by kernel_rfl) (by kernel_rfl) (by kernel_rfl) ?_
  refine seqR (by kernel_rfl) ?_
  refine regionR 1 (by kernel_rfl) (by kernel_rfl) ?_
  refine (run0 (z := 0) 1 [0, 1, 4] [(0, .int .i64 frame), (1, .slice s.a s.l.length s.c), (4, .slice none 0 0)] (fun _ => by kernel_rfl) (endR ?_) : RT _ _ _ _ _ _ 1 _)
  refine seqR (by kernel_rfl) ?_
  refine seqR (by kernel_rfl) ?_
  refine regionR 4 (by kernel_rfl) (by kernel_rfl) ?_
  refine (run0 (z := 2) 2 [0, 1, 4, 12, 13] [(0, .int .i64 frame), (1, .slice s.a s.l.length s.c), (4, .slice none 0 0), (12, .int .i64 frame), (13, .slice s.a s.l.length s.c)] (fun _ => by kernel_rfl) ?_ : RT _ _ _ _ _ _ 4 _)
  refine (stepR (z := 1) (callS 31 [.int .i64 frame, .slice s.a s.l.length s.c] (some 14) (fun _ => .bool (mayShares frame s.l)) (fun _ => (H)) (fun _ => by kernel_rfl) (mayShares_walk _ frame s hk)) (fun _ => ?_) : RT _ _ _ _ _ _ 2 _)
  refine (run0 (z := 0) 1 [0, 1, 4, 15] [(0, .int .i64 frame), (1, .slice s.a s.l.length s.c), (4, .slice none 0 0), (15, .bool (!(mayShares frame s.l)))] (fun _ => by kernel_rfl) (endR ?_) : RT _ _ _ _ _ _ 1 _)
  cases hm : (mayShares frame s.l) with
  | true =>
    have hz' : ¬ (shSum frame s.l == 0) = true := by have h1 := hm; unfold mayShares at h1; simpa using h1
    obtain ⟨hf, ha, hl6, hl1, hsh, hsum⟩ := shSum_good hz'
    refine condR (b := false) (by kernel_rfl) (fun _ => by kernel_rfl) (fun h => by cases h) (fun _ => ?_)
    refine skipR (by kernel_rfl) ?_
    refine seqR (by kernel_rfl) ?_
    refine regionR 3 (by kernel_rfl) (by kernel_rfl) ?_
    refine (run0 (z := 2) 1 [0, 1, 4, 16] [(0, .int .i64 frame), (1, .slice s.a s.l.length s.c), (4, .slice none 0 0), (16, .slice s.a s.l.length s.c)] (fun _ => by kernel_rfl) ?_ : RT _ _ _ _ _ _ 3 _)
    refine (stepR (z := 1) (callS 32 [.slice s.a s.l.length s.c] (some 17) (fun _ => .int .i64 (wsum s.l)) (fun _ => (H)) (fun _ => by kernel_rfl) (total_walk _ s hk (by omega))) (fun _ => ?_) : RT _ _ _ _ _ _ 2 _)
    refine (run0 (z := 0) 1 [0, 1, 4, 5] [(0, .int .i64 frame), (1, .slice s.a s.l.length s.c), (4, .slice none 0 0), (5, .int .i64 (wsum s.l))] (fun _ => by kernel_rfl) (endR ?_) : RT _ _ _ _ _ _ 1 _)
    refine seqR (by kernel_rfl) ?_
    refine joinR (fun (x : Nat × Nat) => [(0, .int .i64 frame), (1, .slice s.a s.l.length s.c), (4, .slice none 0 0), (5, .int .i64 (wsum s.l)), (6, .slice (some ⟨x.1, 0, none⟩) s.l.length s.l.length), (7, .slice (some ⟨x.2, 0, none⟩) s.l.length s.l.length)]) (fun (x : Nat × Nat) => (row (kE .i64) 3 (.slice (some ⟨x.1, 0, none⟩) s.l.length s.l.length) (List.replicate s.l.length 0) :: row (kE .i64) 3 (.slice (some ⟨x.2, 0, none⟩) s.l.length s.l.length) (List.replicate s.l.length 0) :: H)) ?_ (fun x => ?_)
    · skip
      refine drawR (fun w => Sat w (H)) [] 8 (by kernel_rfl) (by kernel_rfl) (by kernel_rfl) (fun _ h => by first | exact h | exact h.tail | exact h.tail.tail | exact h.tail.tail.tail | exact h.tail.tail.tail.tail) ?_
      refine takesR [0, 1, 3, 4] [0, 1, 4, 5, 19, 22] 4 [true, true, false, true, true, false, false, false] [(0, .int .i64 frame), (1, .slice s.a s.l.length s.c), (4, .slice none 0 0), (5, .int .i64 (wsum s.l)), (19, .int .i64 (s.l.length : Int)), (22, .int .i64 (s.l.length : Int))] [] rfl (fun _ d _ _ _ h => by cases d <;> exact h) (fun _ h => by first | exact h | exact h.tail | exact h.tail.tail | exact h.tail.tail.tail | exact h.tail.tail.tail.tail) has0 (fun _ => by kernel_rfl) ?_
      refine twoR 2 5 3 rfl (by kernel_rfl) ?_ ?_
      · skip
        refine chR 2 [true, true, true, true, true, false, false, false] rfl (mkS (E := (kE .i64)) (T := 3) 26 (.tmp 19) (.tmp 19) s.l.length 0 (.int .i64 0) 8 (some 20) (fun _ => by kernel_rfl) (by kernel_rfl) (by kernel_rfl) (fun _ => by kernel_rfl) (fun _ => by kernel_rfl) Try.underlying26 (by kernel_rfl) (by kernel_rfl) rfl (by decide) (by omega)) (fun _ _ h _ => by first | exact h | exact h.tail | exact h.tail.tail | exact h.tail.tail.tail | exact h.tail.tail.tail.tail) (fun b1 => ?_)
        refine takesR [6] [0, 1, 4, 5, 22, 6] 2 [true, true, true, true, true, false, true, false] [(0, .int .i64 frame), (1, .slice s.a s.l.length s.c), (4, .slice none 0 0), (5, .int .i64 (wsum s.l)), (22, .int .i64 (s.l.length : Int)), (6, .slice (some ⟨b1, 0, none⟩) s.l.length s.l.length)] [] rfl (fun _ d _ _ _ h => by cases d <;> exact h) (fun _ h => by first | exact h | exact h.tail | exact h.tail.tail | exact h.tail.tail.tail | exact h.tail.tail.tail.tail) has0 (fun _ => by kernel_rfl) ?_
        refine oneR 5 1 [true, true, true, true, true, true, true, false] rfl rfl (by kernel_rfl) (mkS (E := (kE .i64)) (T := 3) 26 (.tmp 22) (.tmp 22) s.l.length 0 (.int .i64 0) 8 (some 23) (fun _ => by kernel_rfl) (by kernel_rfl) (by kernel_rfl) (fun _ => by kernel_rfl) (fun _ => by kernel_rfl) Try.underlying26 (by kernel_rfl) (by kernel_rfl) rfl (by decide) (by omega)) (fun _ _ h _ => by first | exact h | exact h.tail | exact h.tail.tail | exact h.tail.tail.tail | exact h.tail.tail.tail.tail) (fun b2 => ?_)
        refine takesR [7] [0, 1, 4, 5, 6, 7] 0 [true, true, true, true, true, true, true, true] [(0, .int .i64 frame), (1, .slice s.a s.l.length s.c), (4, .slice none 0 0), (5, .int .i64 (wsum s.l)), (6, .slice (some ⟨b1, 0, none⟩) s.l.length s.l.length), (7, .slice (some ⟨b2, 0, none⟩) s.l.length s.l.length)] [] rfl (fun _ d _ _ _ h => by cases d <;> exact h) (fun _ h => by first | exact h | exact h.tail | exact h.tail.tail | exact h.tail.tail.tail | exact h.tail.tail.tail.tail) has0 (fun _ => by kernel_rfl) ?_
        refine drawnR (by kernel_rfl) ?_
        refine PT.pick 1 rfl ?_
        refine PT.keep (L' := [(0, .int .i64 frame), (1, .slice s.a s.l.length s.c), (4, .slice none 0 0), (5, .int .i64 (wsum s.l)), (6, .slice (some ⟨b1, 0, none⟩) s.l.length s.l.length), (7, .slice (some ⟨b2, 0, none⟩) s.l.length s.l.length)]) [0, 1, 4, 5, 6, 7] rfl ?_
        exact midR ((b1, b2)) rfl rfl
      · skip
        refine chR 5 [true, true, false, true, true, true, false, false] rfl (mkS (E := (kE .i64)) (T := 3) 26 (.tmp 22) (.tmp 22) s.l.length 0 (.int .i64 0) 8 (some 23) (fun _ => by kernel_rfl) (by kernel_rfl) (by kernel_rfl) (fun _ => by kernel_rfl) (fun _ => by kernel_rfl) Try.underlying26 (by kernel_rfl) (by kernel_rfl) rfl (by decide) (by omega)) (fun _ _ h _ => by first | exact h | exact h.tail | exact h.tail.tail | exact h.tail.tail.tail | exact h.tail.tail.tail.tail) (fun b1 => ?_)
        refine oneR 2 2 [true, true, true, true, true, true, false, false] rfl rfl (by kernel_rfl) (mkS (E := (kE .i64)) (T := 3) 26 (.tmp 19) (.tmp 19) s.l.length 0 (.int .i64 0) 8 (some 20) (fun _ => by kernel_rfl) (by kernel_rfl) (by kernel_rfl) (fun _ => by kernel_rfl) (fun _ => by kernel_rfl) Try.underlying26 (by kernel_rfl) (by kernel_rfl) rfl (by decide) (by omega)) (fun _ _ h _ => by first | exact h | exact h.tail | exact h.tail.tail | exact h.tail.tail.tail | exact h.tail.tail.tail.tail) (fun b2 => ?_)
        refine takesR [6, 7] [0, 1, 4, 5, 6, 7] 0 [true, true, true, true, true, true, true, true] [(0, .int .i64 frame), (1, .slice s.a s.l.length s.c), (4, .slice none 0 0), (5, .int .i64 (wsum s.l)), (6, .slice (some ⟨b2, 0, none⟩) s.l.length s.l.length), (7, .slice (some ⟨b1, 0, none⟩) s.l.length s.l.length)] [] rfl (fun _ d _ _ _ h => by cases d <;> exact h) (fun _ h => by first | exact h | exact h.tail | exact h.tail.tail | exact h.tail.tail.tail | exact h.tail.tail.tail.tail) has0 (fun _ => by kernel_rfl) ?_
        refine drawnR (by kernel_rfl) ?_
        refine PT.keep (L' := [(0, .int .i64 frame), (1, .slice s.a s.l.length s.c), (4, .slice none 0 0), (5, .int .i64 (wsum s.l)), (6, .slice (some ⟨b2, 0, none⟩) s.l.length s.l.length), (7, .slice (some ⟨b1, 0, none⟩) s.l.length s.l.length)]) [0, 1, 4, 5, 6, 7] rfl ?_
        exact midR ((b2, b1)) rfl rfl
    obtain ⟨o1, o2⟩ := x
    dsimp only
    have hws := wsum_eq hsh (by omega)
    obtain ⟨all, hall⟩ : ∃ a, a = shSum frame s.l := ⟨_, rfl⟩
    rw [hws, ← hsum, ← hall]
    rw [← hall] at ha hsum
    have hsb := sumI_bounds s.l hsh
    obtain ⟨n, hn⟩ : ∃ n, n = s.l.length := ⟨_, rfl⟩
    obtain ⟨l0, hl0⟩ : ∃ l0, l0 = partsOf frame all s.l := ⟨_, rfl⟩
    have hlen0 : l0.length = n := by rw [hl0, hn]; simp [partsOf]
    have hb0 : ∀ p ∈ l0, 0 ≤ p.1 ∧ p.1 ≤ 64000 ∧ 0 ≤ p.2 ∧ p.2 < 6000 := by rw [hl0]; exact parts_bounds hf ha hsh (by rw [hsum]; omega)
    have hcnt : countsOf frame s.l = (stpN l0 (leftOf frame l0).toNat).map Prod.fst := by rw [countsOf, if_neg hz', hl0, hall]
    refine seqR (by kernel_rfl) ?_
    refine seqR (by kernel_rfl) ?_
    refine regionR 1 (by kernel_rfl) (by kernel_rfl) ?_
    refine (run0 (z := 0) 1 [0, 1, 4, 5, 6, 7, 8] [(0, .int .i64 frame), (1, .slice s.a s.l.length s.c), (4, .slice none 0 0), (5, .int .i64 all), (6, .slice (some ⟨o1, 0, none⟩) s.l.length s.l.length), (7, .slice (some ⟨o2, 0, none⟩) s.l.length s.l.length), (8, .int .i64 0)] (fun _ => by kernel_rfl) (endR ?_) : RT _ _ _ _ _ _ 1 _)
    refine blockR 0 (by kernel_rfl) (by kernel_rfl) ?_
    refine PT.keep (L' := [(0, .int .i64 frame), (1, .slice s.a s.l.length s.c), (4, .slice none 0 0), (5, .int .i64 all), (6, .slice (some ⟨o1, 0, none⟩) s.l.length s.l.length), (7, .slice (some ⟨o2, 0, none⟩) s.l.length s.l.length), (8, .int .i64 0)]) [0, 1, 4, 5, 6, 7, 8] rfl ?_
    refine loopG (fun (x : (List Int × List Int) × Nat) => [(0, .int .i64 frame), (1, .slice s.a s.l.length s.c), (4, .slice none 0 0), (5, .int .i64 all), (6, .slice (some ⟨o1, 0, none⟩) s.l.length s.l.length), (7, .slice (some ⟨o2, 0, none⟩) s.l.length s.l.length), (8, .int .i64 (x.2 : Int))]) (fun (x : (List Int × List Int) × Nat) => (row (kE .i64) 3 (.slice (some ⟨o1, 0, none⟩) s.l.length s.l.length) x.1.1 :: row (kE .i64) 3 (.slice (some ⟨o2, 0, none⟩) s.l.length s.l.length) x.1.2 :: H)) (fun k (x : (List Int × List Int) × Nat) => k + x.2 = n ∧ x.1.1.length = n ∧ x.1.2.length = n ∧ ∀ v p, v < x.2 → l0[v]? = some p → x.1.1[v]? = some p.1 ∧ x.1.2[v]? = some p.2) n ((List.replicate s.l.length 0, List.replicate s.l.length 0), 0) (by kernel_rfl) ⟨by simp only; omega, by simp only [List.length_replicate]; omega, by simp only [List.length_replicate]; omega, fun v p hv => by simp only at hv; omega⟩ ?_
    rintro k ⟨⟨A, B⟩, u⟩ ⟨hku, hA, hB, hAB⟩
    dsimp only at hku hA hB hAB ⊢
    have hw : IntKind.i64.wrap ((u : Int) + 1) = ((u + 1 : Nat) : Int) := by rw [IntKind.wrap_i64]; omega
    refine seqR (by kernel_rfl) ?_
    refine seqR (by kernel_rfl) ?_
    refine regionR 4 (by kernel_rfl) (by kernel_rfl) ?_
    refine (run0 (z := 0) 4 [0, 1, 4, 5, 6, 7, 8, 27] [(0, .int .i64 frame), (1, .slice s.a s.l.length s.c), (4, .slice none 0 0), (5, .int .i64 all), (6, .slice (some ⟨o1, 0, none⟩) s.l.length s.l.length), (7, .slice (some ⟨o2, 0, none⟩) s.l.length s.l.length), (8, .int .i64 (u : Int)), (27, .bool (decide ((u : Int) < (s.l.length : Int))))] (fun _ => by kernel_rfl) (endR ?_) : RT _ _ _ _ _ _ 4 _)
    refine condR (b := decide ((u : Int) < (s.l.length : Int))) (by kernel_rfl) (fun _ => by kernel_rfl) (fun h1 => ?_) (fun h1 => ?_)
    · skip
      have hu : u < s.l.length := by have := of_decide_eq_true h1; omega
      obtain ⟨y, hy⟩ : ∃ y, s.l[u]? = some y := ⟨_, by simp [hu]; rfl⟩
      have hyb : 0 ≤ y ∧ y ≤ 1000 := by have := List.all_eq_true.1 hsh y (List.mem_of_getElem? hy); simp only [shBad, Bool.not_eq_true', Bool.or_eq_false_iff, decide_eq_false_iff_not] at this; omega
      have hm1 : 0 ≤ frame * y := Int.mul_nonneg (by omega) hyb.1
      have hm2 : frame * y ≤ 64 * 1000 := Int.mul_le_mul hf.2 hyb.2 hyb.1 (by omega)
      have htb := tdiv_bounds hm1 ha
      have hwm : IntKind.i64.wrap (frame * y) = frame * y := by rw [IntKind.wrap_i64]; omega
      have hwq : IntKind.i64.wrap ((frame * y).tdiv all) = (frame * y).tdiv all := by rw [IntKind.wrap_i64]; omega
      have hp : l0[u]? = some ((frame * y).tdiv all, (frame * y).tmod all) := by rw [hl0, partsOf, List.getElem?_map, hy]; rfl
      obtain ⟨a0, ha0⟩ : ∃ a, A[u]? = some a := ⟨A[u]'(by omega), by simp⟩
      obtain ⟨b0, hb00⟩ : ∃ b, B[u]? = some b := ⟨B[u]'(by omega), by simp⟩
      refine PT.know ((hk).up.up.isSome (List.ne_nil_of_length_pos (by omega))) ?_
      rintro ⟨sb, so, hS⟩
      try rw [hS]
      refine skipR (by kernel_rfl) ?_
      refine seqR (by kernel_rfl) ?_
      refine blockR 1 (by kernel_rfl) (by kernel_rfl) ?_
      refine drawR (fun w => Sat w (H)) [] 24 (by kernel_rfl) (by kernel_rfl) (by kernel_rfl) (fun _ h => by first | exact h | exact h.tail | exact h.tail.tail | exact h.tail.tail.tail | exact h.tail.tail.tail.tail) ?_
      refine takesR [0, 1, 2, 3, 4, 5, 6, 10, 12, 13, 14, 18] [0, 1, 4, 5, 6, 7, 8, 30, 31, 32, 33, 34, 35, 36, 40, 42, 43, 44, 48] 12 [true, true, true, true, true, true, true, false, false, false, true, false, true, true, true, false, false, false, true, false, false, false, false, false] [(0, .int .i64 frame), (1, .slice (some ⟨sb, so, none⟩) s.l.length s.c), (4, .slice none 0 0), (5, .int .i64 all), (6, .slice (some ⟨o1, 0, none⟩) s.l.length s.l.length), (7, .slice (some ⟨o2, 0, none⟩) s.l.length s.l.length), (8, .int .i64 (u : Int)), (30, .slice (some ⟨o1, 0, none⟩) s.l.length s.l.length), (31, .int .i64 (u : Int)), (32, .slice (some ⟨o2, 0, none⟩) s.l.length s.l.length), (33, .int .i64 (u : Int)), (34, .int .i64 frame), (35, .slice (some ⟨sb, so, none⟩) s.l.length s.c), (36, .int .i64 (u : Int)), (40, .int .i64 all), (42, .int .i64 frame), (43, .slice (some ⟨sb, so, none⟩) s.l.length s.c), (44, .int .i64 (u : Int)), (48, .int .i64 all)] [] rfl (fun _ d _ _ _ h => by cases d <;> exact h) (fun _ h => by first | exact h | exact h.tail | exact h.tail.tail | exact h.tail.tail.tail | exact h.tail.tail.tail.tail) has0 (fun _ => by kernel_rfl) ?_
      refine takeR1 7 11 [true, true, true, true, true, true, true, true, false, false, true, false, true, true, true, false, false, false, true, false, false, false, false, false] rfl rfl (by kernel_rfl) (fun _ d _ _ _ h => by cases d <;> exact h) (fun _ h => by first | exact h | exact h.tail | exact h.tail.tail | exact h.tail.tail.tail | exact h.tail.tail.tail.tail) (idxY 26 (.tmp 35) (.tmp 36) sb so s.l.length s.c u 1 3 (u : Int) .i64 (some 37) (fun _ => by kernel_rfl) (by kernel_rfl) (by kernel_rfl) (fun _ => by kernel_rfl) (fun _ => by kernel_rfl) Try.underlying26 (by kernel_rfl) (by first | rfl | assumption | simp) (by first | omega | (simp; done) | (simp; omega) | (simp at *; omega))) ?_
      refine takesR [8, 9] [0, 1, 4, 5, 6, 7, 8, 30, 31, 32, 33, 40, 42, 43, 44, 48, 39] 9 [true, true, true, true, true, true, true, true, true, true, true, false, true, true, true, false, false, false, true, false, false, false, false, false] [(0, .int .i64 frame), (1, .slice (some ⟨sb, so, none⟩) s.l.length s.c), (4, .slice none 0 0), (5, .int .i64 all), (6, .slice (some ⟨o1, 0, none⟩) s.l.length s.l.length), (7, .slice (some ⟨o2, 0, none⟩) s.l.length s.l.length), (8, .int .i64 (u : Int)), (30, .slice (some ⟨o1, 0, none⟩) s.l.length s.l.length), (31, .int .i64 (u : Int)), (32, .slice (some ⟨o2, 0, none⟩) s.l.length s.l.length), (33, .int .i64 (u : Int)), (40, .int .i64 all), (42, .int .i64 frame), (43, .slice (some ⟨sb, so, none⟩) s.l.length s.c), (44, .int .i64 (u : Int)), (48, .int .i64 all), (39, .int .i64 (IntKind.i64.wrap (frame * y)))] [(⟨sb, so + u * 1, none⟩, .int .i64 y)] rfl (fun _ d _ _ _ h => by cases d <;> exact h) (fun _ h => by first | exact h | exact h.tail | exact h.tail.tail | exact h.tail.tail.tail | exact h.tail.tail.tail.tail) (hasC (hk.cell hS (i := u) (x := y) hy (j := 0) rfl) has0) (fun _ => by kernel_rfl) ?_
      refine takeR1 15 8 [true, true, true, true, true, true, true, true, true, true, true, false, true, true, true, true, false, false, true, false, false, false, false, false] rfl rfl (by kernel_rfl) (fun _ d _ _ _ h => by cases d <;> exact h) (fun _ h => by first | exact h | exact h.tail | exact h.tail.tail | exact h.tail.tail.tail | exact h.tail.tail.tail.tail) (idxY 26 (.tmp 43) (.tmp 44) sb so s.l.length s.c u 1 3 (u : Int) .i64 (some 45) (fun _ => by kernel_rfl) (by kernel_rfl) (by kernel_rfl) (fun _ => by kernel_rfl) (fun _ => by kernel_rfl) Try.underlying26 (by kernel_rfl) (by first | rfl | assumption | simp) (by first | omega | (simp; done) | (simp; omega) | (simp at *; omega))) ?_
      refine takesR [16, 17] [0, 1, 4, 5, 6, 7, 8, 30, 31, 32, 33, 40, 48, 39, 47] 6 [true, true, true, true, true, true, true, true, true, true, true, false, true, true, true, true, true, true, true, false, false, false, false, false] [(0, .int .i64 frame), (1, .slice (some ⟨sb, so, none⟩) s.l.length s.c), (4, .slice none 0 0), (5, .int .i64 all), (6, .slice (some ⟨o1, 0, none⟩) s.l.length s.l.length), (7, .slice (some ⟨o2, 0, none⟩) s.l.length s.l.length), (8, .int .i64 (u : Int)), (30, .slice (some ⟨o1, 0, none⟩) s.l.length s.l.length), (31, .int .i64 (u : Int)), (32, .slice (some ⟨o2, 0, none⟩) s.l.length s.l.length), (33, .int .i64 (u : Int)), (40, .int .i64 all), (48, .int .i64 all), (39, .int .i64 (IntKind.i64.wrap (frame * y))), (47, .int .i64 (IntKind.i64.wrap (frame * y)))] [(⟨sb, so + u * 1, none⟩, .int .i64 y)] rfl (fun _ d _ _ _ h => by cases d <;> exact h) (fun _ h => by first | exact h | exact h.tail | exact h.tail.tail | exact h.tail.tail.tail | exact h.tail.tail.tail.tail) (hasC (hk.cell hS (i := u) (x := y) hy (j := 0) rfl) has0) (fun _ => by kernel_rfl) ?_
      rw [hwm]
      refine takeR1 11 5 [true, true, true, true, true, true, true, true, true, true, true, true, true, true, true, true, true, true, true, false, false, false, false, false] rfl rfl (by kernel_rfl) (fun _ d _ _ _ h => by cases d <;> exact h) (fun _ h => by first | exact h | exact h.tail | exact h.tail.tail | exact h.tail.tail.tail | exact h.tail.tail.tail.tail) (binY .quo 3 3 (.tmp 39) (.tmp 40) (.int .i64 (frame * y)) (.int .i64 all) (.int .i64 (IntKind.i64.wrap ((frame * y : Int).tdiv all))) (some 41) (fun _ => by kernel_rfl) (by kernel_rfl) (by kernel_rfl) (fun _ => by kernel_rfl) (fun _ => by kernel_rfl) (quoR (t' := 0) (by omega))) ?_
      refine takeR1 19 4 [true, true, true, true, true, true, true, true, true, true, true, true, true, true, true, true, true, true, true, true, false, false, false, false] rfl rfl (by kernel_rfl) (fun _ d _ _ _ h => by cases d <;> exact h) (fun _ h => by first | exact h | exact h.tail | exact h.tail.tail | exact h.tail.tail.tail | exact h.tail.tail.tail.tail) (binY .rem 3 3 (.tmp 47) (.tmp 48) (.int .i64 (frame * y)) (.int .i64 all) (.int .i64 ((frame * y : Int).tmod all)) (some 49) (fun _ => by kernel_rfl) (by kernel_rfl) (by kernel_rfl) (fun _ => by kernel_rfl) (fun _ => by kernel_rfl) (remR (t' := 0) (by omega))) ?_
      rw [hwq]
      refine takeR1 20 3 [true, true, true, true, true, true, true, true, true, true, true, true, true, true, true, true, true, true, true, true, true, false, false, false] rfl rfl (by kernel_rfl) (fun _ d _ _ _ h => by cases d <;> exact h) (fun _ h => by first | exact h | exact h.tail | exact h.tail.tail | exact h.tail.tail.tail | exact h.tail.tail.tail.tail) (idxY 26 (.tmp 30) (.tmp 31) o1 0 s.l.length s.l.length u 1 3 (u : Int) .i64 (some 50) (fun _ => by kernel_rfl) (by kernel_rfl) (by kernel_rfl) (fun _ => by kernel_rfl) (fun _ => by kernel_rfl) Try.underlying26 (by kernel_rfl) (by first | rfl | assumption | simp) (by first | omega | (simp; done) | (simp; omega) | (simp at *; omega))) ?_
      refine oneR 21 2 [true, true, true, true, true, true, true, true, true, true, true, true, true, true, true, true, true, true, true, true, true, true, false, false] rfl rfl (by kernel_rfl) (setS (E := (kE .i64)) (J := u) (j := 0) a0 ((frame * y : Int).tdiv all) (.int .i64 ((frame * y : Int).tdiv all)) ⟨o1, 0 + u * 1, none⟩ (fun _ => by kernel_rfl) (by first | rfl | simp) (ha0) (rfl) (by decide)) (fun _ _ h _ => by first | exact h | exact h.tail | exact h.tail.tail | exact h.tail.tail.tail | exact h.tail.tail.tail.tail) (fun _ => ?_)
      refine takeR1 22 1 [true, true, true, true, true, true, true, true, true, true, true, true, true, true, true, true, true, true, true, true, true, true, true, false] rfl rfl (by kernel_rfl) (fun _ d _ _ _ h => by cases d <;> exact h) (fun _ h => by first | exact h | exact h.tail | exact h.tail.tail | exact h.tail.tail.tail | exact h.tail.tail.tail.tail) (idxY 26 (.tmp 32) (.tmp 33) o2 0 s.l.length s.l.length u 1 3 (u : Int) .i64 (some 51) (fun _ => by kernel_rfl) (by kernel_rfl) (by kernel_rfl) (fun _ => by kernel_rfl) (fun _ => by kernel_rfl) Try.underlying26 (by kernel_rfl) (by first | rfl | assumption | simp) (by first | omega | (simp; done) | (simp; omega) | (simp at *; omega))) ?_
      refine DT.pick 1 rfl ?_
      refine oneR 23 0 [true, true, true, true, true, true, true, true, true, true, true, true, true, true, true, true, true, true, true, true, true, true, true, true] rfl rfl (by kernel_rfl) (setS (E := (kE .i64)) (J := u) (j := 0) b0 ((frame * y : Int).tmod all) (.int .i64 ((frame * y : Int).tmod all)) ⟨o2, 0 + u * 1, none⟩ (fun _ => by kernel_rfl) (by first | rfl | simp) (hb00) (rfl) (by decide)) (fun _ _ h _ => by first | exact h | exact h.tail | exact h.tail.tail | exact h.tail.tail.tail | exact h.tail.tail.tail.tail) (fun _ => ?_)
      refine drawnR (by kernel_rfl) ?_
      refine regionR 3 (by kernel_rfl) (by kernel_rfl) ?_
      refine (run0 (z := 0) 3 [0, 1, 4, 5, 6, 7, 8] [(0, .int .i64 frame), (1, .slice (some ⟨sb, so, none⟩) s.l.length s.c), (4, .slice none 0 0), (5, .int .i64 all), (6, .slice (some ⟨o1, 0, none⟩) s.l.length s.l.length), (7, .slice (some ⟨o2, 0, none⟩) s.l.length s.l.length), (8, .int .i64 (IntKind.i64.wrap ((u : Int) + 1)))] (fun _ => by kernel_rfl) (endR ?_) : RT _ _ _ _ _ _ 3 _)
      try rw [← hS]
      refine PT.pick 1 rfl ?_
      refine PT.keep (L' := [(0, .int .i64 frame), (1, .slice s.a s.l.length s.c), (4, .slice none 0 0), (5, .int .i64 all), (6, .slice (some ⟨o1, 0, none⟩) s.l.length s.l.length), (7, .slice (some ⟨o2, 0, none⟩) s.l.length s.l.length), (8, .int .i64 (IntKind.i64.wrap ((u : Int) + 1)))]) [0, 1, 4, 5, 6, 7, 8] rfl ?_
      exact againG (k - 1) ((A.set u ((frame * y).tdiv all), B.set u ((frame * y).tmod all)), u + 1) (by rw [hw]) rfl (by omega) ⟨by simp only; omega, by simp only [List.length_set]; exact hA, by simp only [List.length_set]; exact hB, fun v p hv hvp => by
        simp only at hv ⊢
        rw [List.getElem?_set, List.getElem?_set]
        by_cases e : u = v
        · subst e
          rw [hp] at hvp
          cases hvp
          rw [if_pos rfl, if_pos rfl, if_pos (by omega), if_pos (by omega)]
          exact ⟨rfl, rfl⟩
        · rw [if_neg e, if_neg e]; exact hAB v p (by omega) hvp⟩
    · skip
      have hu : u = n := by have := of_decide_eq_false h1; omega
      have eA : A = l0.map Prod.fst := by
        refine List.ext_getElem? fun v => ?_
        rw [List.getElem?_map]
        cases hv : l0[v]? with
        | none => have := List.getElem?_eq_none_iff.1 hv; rw [List.getElem?_eq_none_iff.2 (by omega)]; rfl
        | some p => have := (List.getElem?_eq_some_iff.1 hv).1; exact (hAB v p (by omega) hv).1
      have eB : B = l0.map Prod.snd := by
        refine List.ext_getElem? fun v => ?_
        rw [List.getElem?_map]
        cases hv : l0[v]? with
        | none => have := List.getElem?_eq_none_iff.1 hv; rw [List.getElem?_eq_none_iff.2 (by omega)]; rfl
        | some p => have := (List.getElem?_eq_some_iff.1 hv).1; exact (hAB v p (by omega) hv).2
      rw [eA, eB]
      rw [hu]
      have hml : s.l.length = (l0.map Prod.fst).length := by rw [List.length_map]; omega
      rw [hml]
      refine exitR 0 (by kernel_rfl) (by kernel_rfl) ?_
      refine thenX ?_
      refine thenX ?_
      refine leaveR ?_
      refine seqR (by kernel_rfl) ?_
      refine seqR (by kernel_rfl) ?_
      refine regionR 5 (by kernel_rfl) (by kernel_rfl) ?_
      refine (run0 (z := 3) 2 [4, 6, 7, 52, 53] [(4, .slice none 0 0), (6, .slice (some ⟨o1, 0, none⟩) ((l0.map Prod.fst).length) ((l0.map Prod.fst).length)), (7, .slice (some ⟨o2, 0, none⟩) ((l0.map Prod.fst).length) ((l0.map Prod.fst).length)), (52, .int .i64 frame), (53, .slice (some ⟨o1, 0, none⟩) ((l0.map Prod.fst).length) ((l0.map Prod.fst).length))] (fun _ => by kernel_rfl) ?_ : RT _ _ _ _ _ _ 5 _)
      refine (stepR (z := 2) (callS 32 [.slice (some ⟨o1, 0, none⟩) ((l0.map Prod.fst).length) ((l0.map Prod.fst).length)] (some 54) (fun _ => .int .i64 (wsum (l0.map Prod.fst))) (fun _ => (row (kE .i64) 3 (.slice (some ⟨o1, 0, none⟩) ((l0.map Prod.fst).length) ((l0.map Prod.fst).length)) (l0.map Prod.fst) :: row (kE .i64) 3 (.slice (some ⟨o2, 0, none⟩) ((l0.map Prod.fst).length) ((l0.map Prod.fst).length)) (l0.map Prod.snd) :: H)) (fun _ => by kernel_rfl) (total_walk (row (kE .i64) 3 (.slice (some ⟨o1, 0, none⟩) ((l0.map Prod.fst).length) ((l0.map Prod.fst).length)) (l0.map Prod.fst) :: row (kE .i64) 3 (.slice (some ⟨o2, 0, none⟩) ((l0.map Prod.fst).length) ((l0.map Prod.fst).length)) (l0.map Prod.snd) :: H) ⟨some ⟨o1, 0, none⟩, (l0.map Prod.fst).length, l0.map Prod.fst⟩ rowKR (by show (l0.map Prod.fst).length < _; rw [List.length_map]; omega))) (fun _ => ?_) : RT _ _ _ _ _ _ 3 _)
      refine (run0 (z := 0) 2 [4, 6, 7, 9] [(4, .slice none 0 0), (6, .slice (some ⟨o1, 0, none⟩) ((l0.map Prod.fst).length) ((l0.map Prod.fst).length)), (7, .slice (some ⟨o2, 0, none⟩) ((l0.map Prod.fst).length) ((l0.map Prod.fst).length)), (9, .int .i64 (IntKind.i64.wrap (frame - (wsum (l0.map Prod.fst)))))] (fun _ => by kernel_rfl) (endR ?_) : RT _ _ _ _ _ _ 2 _)
      refine blockR 2 (by kernel_rfl) (by kernel_rfl) ?_
      have hwl := wsum_left frame l0 (fun p hp => ⟨(hb0 p hp).1, (hb0 p hp).2.1⟩) (by omega)
      have hlb := leftOf_bounds l0 frame (fun p hp => ⟨(hb0 p hp).1, (hb0 p hp).2.1⟩)
      obtain ⟨left, hleft⟩ : ∃ left, left = leftOf frame l0 := ⟨_, rfl⟩
      have hwleft : IntKind.i64.wrap (frame - wsum (l0.map Prod.fst)) = left := by rw [hwl.1, hleft, IntKind.wrap_i64]; omega
      rw [← hml, ← hn]
      rw [hwleft]
      rw [show Value.int .i64 left = .int .i64 (left - ((0 : Nat) : Int)) by rw [Int.natCast_zero, Int.sub_zero]]
      refine PT.keep (L' := [(4, .slice none 0 0), (6, .slice (some ⟨o1, 0, none⟩) n n), (7, .slice (some ⟨o2, 0, none⟩) n n), (9, .int .i64 (left - ((0 : Nat) : Int)))]) [4, 6, 7, 9] rfl ?_
      refine loopG (fun (x : List (Int × Int) × Nat) => [(4, .slice none 0 0), (6, .slice (some ⟨o1, 0, none⟩) n n), (7, .slice (some ⟨o2, 0, none⟩) n n), (9, .int .i64 (left - (x.2 : Int)))]) (fun (x : List (Int × Int) × Nat) => (row (kE .i64) 3 (.slice (some ⟨o1, 0, none⟩) n n) (x.1.map Prod.fst) :: row (kE .i64) 3 (.slice (some ⟨o2, 0, none⟩) n n) (x.1.map Prod.snd) :: H)) (fun k (x : List (Int × Int) × Nat) => k + x.2 = left.toNat ∧ x.1 = stpN l0 x.2 ∧ x.1.length = n ∧ ∀ p ∈ x.1, 0 ≤ p.1 ∧ p.1 ≤ 64000 + x.2 ∧ -1 ≤ p.2 ∧ p.2 < 6000) left.toNat (l0, 0) (by kernel_rfl) ⟨by simp, rfl, hlen0, fun p hp => by have := hb0 p hp; simp only; omega⟩ ?_
      rintro k2 ⟨xs, i⟩ ⟨hki, hst, hlen, hbd⟩
      dsimp only at hki hst hlen hbd ⊢
      refine seqR (by kernel_rfl) ?_
      refine seqR (by kernel_rfl) ?_
      refine regionR 2 (by kernel_rfl) (by kernel_rfl) ?_
      refine (run0 (z := 0) 2 [4, 6, 7, 9, 57] [(4, .slice none 0 0), (6, .slice (some ⟨o1, 0, none⟩) n n), (7, .slice (some ⟨o2, 0, none⟩) n n), (9, .int .i64 (left - (i : Int))), (57, .bool (decide ((left - (i : Int)) > 0)))] (fun _ => by kernel_rfl) (endR ?_) : RT _ _ _ _ _ _ 2 _)
      refine condR (b := decide ((left - (i : Int)) > 0)) (by kernel_rfl) (fun _ => by kernel_rfl) (fun h2 => ?_) (fun h2 => ?_)
      · skip
        have hil : (i : Int) < left := by have := of_decide_eq_true h2; omega
        have hw2 : IntKind.i64.wrap (left - (i : Int) - 1) = left - ((i + 1 : Nat) : Int) := by rw [IntKind.wrap_i64]; omega
        have hgl := grAt_lt xs (by omega) xs.length (Nat.le_refl _)
        have hstp : stpN l0 (i + 1) = xs.set (grAt xs xs.length) ((xs.getD (grAt xs xs.length) (0, 0)).1 + 1, -1) := by rw [hst]; rfl
        refine skipR (by kernel_rfl) ?_
        refine seqR (by kernel_rfl) ?_
        refine blockR 3 (by kernel_rfl) (by kernel_rfl) ?_
        refine seqR (by kernel_rfl) ?_
        refine regionR 1 (by kernel_rfl) (by kernel_rfl) ?_
        refine (run0 (z := 0) 1 [4, 6, 7, 9, 10] [(4, .slice none 0 0), (6, .slice (some ⟨o1, 0, none⟩) n n), (7, .slice (some ⟨o2, 0, none⟩) n n), (9, .int .i64 (left - (i : Int))), (10, .int .i64 0)] (fun _ => by kernel_rfl) (endR ?_) : RT _ _ _ _ _ _ 1 _)
        refine seqR (by kernel_rfl) ?_
        refine seqR (by kernel_rfl) ?_
        refine regionR 1 (by kernel_rfl) (by kernel_rfl) ?_
        refine (run0 (z := 0) 1 [4, 6, 7, 9, 10, 11] [(4, .slice none 0 0), (6, .slice (some ⟨o1, 0, none⟩) n n), (7, .slice (some ⟨o2, 0, none⟩) n n), (9, .int .i64 (left - (i : Int))), (10, .int .i64 0), (11, .int .i64 1)] (fun _ => by kernel_rfl) (endR ?_) : RT _ _ _ _ _ _ 1 _)
        refine blockR 4 (by kernel_rfl) (by kernel_rfl) ?_
        refine PT.keep (L' := [(4, .slice none 0 0), (6, .slice (some ⟨o1, 0, none⟩) n n), (7, .slice (some ⟨o2, 0, none⟩) n n), (9, .int .i64 (left - (i : Int))), (10, .int .i64 0), (11, .int .i64 1)]) [4, 6, 7, 9, 10, 11] rfl ?_
        refine loopG (fun (y : Nat × Nat) => [(4, .slice none 0 0), (6, .slice (some ⟨o1, 0, none⟩) n n), (7, .slice (some ⟨o2, 0, none⟩) n n), (9, .int .i64 (left - (i : Int))), (10, .int .i64 (y.1 : Int)), (11, .int .i64 (y.2 : Int))]) (fun (y : Nat × Nat) => (row (kE .i64) 3 (.slice (some ⟨o1, 0, none⟩) n n) (xs.map Prod.fst) :: row (kE .i64) 3 (.slice (some ⟨o2, 0, none⟩) n n) (xs.map Prod.snd) :: H)) (fun k (y : Nat × Nat) => k + y.2 = n ∧ 1 ≤ y.2 ∧ y.1 = grAt xs y.2) (n - 1) (0, 1) (by kernel_rfl) ⟨by simp only; omega, by simp only; omega, (grAt_one xs).symm⟩ ?_
        rintro k3 ⟨g, v⟩ ⟨hkv, hv1, hg⟩
        dsimp only at hkv hv1 hg ⊢
        have hw3 : IntKind.i64.wrap ((v : Int) + 1) = ((v + 1 : Nat) : Int) := by rw [IntKind.wrap_i64]; omega
        have hgl2 : g < xs.length := by rw [hg]; exact grAt_lt xs (by omega) v (by omega)
        obtain ⟨q, hq⟩ : ∃ q, xs[g]? = some q := ⟨_, by simp [hgl2]; rfl⟩
        refine seqR (by kernel_rfl) ?_
        refine seqR (by kernel_rfl) ?_
        refine regionR 4 (by kernel_rfl) (by kernel_rfl) ?_
        refine (run0 (z := 0) 4 [4, 6, 7, 9, 10, 11, 63] [(4, .slice none 0 0), (6, .slice (some ⟨o1, 0, none⟩) n n), (7, .slice (some ⟨o2, 0, none⟩) n n), (9, .int .i64 (left - (i : Int))), (10, .int .i64 (g : Int)), (11, .int .i64 (v : Int)), (63, .bool (decide ((v : Int) < (n : Int))))] (fun _ => by kernel_rfl) (endR ?_) : RT _ _ _ _ _ _ 4 _)
        refine condR (b := decide ((v : Int) < (n : Int))) (by kernel_rfl) (fun _ => by kernel_rfl) (fun h3 => ?_) (fun h3 => ?_)
        · skip
          have hv : v < xs.length := by have := of_decide_eq_true h3; omega
          obtain ⟨p, hp⟩ : ∃ p, xs[v]? = some p := ⟨_, by simp [hv]; rfl⟩
          have hgs : grAt xs (v + 1) = if p.2 > q.2 then v else g := by
            rw [show grAt xs (v + 1) = if ((xs.getD v (0, 0)).2 > (xs.getD (grAt xs v) (0, 0)).2) then v else grAt xs v from rfl]
            rw [← hg, List.getD_eq_getElem?_getD, List.getD_eq_getElem?_getD, hp, hq]; rfl
          refine skipR (by kernel_rfl) ?_
          refine seqR (by kernel_rfl) ?_
          refine blockR 5 (by kernel_rfl) (by kernel_rfl) ?_
          refine seqR (by kernel_rfl) ?_
          refine drawR (fun w => Sat w (row (kE .i64) 3 (.slice (some ⟨o1, 0, none⟩) n n) (xs.map Prod.fst) :: row (kE .i64) 3 (.slice (some ⟨o2, 0, none⟩) n n) (xs.map Prod.snd) :: H)) [] 9 (by kernel_rfl) (by kernel_rfl) (by kernel_rfl) (fun _ h => by first | exact h | exact h.tail | exact h.tail.tail | exact h.tail.tail.tail | exact h.tail.tail.tail.tail) ?_
          refine takesR [0, 1, 4, 5] [4, 6, 7, 9, 10, 11, 66, 67, 70, 71] 5 [true, true, false, false, true, true, false, false, false] [(4, .slice none 0 0), (6, .slice (some ⟨o1, 0, none⟩) n n), (7, .slice (some ⟨o2, 0, none⟩) n n), (9, .int .i64 (left - (i : Int))), (10, .int .i64 (g : Int)), (11, .int .i64 (v : Int)), (66, .slice (some ⟨o2, 0, none⟩) n n), (67, .int .i64 (v : Int)), (70, .slice (some ⟨o2, 0, none⟩) n n), (71, .int .i64 (g : Int))] [] rfl (fun _ d _ _ _ h => by cases d <;> exact h) (fun _ h => by first | exact h | exact h.tail | exact h.tail.tail | exact h.tail.tail.tail | exact h.tail.tail.tail.tail) has0 (fun _ => by kernel_rfl) ?_
          refine takeR1 2 4 [true, true, true, false, true, true, false, false, false] rfl rfl (by kernel_rfl) (fun _ d _ _ _ h => by cases d <;> exact h) (fun _ h => by first | exact h | exact h.tail | exact h.tail.tail | exact h.tail.tail.tail | exact h.tail.tail.tail.tail) (idxY 26 (.tmp 66) (.tmp 67) o2 0 n n v 1 3 (v : Int) .i64 (some 68) (fun _ => by kernel_rfl) (by kernel_rfl) (by kernel_rfl) (fun _ => by kernel_rfl) (fun _ => by kernel_rfl) Try.underlying26 (by kernel_rfl) (by first | rfl | assumption | simp) (by first | omega | (simp; done) | (simp; omega) | (simp at *; omega))) ?_
          refine takesR [3] [4, 6, 7, 9, 10, 11, 70, 71, 69] 3 [true, true, true, true, true, true, false, false, false] [(4, .slice none 0 0), (6, .slice (some ⟨o1, 0, none⟩) n n), (7, .slice (some ⟨o2, 0, none⟩) n n), (9, .int .i64 (left - (i : Int))), (10, .int .i64 (g : Int)), (11, .int .i64 (v : Int)), (70, .slice (some ⟨o2, 0, none⟩) n n), (71, .int .i64 (g : Int)), (69, .int .i64 p.2)] [(⟨o2, 0 + v * 1, none⟩, .int .i64 p.2)] rfl (fun _ d _ _ _ h => by cases d <;> exact h) (fun _ h => by first | exact h | exact h.tail | exact h.tail.tail | exact h.tail.tail.tail | exact h.tail.tail.tail.tail) (hasC ((rowKRm (E := kE .i64) (T := 3) (A := some ⟨o2, 0, none⟩) (k := n) (m := n) (xs := xs.map Prod.snd) 1 rfl (by simp only [List.length_map]; omega)).cell rfl (i := v) (x := p.2) (by rw [List.getElem?_map, hp]; rfl) (j := 0) rfl) has0) (fun _ => by kernel_rfl) ?_
          refine takeR1 6 2 [true, true, true, true, true, true, true, false, false] rfl rfl (by kernel_rfl) (fun _ d _ _ _ h => by cases d <;> exact h) (fun _ h => by first | exact h | exact h.tail | exact h.tail.tail | exact h.tail.tail.tail | exact h.tail.tail.tail.tail) (idxY 26 (.tmp 70) (.tmp 71) o2 0 n n g 1 3 (g : Int) .i64 (some 72) (fun _ => by kernel_rfl) (by kernel_rfl) (by kernel_rfl) (fun _ => by kernel_rfl) (fun _ => by kernel_rfl) Try.underlying26 (by kernel_rfl) (by first | rfl | assumption | simp) (by first | omega | (simp; done) | (simp; omega) | (simp at *; omega))) ?_
          refine takesR [7, 8] [4, 6, 7, 9, 10, 11, 74] 0 [true, true, true, true, true, true, true, true, true] [(4, .slice none 0 0), (6, .slice (some ⟨o1, 0, none⟩) n n), (7, .slice (some ⟨o2, 0, none⟩) n n), (9, .int .i64 (left - (i : Int))), (10, .int .i64 (g : Int)), (11, .int .i64 (v : Int)), (74, .bool (decide (p.2 > q.2)))] [(⟨o2, 0 + g * 1, none⟩, .int .i64 q.2)] rfl (fun _ d _ _ _ h => by cases d <;> exact h) (fun _ h => by first | exact h | exact h.tail | exact h.tail.tail | exact h.tail.tail.tail | exact h.tail.tail.tail.tail) (hasC ((rowKRm (E := kE .i64) (T := 3) (A := some ⟨o2, 0, none⟩) (k := n) (m := n) (xs := xs.map Prod.snd) 1 rfl (by simp only [List.length_map]; omega)).cell rfl (i := g) (x := q.2) (by rw [List.getElem?_map, hq]; rfl) (j := 0) rfl) has0) (fun _ => by kernel_rfl) ?_
          refine drawnR (by kernel_rfl) ?_
          refine condR (b := decide (p.2 > q.2)) (by kernel_rfl) (fun _ => by kernel_rfl) (fun h4 => ?_) (fun h4 => ?_)
          · skip
            refine regionR 2 (by kernel_rfl) (by kernel_rfl) ?_
            refine (run0 (z := 0) 2 [4, 6, 7, 9, 10, 11] [(4, .slice none 0 0), (6, .slice (some ⟨o1, 0, none⟩) n n), (7, .slice (some ⟨o2, 0, none⟩) n n), (9, .int .i64 (left - (i : Int))), (10, .int .i64 (v : Int)), (11, .int .i64 (v : Int))] (fun _ => by kernel_rfl) (endR ?_) : RT _ _ _ _ _ _ 2 _)
            refine regionR 3 (by kernel_rfl) (by kernel_rfl) ?_
            refine (run0 (z := 0) 3 [4, 6, 7, 9, 10, 11] [(4, .slice none 0 0), (6, .slice (some ⟨o1, 0, none⟩) n n), (7, .slice (some ⟨o2, 0, none⟩) n n), (9, .int .i64 (left - (i : Int))), (10, .int .i64 (v : Int)), (11, .int .i64 (IntKind.i64.wrap ((v : Int) + 1)))] (fun _ => by kernel_rfl) (endR ?_) : RT _ _ _ _ _ _ 3 _)
            refine PT.keep (L' := [(4, .slice none 0 0), (6, .slice (some ⟨o1, 0, none⟩) n n), (7, .slice (some ⟨o2, 0, none⟩) n n), (9, .int .i64 (left - (i : Int))), (10, .int .i64 (v : Int)), (11, .int .i64 (IntKind.i64.wrap ((v : Int) + 1)))]) [4, 6, 7, 9, 10, 11] rfl ?_
            exact againG (k3 - 1) (v, v + 1) (by rw [hw3]) rfl (by omega) ⟨by simp only; omega, by simp only; omega, by simp only; rw [hgs, if_pos (of_decide_eq_true h4)]⟩
          · skip
            refine skipR (by kernel_rfl) ?_
            refine regionR 3 (by kernel_rfl) (by kernel_rfl) ?_
            refine (run0 (z := 0) 3 [4, 6, 7, 9, 10, 11] [(4, .slice none 0 0), (6, .slice (some ⟨o1, 0, none⟩) n n), (7, .slice (some ⟨o2, 0, none⟩) n n), (9, .int .i64 (left - (i : Int))), (10, .int .i64 (g : Int)), (11, .int .i64 (IntKind.i64.wrap ((v : Int) + 1)))] (fun _ => by kernel_rfl) (endR ?_) : RT _ _ _ _ _ _ 3 _)
            refine PT.keep (L' := [(4, .slice none 0 0), (6, .slice (some ⟨o1, 0, none⟩) n n), (7, .slice (some ⟨o2, 0, none⟩) n n), (9, .int .i64 (left - (i : Int))), (10, .int .i64 (g : Int)), (11, .int .i64 (IntKind.i64.wrap ((v : Int) + 1)))]) [4, 6, 7, 9, 10, 11] rfl ?_
            exact againG (k3 - 1) (g, v + 1) (by rw [hw3]) rfl (by omega) ⟨by simp only; omega, by simp only; omega, by simp only; rw [hgs, if_neg (of_decide_eq_false h4)]⟩
        · skip
          have hv : v = xs.length := by have := of_decide_eq_false h3; omega
          rw [hv] at hg
          have hqb := hbd q (List.mem_of_getElem? hq)
          rw [← hg, List.getD_eq_getElem?_getD, hq, Option.getD_some] at hstp
          have hwq : IntKind.i64.wrap (q.1 + 1) = q.1 + 1 := by rw [IntKind.wrap_i64]; omega
          refine exitR 4 (by kernel_rfl) (by kernel_rfl) ?_
          refine thenX ?_
          refine thenX ?_
          refine leaveR ?_
          refine regionR 13 (by kernel_rfl) (by kernel_rfl) ?_
          refine (run0 (z := 7) 6 [4, 6, 7, 9, 76, 77, 78, 79, 80, 81] [(4, .slice none 0 0), (6, .slice (some ⟨o1, 0, none⟩) n n), (7, .slice (some ⟨o2, 0, none⟩) n n), (9, .int .i64 (left - (i : Int))), (76, .slice (some ⟨o1, 0, none⟩) n n), (77, .int .i64 (g : Int)), (78, .slice (some ⟨o2, 0, none⟩) n n), (79, .int .i64 (g : Int)), (80, .slice (some ⟨o1, 0, none⟩) n n), (81, .int .i64 (g : Int))] (fun _ => by kernel_rfl) ?_ : RT _ _ _ _ _ _ 13 _)
          refine (stepR (z := 6) (yldS (idxY 26 (.tmp 80) (.tmp 81) o1 0 n n g 1 3 (g : Int) .i64 (some 82) (fun _ => by kernel_rfl) (by kernel_rfl) (by kernel_rfl) (fun _ => by kernel_rfl) (fun _ => by kernel_rfl) Try.underlying26 (by kernel_rfl) (by first | rfl | assumption | simp) (by first | omega | (simp; done) | (simp; omega) | (simp at *; omega)))) (fun _ => ?_) : RT _ _ _ _ _ _ 7 _)
          refine (runR (H := (row (kE .i64) 3 (.slice (some ⟨o1, 0, none⟩) n n) (xs.map Prod.fst) :: row (kE .i64) 3 (.slice (some ⟨o2, 0, none⟩) n n) (xs.map Prod.snd) :: H)) (z := 4) 2 [4, 6, 7, 9, 76, 77, 78, 79, 84] [(4, .slice none 0 0), (6, .slice (some ⟨o1, 0, none⟩) n n), (7, .slice (some ⟨o2, 0, none⟩) n n), (9, .int .i64 (left - (i : Int))), (76, .slice (some ⟨o1, 0, none⟩) n n), (77, .int .i64 (g : Int)), (78, .slice (some ⟨o2, 0, none⟩) n n), (79, .int .i64 (g : Int)), (84, .int .i64 (IntKind.i64.wrap (q.1 + 1)))] [(⟨o1, 0 + g * 1, none⟩, .int .i64 q.1)] (hasC ((rowKRm (E := kE .i64) (T := 3) (A := some ⟨o1, 0, none⟩) (k := n) (m := n) (xs := xs.map Prod.fst) 0 rfl (by simp only [List.length_map]; omega)).cell rfl (i := g) (x := q.1) (by rw [List.getElem?_map, hq]; rfl) (j := 0) rfl) has0) (fun _ => by kernel_rfl) ?_ : RT _ _ _ _ _ _ 6 _)
          refine (stepR (z := 3) (yldS (idxY 26 (.tmp 76) (.tmp 77) o1 0 n n g 1 3 (g : Int) .i64 (some 85) (fun _ => by kernel_rfl) (by kernel_rfl) (by kernel_rfl) (fun _ => by kernel_rfl) (fun _ => by kernel_rfl) Try.underlying26 (by kernel_rfl) (by first | rfl | assumption | simp) (by first | omega | (simp; done) | (simp; omega) | (simp at *; omega)))) (fun _ => ?_) : RT _ _ _ _ _ _ 4 _)
          rw [hwq]
          refine (stepR (z := 2) (setS (E := (kE .i64)) (J := g) (j := 0) q.1 (q.1 + 1) (.int .i64 (q.1 + 1)) ⟨o1, 0 + g * 1, none⟩ (fun _ => by kernel_rfl) (by first | rfl | simp) ((by rw [List.getElem?_map, hq]; rfl)) (rfl) (by decide)) (fun _ => ?_) : RT _ _ _ (row (kE .i64) 3 (.slice (some ⟨o1, 0, none⟩) n n) (xs.map Prod.fst) :: row (kE .i64) 3 (.slice (some ⟨o2, 0, none⟩) n n) (xs.map Prod.snd) :: H) _ _ 3 _)
          refine (stepR (z := 1) (yldS (idxY 26 (.tmp 78) (.tmp 79) o2 0 n n g 1 3 (g : Int) .i64 (some 86) (fun _ => by kernel_rfl) (by kernel_rfl) (by kernel_rfl) (fun _ => by kernel_rfl) (fun _ => by kernel_rfl) Try.underlying26 (by kernel_rfl) (by first | rfl | assumption | simp) (by first | omega | (simp; done) | (simp; omega) | (simp at *; omega)))) (fun _ => ?_) : RT _ _ _ _ _ _ 2 _)
          refine RT.pick 1 rfl ?_
          refine (stepR (z := 0) (setS (E := (kE .i64)) (J := g) (j := 0) q.2 (-1) (.int .i64 (-1)) ⟨o2, 0 + g * 1, none⟩ (fun _ => by kernel_rfl) (by first | rfl | simp) ((by rw [List.getElem?_map, hq]; rfl)) (rfl) (by decide)) (fun _ => ?_) : RT _ _ _ (row (kE .i64) 3 (.slice (some ⟨o2, 0, none⟩) n n) (xs.map Prod.snd) :: row (kE .i64) 3 (.slice (some ⟨o1, 0, none⟩) n n) ((xs.map Prod.fst).set g (q.1 + 1)) :: H) _ _ 1 _)
          refine endR ?_
          refine regionR 3 (by kernel_rfl) (by kernel_rfl) ?_
          refine (run0 (z := 0) 3 [4, 6, 7, 9] [(4, .slice none 0 0), (6, .slice (some ⟨o1, 0, none⟩) n n), (7, .slice (some ⟨o2, 0, none⟩) n n), (9, .int .i64 (IntKind.i64.wrap ((left - (i : Int)) - 1)))] (fun _ => by kernel_rfl) (endR ?_) : RT _ _ _ _ _ _ 3 _)
          refine PT.pick 1 rfl ?_
          refine PT.keep (L' := [(4, .slice none 0 0), (6, .slice (some ⟨o1, 0, none⟩) n n), (7, .slice (some ⟨o2, 0, none⟩) n n), (9, .int .i64 (IntKind.i64.wrap ((left - (i : Int)) - 1)))]) [4, 6, 7, 9] rfl ?_
          exact againG (k2 - 1) (xs.set g (q.1 + 1, -1), i + 1) (by rw [hw2]) (by rw [List.map_set, List.map_set]; rfl) (by omega) ⟨by simp only; omega, hstp.symm, by simp only [List.length_set]; exact hlen, fun p hp => by
            simp only at hp ⊢
            rcases List.mem_or_eq_of_mem_set hp with hp | rfl
            · have := hbd p hp; omega
            · simp only; omega⟩
      · skip
        have hil : i = left.toNat := by have := of_decide_eq_false h2; omega
        rw [hil, hleft] at hst
        rw [← hst] at hcnt
        have hxl : n = (xs.map Prod.fst).length := by rw [List.length_map]; omega
        refine exitR 2 (by kernel_rfl) (by kernel_rfl) ?_
        refine thenX ?_
        refine thenX ?_
        refine leaveR ?_
        refine seqR (by kernel_rfl) ?_
        refine regionR 2 (by kernel_rfl) (by kernel_rfl) ?_
        refine (run0 (z := 0) 2 [4] [(4, .slice (some ⟨o1, 0, none⟩) n n)] (fun _ => by kernel_rfl) (endR ?_) : RT _ _ _ _ _ _ 2 _)
        refine retR (by kernel_rfl) ?_
        refine done0 (.slice (some ⟨o1, 0, none⟩) n n) (fun _ => by kernel_rfl) (fun w hs => ?_) .ret (.inr rfl)
        rw [hcnt, ← hxl]; exact ⟨(some ⟨o1, 0, none⟩, n), rfl, (hs.pick 1 rfl).tail⟩
  | false =>
    refine condR (b := true) (by kernel_rfl) (fun _ => by kernel_rfl) (fun _ => ?_) (fun h => by cases h)
    refine seqR (by kernel_rfl) ?_
    refine regionR 1 (by kernel_rfl) (by kernel_rfl) ?_
    refine (run0 (z := 0) 1 [0, 1, 4] [(0, .int .i64 frame), (1, .slice s.a s.l.length s.c), (4, .slice none 0 0)] (fun _ => by kernel_rfl) (endR ?_) : RT _ _ _ _ _ _ 1 _)
    refine retR (by kernel_rfl) ?_
    refine thenV ?_
    refine PT.rowNil (kE .i64) 3 ?_
    refine done0 (.slice none 0 0) (fun _ => by kernel_rfl) (fun w hs => ?_) .ret (.inr rfl)
    have h1 : countsOf frame s.l = [] := by rw [countsOf, if_pos (by unfold mayShares at hm; simpa using hm)]
    rw [h1]; exact ⟨(none, 0), rfl, hs⟩
end Go.Proofs.Ytjjbnmlhbbnhcaa
