/- PlanTime: its walk. Conditions: none. -/
import Derived.Test.YtjjbnmlhbbnhcaaKnw
import Derived.Test.YtjjbnmlhbbnhcaaWid
import Derived.Test.YtjjbnmlhbbnhcaaCfp
import Derived.Test.YtjjbnmlhbbnhcaaOpc
set_option linter.unusedVariables false
set_option linter.unusedSimpArgs false
namespace Go.Proofs.Ytjjbnmlhbbnhcaa
open Go.RowKit G
theorem risConf_c (H : List SP) (c : ConfV) (hk : KC H c) (hsm : SmallC c) : ∀ w, Sat w H → Calls Try.prog 18 #[.agg #[.int .i64 c.frame, .int .i64 c.epoch, .slice c.plans.a c.plans.l.length c.plans.c, .slice c.domains.a c.domains.l.length c.domains.c]] w (Ret (ι := Unit) (fun _ => .int .i64 (confErr c)) fun _ => H) := by
  rw [confErr_eq hsm]; exact risConf_walk H c hk hsm
theorem mx0 {t : Int} (h : 0 ≤ t) : mxI t 0 = t := by unfold mxI; rw [if_neg (by omega)]
theorem time_law {F E n t : Int} (hF : 1 ≤ F) (hF2 : F ≤ 64) (hE : 1 ≤ E) (hE2 : E ≤ 8) (hn : n = F * E) (ht : 0 ≤ t) : 0 ≤ t.tmod F ∧ t.tmod F < F ∧ ((t + 1).tmod F = t.tmod F + 1 ∨ (t + 1).tmod F = 0 ∧ t.tmod F = F - 1) ∧
    (((t + 1).tdiv n = t.tdiv n) ↔ (t + 1).tmod n ≠ 0) ∧ t.tdiv n ≤ (t + 1).tdiv n ∧ (t + 1).tdiv n ≤ t.tdiv n + 1 ∧ ((t + 1).tmod n = 0 → (t + 1).tmod F = 0) ∧ 0 ≤ t.tdiv n ∧ t.tdiv n ≤ t := by
  have hnp : 1 * 1 ≤ n := by rw [hn]; exact Int.mul_le_mul hF hE (by omega) (by omega)
  have step : ∀ m : Int, 1 ≤ m → (t + 1) % m = t % m + 1 ∧ (t + 1) / m = t / m ∧ t % m + 1 < m ∨ (t + 1) % m = 0 ∧ t % m = m - 1 ∧ (t + 1) / m = t / m + 1 := by
    intro m hm
    have h1 := Int.emod_add_mul_ediv t m
    have h2 := Int.emod_nonneg t (show m ≠ 0 by omega)
    have h3 := Int.emod_lt_of_pos t (show 0 < m by omega)
    by_cases c : t % m + 1 < m
    · left
      have e : t + 1 = (t % m + 1) + m * (t / m) := by omega
      have d1 : (t + 1) % m = t % m + 1 := by
        rw [e, Int.add_mul_emod_self_left]; exact Int.emod_eq_of_lt (by omega) c
      have d2 : (t + 1) / m = t / m := by
        rw [e, Int.add_mul_ediv_left _ _ (by omega), Int.ediv_eq_zero_of_lt (by omega) c]; omega
      exact ⟨d1, d2, c⟩
    · right
      have e : t + 1 = 0 + m * (t / m + 1) := by rw [Int.mul_add]; omega
      refine ⟨?_, by omega, ?_⟩
      · rw [e, Int.add_mul_emod_self_left]; simp
      · rw [e, Int.add_mul_ediv_left _ _ (by omega)]; simp
  have hd : (t + 1) % n = 0 → (t + 1) % F = 0 := by
    intro h
    have : n ∣ t + 1 := Int.dvd_of_emod_eq_zero h
    have h2 : F ∣ n := ⟨E, hn⟩
    exact Int.emod_eq_zero_of_dvd (Int.dvd_trans h2 this)
  rw [Int.tmod_eq_emod_of_nonneg ht, Int.tmod_eq_emod_of_nonneg (show 0 ≤ t + 1 by omega), Int.tmod_eq_emod_of_nonneg (show 0 ≤ t + 1 by omega), Int.tdiv_eq_ediv_of_nonneg ht, Int.tdiv_eq_ediv_of_nonneg (show 0 ≤ t + 1 by omega)]
  have sF := step F hF
  have sN := step n (by omega)
  have a1 := Int.emod_nonneg t (show F ≠ 0 by omega)
  have a2 := Int.emod_lt_of_pos t (show 0 < F by omega)
  have a3 := Int.emod_nonneg t (show n ≠ 0 by omega)
  have a4 : 0 ≤ t / n := Int.ediv_nonneg ht (by omega)
  have a5 : t / n ≤ t := Int.ediv_le_self _ ht
  refine ⟨a1, a2, by omega, ?_, by omega, by omega, hd, a4, a5⟩
  constructor
  · intro h; omega
  · intro h; omega
set_option maxHeartbeats 1000000 in
set_option maxRecDepth 100000 in
theorem time_walk (H : List SP) (c : ConfV) (t : Int) (hk : KC H c) (ht : 0 ≤ t ∧ t < 65536) : ∀ w, Sat w H → Calls Try.prog 5 #[.agg #[.int .i64 c.frame, .int .i64 c.epoch, .slice c.plans.a c.plans.l.length c.plans.c, .slice c.domains.a c.domains.l.length c.domains.c], .int .u16 t] w (Ret (ι := Unit) (fun _ => .bool true) fun _ => H) := by
  refine enterG (fn := Try.f5) 93 [.agg #[.int .i64 c.frame, .int .i64 c.epoch, .slice c.plans.a c.plans.l.length c.plans.c, .slice c.domains.a c.domains.l.length c.domains.c], .int .u16 t] Try.func5 (by kernel_rfl) (by kernel_rfl) (by kernel_rfl) ?_
  refine seqR (by kernel_rfl) ?_
  refine regionR 2 (by kernel_rfl) (by kernel_rfl) ?_
  refine (stepR (z := 1) (newS 25 [.int .i64 c.frame, .int .i64 c.epoch, .slice c.plans.a c.plans.l.length c.plans.c, .slice c.domains.a c.domains.l.length c.domains.c] (some 2) (fun b => .pointer (some ⟨b, 0, none⟩)) (fun _ _ => by kernel_rfl)) (fun b1 => ?_) : RT _ _ _ _ _ _ 2 _)
  refine (run0 (z := 0) 1 [2, 1, 4] [(2, .pointer (some ⟨b1, 0, none⟩)), (1, .int .u16 t), (4, .bool false)] (fun _ => by kernel_rfl) (endR ?_) : RT _ _ _ _ _ _ 1 _)
  refine seqR (by kernel_rfl) ?_
  refine seqR (by kernel_rfl) ?_
  refine regionR 2 (by kernel_rfl) (by kernel_rfl) ?_
  refine (stepR (z := 1) (callS 7 [] (some 10) (fun _ => .bool true) (fun (_ : Unit) => (blk b1 25 [.int .i64 c.frame, .int .i64 c.epoch, .slice c.plans.a c.plans.l.length c.plans.c, .slice c.domains.a c.domains.l.length c.domains.c] :: H)) (fun _ => by kernel_rfl) (known_true _)) (fun _ => ?_) : RT _ _ _ _ _ _ 2 _)
  refine (run0 (z := 0) 1 [2, 1, 4, 11] [(2, .pointer (some ⟨b1, 0, none⟩)), (1, .int .u16 t), (4, .bool false), (11, .bool false)] (fun _ => by kernel_rfl) (endR ?_) : RT _ _ _ _ _ _ 1 _)
  refine condR (b := false) (by kernel_rfl) (fun _ => by kernel_rfl) (fun h => by cases h) (fun _ => ?_)
  refine skipR (by kernel_rfl) ?_
  refine seqR (by kernel_rfl) ?_
  refine seqR (by kernel_rfl) ?_
  refine regionR 7 (by kernel_rfl) (by kernel_rfl) ?_
  refine (runR (H := (blk b1 25 [.int .i64 c.frame, .int .i64 c.epoch, .slice c.plans.a c.plans.l.length c.plans.c, .slice c.domains.a c.domains.l.length c.domains.c] :: H)) (z := 6) 1 [2, 1, 4, 12] [(2, .pointer (some ⟨b1, 0, none⟩)), (1, .int .u16 t), (4, .bool false), (12, .agg #[.int .i64 c.frame, .int .i64 c.epoch, .slice c.plans.a c.plans.l.length c.plans.c, .slice c.domains.a c.domains.l.length c.domains.c])] [(⟨b1, 0, none⟩, .int .i64 c.frame), (⟨b1, 1, none⟩, .int .i64 c.epoch), (⟨b1, 2, none⟩, .slice c.plans.a c.plans.l.length c.plans.c), (⟨b1, 3, none⟩, .slice c.domains.a c.domains.l.length c.domains.c)] (hasC (blkAt (T := 25) (cs := [.int .i64 c.frame, .int .i64 c.epoch, .slice c.plans.a c.plans.l.length c.plans.c, .slice c.domains.a c.domains.l.length c.domains.c]) 0 rfl rfl) (hasC (blkAt (T := 25) (cs := [.int .i64 c.frame, .int .i64 c.epoch, .slice c.plans.a c.plans.l.length c.plans.c, .slice c.domains.a c.domains.l.length c.domains.c]) 0 rfl rfl) (hasC (blkAt (T := 25) (cs := [.int .i64 c.frame, .int .i64 c.epoch, .slice c.plans.a c.plans.l.length c.plans.c, .slice c.domains.a c.domains.l.length c.domains.c]) 0 rfl rfl) (hasC (blkAt (T := 25) (cs := [.int .i64 c.frame, .int .i64 c.epoch, .slice c.plans.a c.plans.l.length c.plans.c, .slice c.domains.a c.domains.l.length c.domains.c]) 0 rfl rfl) has0)))) (fun _ => by kernel_rfl) ?_ : RT _ _ _ _ _ _ 7 _)
  refine (stepR (z := 5) (callS 8 [.agg #[.int .i64 c.frame, .int .i64 c.epoch, .slice c.plans.a c.plans.l.length c.plans.c, .slice c.domains.a c.domains.l.length c.domains.c]] (some 13) (fun (p : {b : Bool // b = false → SmallC c}) => .bool p.1) (fun (p : {b : Bool // b = false → SmallC c}) => (blk b1 25 [.int .i64 c.frame, .int .i64 c.epoch, .slice c.plans.a c.plans.l.length c.plans.c, .slice c.domains.a c.domains.l.length c.domains.c] :: H)) (fun _ => by kernel_rfl) (wide_walk _ c hk.up)) (fun (p : {b : Bool // b = false → SmallC c}) => ?_) : RT _ _ _ _ _ _ 6 _)
  obtain ⟨b, hb⟩ := p
  dsimp only
  refine (run0 (z := 4) 1 [2, 1, 4, 14] [(2, .pointer (some ⟨b1, 0, none⟩)), (1, .int .u16 t), (4, .bool false), (14, .bool b)] (fun _ => by kernel_rfl) ?_ : RT _ _ _ _ _ _ 5 _)
  cases hbb : (b) with
  | true =>
    refine (run0 (z := 0) 4 [2, 1, 4, 18] [(2, .pointer (some ⟨b1, 0, none⟩)), (1, .int .u16 t), (4, .bool false), (18, .bool true)] (fun _ => by kernel_rfl) (endR ?_) : RT _ _ _ _ _ _ 4 _)
    refine condR (b := true) (by kernel_rfl) (fun _ => by kernel_rfl) (fun _ => ?_) (fun h => by cases h)
    refine seqR (by kernel_rfl) ?_
    refine regionR 1 (by kernel_rfl) (by kernel_rfl) ?_
    refine (run0 (z := 0) 1 [2, 1, 4] [(2, .pointer (some ⟨b1, 0, none⟩)), (1, .int .u16 t), (4, .bool true)] (fun _ => by kernel_rfl) (endR ?_) : RT _ _ _ _ _ _ 1 _)
    refine retR (by kernel_rfl) ?_
    refine thenV ?_
    refine done0 (.bool true) (fun _ => by kernel_rfl) (fun w hs => ?_) .ret (.inr rfl)
    exact ⟨(), rfl, hs.tail⟩
  | false =>
    have hsm := hb hbb
    refine (runR (H := (blk b1 25 [.int .i64 c.frame, .int .i64 c.epoch, .slice c.plans.a c.plans.l.length c.plans.c, .slice c.domains.a c.domains.l.length c.domains.c] :: H)) (z := 3) 1 [2, 1, 4, 14, 15] [(2, .pointer (some ⟨b1, 0, none⟩)), (1, .int .u16 t), (4, .bool false), (14, .bool false), (15, .agg #[.int .i64 c.frame, .int .i64 c.epoch, .slice c.plans.a c.plans.l.length c.plans.c, .slice c.domains.a c.domains.l.length c.domains.c])] [(⟨b1, 0, none⟩, .int .i64 c.frame), (⟨b1, 1, none⟩, .int .i64 c.epoch), (⟨b1, 2, none⟩, .slice c.plans.a c.plans.l.length c.plans.c), (⟨b1, 3, none⟩, .slice c.domains.a c.domains.l.length c.domains.c)] (hasC (blkAt (T := 25) (cs := [.int .i64 c.frame, .int .i64 c.epoch, .slice c.plans.a c.plans.l.length c.plans.c, .slice c.domains.a c.domains.l.length c.domains.c]) 0 rfl rfl) (hasC (blkAt (T := 25) (cs := [.int .i64 c.frame, .int .i64 c.epoch, .slice c.plans.a c.plans.l.length c.plans.c, .slice c.domains.a c.domains.l.length c.domains.c]) 0 rfl rfl) (hasC (blkAt (T := 25) (cs := [.int .i64 c.frame, .int .i64 c.epoch, .slice c.plans.a c.plans.l.length c.plans.c, .slice c.domains.a c.domains.l.length c.domains.c]) 0 rfl rfl) (hasC (blkAt (T := 25) (cs := [.int .i64 c.frame, .int .i64 c.epoch, .slice c.plans.a c.plans.l.length c.plans.c, .slice c.domains.a c.domains.l.length c.domains.c]) 0 rfl rfl) has0)))) (fun _ => by kernel_rfl) ?_ : RT _ _ _ _ _ _ 4 _)
    refine (stepR (z := 2) (callS 18 [.agg #[.int .i64 c.frame, .int .i64 c.epoch, .slice c.plans.a c.plans.l.length c.plans.c, .slice c.domains.a c.domains.l.length c.domains.c]] (some 16) (fun _ => .int .i64 (confErr c)) (fun _ => (blk b1 25 [.int .i64 c.frame, .int .i64 c.epoch, .slice c.plans.a c.plans.l.length c.plans.c, .slice c.domains.a c.domains.l.length c.domains.c] :: H)) (fun _ => by kernel_rfl) (risConf_c _ c hk.up hsm)) (fun _ => ?_) : RT _ _ _ _ _ _ 3 _)
    refine (run0 (z := 0) 2 [2, 1, 4, 18] [(2, .pointer (some ⟨b1, 0, none⟩)), (1, .int .u16 t), (4, .bool false), (18, .bool ((confErr c) != 0))] (fun _ => by kernel_rfl) (endR ?_) : RT _ _ _ _ _ _ 2 _)
    refine condR (b := (confErr c) != 0) (by kernel_rfl) (fun _ => by kernel_rfl) (fun h2 => ?_) (fun h2 => ?_)
    · skip
      refine seqR (by kernel_rfl) ?_
      refine regionR 1 (by kernel_rfl) (by kernel_rfl) ?_
      refine (run0 (z := 0) 1 [2, 1, 4] [(2, .pointer (some ⟨b1, 0, none⟩)), (1, .int .u16 t), (4, .bool true)] (fun _ => by kernel_rfl) (endR ?_) : RT _ _ _ _ _ _ 1 _)
      refine retR (by kernel_rfl) ?_
      refine thenV ?_
      refine done0 (.bool true) (fun _ => by kernel_rfl) (fun w hs => ?_) .ret (.inr rfl)
      exact ⟨(), rfl, hs.tail⟩
    · skip
      have he : confErr c = 0 := by simpa using h2
      have hw : IntKind.i64.wrap t = t := by rw [IntKind.wrap_i64]; omega
      refine skipR (by kernel_rfl) ?_
      refine seqR (by kernel_rfl) ?_
      refine regionR 3 (by kernel_rfl) (by kernel_rfl) ?_
      refine (run0 (z := 0) 3 [2, 4, 5] [(2, .pointer (some ⟨b1, 0, none⟩)), (4, .bool false), (5, .int .i64 (IntKind.i64.wrap t))] (fun _ => by kernel_rfl) (endR ?_) : RT _ _ _ _ _ _ 3 _)
      refine seqR (by kernel_rfl) ?_
      refine drawR (fun w => Sat w (blk b1 25 [.int .i64 c.frame, .int .i64 c.epoch, .slice c.plans.a c.plans.l.length c.plans.c, .slice c.domains.a c.domains.l.length c.domains.c] :: H)) [] 9 (by kernel_rfl) (by kernel_rfl) (by kernel_rfl) (fun _ h => by first | exact h | exact h.tail | exact h.tail.tail | exact h.tail.tail.tail | exact h.tail.tail.tail.tail) ?_
      refine takesR [0, 1, 3, 4, 5] [2, 4, 5, 21, 22, 24, 26] 4 [true, true, false, true, true, true, false, false, false] [(2, .pointer (some ⟨b1, 0, none⟩)), (4, .bool false), (5, .int .i64 (IntKind.i64.wrap t)), (21, .agg #[.int .i64 c.frame, .int .i64 c.epoch, .slice c.plans.a c.plans.l.length c.plans.c, .slice c.domains.a c.domains.l.length c.domains.c]), (22, .int .i64 (IntKind.i64.wrap t)), (24, .agg #[.int .i64 c.frame, .int .i64 c.epoch, .slice c.plans.a c.plans.l.length c.plans.c, .slice c.domains.a c.domains.l.length c.domains.c]), (26, .int .i64 (IntKind.i64.wrap ((IntKind.i64.wrap t) + 1)))] [(⟨b1, 0, none⟩, .int .i64 c.frame), (⟨b1, 1, none⟩, .int .i64 c.epoch), (⟨b1, 2, none⟩, .slice c.plans.a c.plans.l.length c.plans.c), (⟨b1, 3, none⟩, .slice c.domains.a c.domains.l.length c.domains.c), (⟨b1, 0, none⟩, .int .i64 c.frame), (⟨b1, 1, none⟩, .int .i64 c.epoch), (⟨b1, 2, none⟩, .slice c.plans.a c.plans.l.length c.plans.c), (⟨b1, 3, none⟩, .slice c.domains.a c.domains.l.length c.domains.c)] rfl (fun _ d _ _ _ h => by cases d <;> exact h) (fun _ h => by first | exact h | exact h.tail | exact h.tail.tail | exact h.tail.tail.tail | exact h.tail.tail.tail.tail) (hasC (blkAt (T := 25) (cs := [.int .i64 c.frame, .int .i64 c.epoch, .slice c.plans.a c.plans.l.length c.plans.c, .slice c.domains.a c.domains.l.length c.domains.c]) 0 rfl rfl) (hasC (blkAt (T := 25) (cs := [.int .i64 c.frame, .int .i64 c.epoch, .slice c.plans.a c.plans.l.length c.plans.c, .slice c.domains.a c.domains.l.length c.domains.c]) 0 rfl rfl) (hasC (blkAt (T := 25) (cs := [.int .i64 c.frame, .int .i64 c.epoch, .slice c.plans.a c.plans.l.length c.plans.c, .slice c.domains.a c.domains.l.length c.domains.c]) 0 rfl rfl) (hasC (blkAt (T := 25) (cs := [.int .i64 c.frame, .int .i64 c.epoch, .slice c.plans.a c.plans.l.length c.plans.c, .slice c.domains.a c.domains.l.length c.domains.c]) 0 rfl rfl) (hasC (blkAt (T := 25) (cs := [.int .i64 c.frame, .int .i64 c.epoch, .slice c.plans.a c.plans.l.length c.plans.c, .slice c.domains.a c.domains.l.length c.domains.c]) 0 rfl rfl) (hasC (blkAt (T := 25) (cs := [.int .i64 c.frame, .int .i64 c.epoch, .slice c.plans.a c.plans.l.length c.plans.c, .slice c.domains.a c.domains.l.length c.domains.c]) 0 rfl rfl) (hasC (blkAt (T := 25) (cs := [.int .i64 c.frame, .int .i64 c.epoch, .slice c.plans.a c.plans.l.length c.plans.c, .slice c.domains.a c.domains.l.length c.domains.c]) 0 rfl rfl) (hasC (blkAt (T := 25) (cs := [.int .i64 c.frame, .int .i64 c.epoch, .slice c.plans.a c.plans.l.length c.plans.c, .slice c.domains.a c.domains.l.length c.domains.c]) 0 rfl rfl) has0)))))))) (fun _ => by kernel_rfl) ?_
      rw [hw]
      have hw1 : IntKind.i64.wrap (t + 1) = t + 1 := by rw [IntKind.wrap_i64]; omega
      rw [hw1]
      obtain ⟨hF1, hF2, hE1, hE2⟩ := frame_pos he
      obtain ⟨l1, l2, l3, l4, l5, l6, l7, l8, l9⟩ := time_law hF1 hF2 hE1 hE2 (ticks_pos he).1 ht.1
      have ea : slotOf c t = t.tmod c.frame := by rw [slotOf, if_pos he, mx0 ht.1]
      have eb : slotOf c (t + 1) = (t + 1).tmod c.frame := by rw [slotOf, if_pos he, mx0 (by omega)]
      have ex : epochOf c t = t.tdiv (ticksOf c) := by rw [epochOf, if_pos he, mx0 ht.1, IntKind.wrap_i64]; omega
      have ey : epochOf c (t + 1) = (t + 1).tdiv (ticksOf c) := by rw [epochOf, if_pos he, mx0 (by omega), IntKind.wrap_i64]; omega
      have eg : beginsOf c (t + 1) = ((t + 1).tmod (ticksOf c) == 0) := by rw [beginsOf, decide_eq_true he, mx0 (by omega), Bool.true_and]
      refine oneR 2 3 [true, true, true, true, true, true, false, false, false] rfl rfl (by kernel_rfl) (callS 15 [.agg #[.int .i64 c.frame, .int .i64 c.epoch, .slice c.plans.a c.plans.l.length c.plans.c, .slice c.domains.a c.domains.l.length c.domains.c], .int .i64 t] (some 23) (fun _ => .int .i64 (slotOf c t)) (fun _ => (blk b1 25 [.int .i64 c.frame, .int .i64 c.epoch, .slice c.plans.a c.plans.l.length c.plans.c, .slice c.domains.a c.domains.l.length c.domains.c] :: H)) (fun _ => by kernel_rfl) (slot_walk _ c t hk.up hsm)) (fun _ _ h _ => by first | exact h | exact h.tail | exact h.tail.tail | exact h.tail.tail.tail | exact h.tail.tail.tail.tail) (fun _ => ?_)
      refine oneR 6 2 [true, true, true, true, true, true, true, false, false] rfl rfl (by kernel_rfl) (callS 15 [.agg #[.int .i64 c.frame, .int .i64 c.epoch, .slice c.plans.a c.plans.l.length c.plans.c, .slice c.domains.a c.domains.l.length c.domains.c], .int .i64 (t + 1)] (some 27) (fun _ => .int .i64 (slotOf c (t + 1))) (fun _ => (blk b1 25 [.int .i64 c.frame, .int .i64 c.epoch, .slice c.plans.a c.plans.l.length c.plans.c, .slice c.domains.a c.domains.l.length c.domains.c] :: H)) (fun _ => by kernel_rfl) (slot_walk _ c (t + 1) hk.up hsm)) (fun _ _ h _ => by first | exact h | exact h.tail | exact h.tail.tail | exact h.tail.tail.tail | exact h.tail.tail.tail.tail) (fun _ => ?_)
      refine takesR [7, 8] [2, 4, 5, 6, 7] 0 [true, true, true, true, true, true, true, true, true] [(2, .pointer (some ⟨b1, 0, none⟩)), (4, .bool false), (5, .int .i64 t), (6, .int .i64 (slotOf c t)), (7, .int .i64 (slotOf c (t + 1)))] [] rfl (fun _ d _ _ _ h => by cases d <;> exact h) (fun _ h => by first | exact h | exact h.tail | exact h.tail.tail | exact h.tail.tail.tail | exact h.tail.tail.tail.tail) has0 (fun _ => by kernel_rfl) ?_
      refine drawnR (by kernel_rfl) ?_
      refine seqR (by kernel_rfl) ?_
      refine drawR (fun w => Sat w (blk b1 25 [.int .i64 c.frame, .int .i64 c.epoch, .slice c.plans.a c.plans.l.length c.plans.c, .slice c.domains.a c.domains.l.length c.domains.c] :: H)) [] 9 (by kernel_rfl) (by kernel_rfl) (by kernel_rfl) (fun _ h => by first | exact h | exact h.tail | exact h.tail.tail | exact h.tail.tail.tail | exact h.tail.tail.tail.tail) ?_
      refine takesR [0, 1, 3, 4, 5] [2, 4, 5, 6, 7, 28, 29, 31, 33] 4 [true, true, false, true, true, true, false, false, false] [(2, .pointer (some ⟨b1, 0, none⟩)), (4, .bool false), (5, .int .i64 t), (6, .int .i64 (slotOf c t)), (7, .int .i64 (slotOf c (t + 1))), (28, .agg #[.int .i64 c.frame, .int .i64 c.epoch, .slice c.plans.a c.plans.l.length c.plans.c, .slice c.domains.a c.domains.l.length c.domains.c]), (29, .int .i64 t), (31, .agg #[.int .i64 c.frame, .int .i64 c.epoch, .slice c.plans.a c.plans.l.length c.plans.c, .slice c.domains.a c.domains.l.length c.domains.c]), (33, .int .i64 (IntKind.i64.wrap (t + 1)))] [(⟨b1, 0, none⟩, .int .i64 c.frame), (⟨b1, 1, none⟩, .int .i64 c.epoch), (⟨b1, 2, none⟩, .slice c.plans.a c.plans.l.length c.plans.c), (⟨b1, 3, none⟩, .slice c.domains.a c.domains.l.length c.domains.c), (⟨b1, 0, none⟩, .int .i64 c.frame), (⟨b1, 1, none⟩, .int .i64 c.epoch), (⟨b1, 2, none⟩, .slice c.plans.a c.plans.l.length c.plans.c), (⟨b1, 3, none⟩, .slice c.domains.a c.domains.l.length c.domains.c)] rfl (fun _ d _ _ _ h => by cases d <;> exact h) (fun _ h => by first | exact h | exact h.tail | exact h.tail.tail | exact h.tail.tail.tail | exact h.tail.tail.tail.tail) (hasC (blkAt (T := 25) (cs := [.int .i64 c.frame, .int .i64 c.epoch, .slice c.plans.a c.plans.l.length c.plans.c, .slice c.domains.a c.domains.l.length c.domains.c]) 0 rfl rfl) (hasC (blkAt (T := 25) (cs := [.int .i64 c.frame, .int .i64 c.epoch, .slice c.plans.a c.plans.l.length c.plans.c, .slice c.domains.a c.domains.l.length c.domains.c]) 0 rfl rfl) (hasC (blkAt (T := 25) (cs := [.int .i64 c.frame, .int .i64 c.epoch, .slice c.plans.a c.plans.l.length c.plans.c, .slice c.domains.a c.domains.l.length c.domains.c]) 0 rfl rfl) (hasC (blkAt (T := 25) (cs := [.int .i64 c.frame, .int .i64 c.epoch, .slice c.plans.a c.plans.l.length c.plans.c, .slice c.domains.a c.domains.l.length c.domains.c]) 0 rfl rfl) (hasC (blkAt (T := 25) (cs := [.int .i64 c.frame, .int .i64 c.epoch, .slice c.plans.a c.plans.l.length c.plans.c, .slice c.domains.a c.domains.l.length c.domains.c]) 0 rfl rfl) (hasC (blkAt (T := 25) (cs := [.int .i64 c.frame, .int .i64 c.epoch, .slice c.plans.a c.plans.l.length c.plans.c, .slice c.domains.a c.domains.l.length c.domains.c]) 0 rfl rfl) (hasC (blkAt (T := 25) (cs := [.int .i64 c.frame, .int .i64 c.epoch, .slice c.plans.a c.plans.l.length c.plans.c, .slice c.domains.a c.domains.l.length c.domains.c]) 0 rfl rfl) (hasC (blkAt (T := 25) (cs := [.int .i64 c.frame, .int .i64 c.epoch, .slice c.plans.a c.plans.l.length c.plans.c, .slice c.domains.a c.domains.l.length c.domains.c]) 0 rfl rfl) has0)))))))) (fun _ => by kernel_rfl) ?_
      rw [ea, eb]
      generalize t.tmod c.frame = a at *
      generalize (t + 1).tmod c.frame = b2 at *
      rw [hw1]
      refine oneR 2 3 [true, true, true, true, true, true, false, false, false] rfl rfl (by kernel_rfl) (callS 16 [.agg #[.int .i64 c.frame, .int .i64 c.epoch, .slice c.plans.a c.plans.l.length c.plans.c, .slice c.domains.a c.domains.l.length c.domains.c], .int .i64 t] (some 30) (fun _ => .int .i64 (epochOf c t)) (fun _ => (blk b1 25 [.int .i64 c.frame, .int .i64 c.epoch, .slice c.plans.a c.plans.l.length c.plans.c, .slice c.domains.a c.domains.l.length c.domains.c] :: H)) (fun _ => by kernel_rfl) (epoch_walk _ c t hk.up hsm)) (fun _ _ h _ => by first | exact h | exact h.tail | exact h.tail.tail | exact h.tail.tail.tail | exact h.tail.tail.tail.tail) (fun _ => ?_)
      refine oneR 6 2 [true, true, true, true, true, true, true, false, false] rfl rfl (by kernel_rfl) (callS 16 [.agg #[.int .i64 c.frame, .int .i64 c.epoch, .slice c.plans.a c.plans.l.length c.plans.c, .slice c.domains.a c.domains.l.length c.domains.c], .int .i64 (t + 1)] (some 34) (fun _ => .int .i64 (epochOf c (t + 1))) (fun _ => (blk b1 25 [.int .i64 c.frame, .int .i64 c.epoch, .slice c.plans.a c.plans.l.length c.plans.c, .slice c.domains.a c.domains.l.length c.domains.c] :: H)) (fun _ => by kernel_rfl) (epoch_walk _ c (t + 1) hk.up hsm)) (fun _ _ h _ => by first | exact h | exact h.tail | exact h.tail.tail | exact h.tail.tail.tail | exact h.tail.tail.tail.tail) (fun _ => ?_)
      refine takesR [7, 8] [2, 4, 5, 6, 7, 8, 9] 0 [true, true, true, true, true, true, true, true, true] [(2, .pointer (some ⟨b1, 0, none⟩)), (4, .bool false), (5, .int .i64 t), (6, .int .i64 a), (7, .int .i64 b2), (8, .int .i64 (epochOf c t)), (9, .int .i64 (epochOf c (t + 1)))] [] rfl (fun _ d _ _ _ h => by cases d <;> exact h) (fun _ h => by first | exact h | exact h.tail | exact h.tail.tail | exact h.tail.tail.tail | exact h.tail.tail.tail.tail) has0 (fun _ => by kernel_rfl) ?_
      refine drawnR (by kernel_rfl) ?_
      refine seqR (by kernel_rfl) ?_
      refine regionR 59 (by kernel_rfl) (by kernel_rfl) ?_
      refine (run0 (z := 56) 3 [2, 4, 5, 6, 7, 8, 9, 37] [(2, .pointer (some ⟨b1, 0, none⟩)), (4, .bool false), (5, .int .i64 t), (6, .int .i64 a), (7, .int .i64 b2), (8, .int .i64 (epochOf c t)), (9, .int .i64 (epochOf c (t + 1))), (37, .bool (decide (a ≥ 0)))] (fun _ => by kernel_rfl) ?_ : RT _ _ _ _ _ _ 59 _)
      refine (segR (ι := Unit) (z := 51) 5 (fun _ => [(2, .pointer (some ⟨b1, 0, none⟩)), (4, .bool false), (5, .int .i64 t), (6, .int .i64 a), (7, .int .i64 b2), (8, .int .i64 (epochOf c t)), (9, .int .i64 (epochOf c (t + 1))), (42, .bool ((decide (a ≥ 0)) && (decide (a < c.frame))))]) (fun _ => (blk b1 25 [.int .i64 c.frame, .int .i64 c.epoch, .slice c.plans.a c.plans.l.length c.plans.c, .slice c.domains.a c.domains.l.length c.domains.c] :: H)) ?_ (fun _ => ?_) : RT _ _ _ _ _ _ 56 _)
      · cases hg3 : (decide (a ≥ 0)) with
        | true =>
          refine (runR (H := (blk b1 25 [.int .i64 c.frame, .int .i64 c.epoch, .slice c.plans.a c.plans.l.length c.plans.c, .slice c.domains.a c.domains.l.length c.domains.c] :: H)) (z := 0) 5 [2, 4, 5, 6, 7, 8, 9, 42] [(2, .pointer (some ⟨b1, 0, none⟩)), (4, .bool false), (5, .int .i64 t), (6, .int .i64 a), (7, .int .i64 b2), (8, .int .i64 (epochOf c t)), (9, .int .i64 (epochOf c (t + 1))), (42, .bool (decide (a < c.frame)))] [(⟨b1, 0, none⟩, .int .i64 c.frame)] (hasC (blkAt (T := 25) (cs := [.int .i64 c.frame, .int .i64 c.epoch, .slice c.plans.a c.plans.l.length c.plans.c, .slice c.domains.a c.domains.l.length c.domains.c]) 0 rfl rfl) has0) (fun _ => by kernel_rfl) (endR ?_) : RT _ _ _ _ _ _ 5 _)
          refine PT.keep (L' := [(2, .pointer (some ⟨b1, 0, none⟩)), (4, .bool false), (5, .int .i64 t), (6, .int .i64 a), (7, .int .i64 b2), (8, .int .i64 (epochOf c t)), (9, .int .i64 (epochOf c (t + 1))), (42, .bool (true && (decide (a < c.frame))))]) [2, 4, 5, 6, 7, 8, 9, 42] rfl ?_
          exact midR () rfl rfl
        | false =>
          refine (run0 (z := 0) 5 [2, 4, 5, 6, 7, 8, 9, 42] [(2, .pointer (some ⟨b1, 0, none⟩)), (4, .bool false), (5, .int .i64 t), (6, .int .i64 a), (7, .int .i64 b2), (8, .int .i64 (epochOf c t)), (9, .int .i64 (epochOf c (t + 1))), (42, .bool false)] (fun _ => by kernel_rfl) (endR ?_) : RT _ _ _ _ _ _ 5 _)
          refine PT.keep (L' := [(2, .pointer (some ⟨b1, 0, none⟩)), (4, .bool false), (5, .int .i64 t), (6, .int .i64 a), (7, .int .i64 b2), (8, .int .i64 (epochOf c t)), (9, .int .i64 (epochOf c (t + 1))), (42, .bool (false && (decide (a < c.frame))))]) [2, 4, 5, 6, 7, 8, 9, 42] rfl ?_
          exact midR () rfl rfl
      refine (run0 (z := 50) 1 [2, 4, 5, 6, 7, 8, 9, 43] [(2, .pointer (some ⟨b1, 0, none⟩)), (4, .bool false), (5, .int .i64 t), (6, .int .i64 a), (7, .int .i64 b2), (8, .int .i64 (epochOf c t)), (9, .int .i64 (epochOf c (t + 1))), (43, .bool ((decide (a ≥ 0)) && (decide (a < c.frame))))] (fun _ => by kernel_rfl) ?_ : RT _ _ _ _ _ _ 51 _)
      refine (segR (ι := Unit) (z := 34) 16 (fun _ => [(2, .pointer (some ⟨b1, 0, none⟩)), (4, .bool false), (5, .int .i64 t), (7, .int .i64 b2), (8, .int .i64 (epochOf c t)), (9, .int .i64 (epochOf c (t + 1))), (59, .bool (((decide (a ≥ 0)) && (decide (a < c.frame))) && ((b2 == (IntKind.i64.wrap (a + 1))) || ((b2 == 0) && (a == (IntKind.i64.wrap (c.frame - 1)))))))]) (fun _ => (blk b1 25 [.int .i64 c.frame, .int .i64 c.epoch, .slice c.plans.a c.plans.l.length c.plans.c, .slice c.domains.a c.domains.l.length c.domains.c] :: H)) ?_ (fun _ => ?_) : RT _ _ _ _ _ _ 50 _)
      · cases hg9 : ((decide (a ≥ 0)) && (decide (a < c.frame))) with
        | true =>
          refine (run0 (z := 11) 5 [2, 4, 5, 6, 7, 8, 9, 43, 48] [(2, .pointer (some ⟨b1, 0, none⟩)), (4, .bool false), (5, .int .i64 t), (6, .int .i64 a), (7, .int .i64 b2), (8, .int .i64 (epochOf c t)), (9, .int .i64 (epochOf c (t + 1))), (43, .bool true), (48, .bool (b2 == (IntKind.i64.wrap (a + 1))))] (fun _ => by kernel_rfl) ?_ : RT _ _ _ _ _ _ 16 _)
          refine (segR (ι := Unit) (z := 1) 10 (fun _ => [(2, .pointer (some ⟨b1, 0, none⟩)), (4, .bool false), (5, .int .i64 t), (7, .int .i64 b2), (8, .int .i64 (epochOf c t)), (9, .int .i64 (epochOf c (t + 1))), (43, .bool true), (58, .bool ((b2 == (IntKind.i64.wrap (a + 1))) || ((b2 == 0) && (a == (IntKind.i64.wrap (c.frame - 1))))))]) (fun _ => (blk b1 25 [.int .i64 c.frame, .int .i64 c.epoch, .slice c.plans.a c.plans.l.length c.plans.c, .slice c.domains.a c.domains.l.length c.domains.c] :: H)) ?_ (fun _ => ?_) : RT _ _ _ _ _ _ 11 _)
          · cases hg14 : (b2 == (IntKind.i64.wrap (a + 1))) with
            | true =>
              refine (run0 (z := 0) 10 [2, 4, 5, 7, 8, 9, 43, 58] [(2, .pointer (some ⟨b1, 0, none⟩)), (4, .bool false), (5, .int .i64 t), (7, .int .i64 b2), (8, .int .i64 (epochOf c t)), (9, .int .i64 (epochOf c (t + 1))), (43, .bool true), (58, .bool true)] (fun _ => by kernel_rfl) (endR ?_) : RT _ _ _ _ _ _ 10 _)
              refine PT.keep (L' := [(2, .pointer (some ⟨b1, 0, none⟩)), (4, .bool false), (5, .int .i64 t), (7, .int .i64 b2), (8, .int .i64 (epochOf c t)), (9, .int .i64 (epochOf c (t + 1))), (43, .bool true), (58, .bool (true || ((b2 == 0) && (a == (IntKind.i64.wrap (c.frame - 1))))))]) [2, 4, 5, 7, 8, 9, 43, 58] rfl ?_
              exact midR () rfl rfl
            | false =>
              refine (run0 (z := 7) 3 [2, 4, 5, 6, 7, 8, 9, 43, 48, 51] [(2, .pointer (some ⟨b1, 0, none⟩)), (4, .bool false), (5, .int .i64 t), (6, .int .i64 a), (7, .int .i64 b2), (8, .int .i64 (epochOf c t)), (9, .int .i64 (epochOf c (t + 1))), (43, .bool true), (48, .bool false), (51, .bool (b2 == 0))] (fun _ => by kernel_rfl) ?_ : RT _ _ _ _ _ _ 10 _)
              refine (segR (ι := Unit) (z := 1) 6 (fun _ => [(2, .pointer (some ⟨b1, 0, none⟩)), (4, .bool false), (5, .int .i64 t), (7, .int .i64 b2), (8, .int .i64 (epochOf c t)), (9, .int .i64 (epochOf c (t + 1))), (43, .bool true), (48, .bool false), (57, .bool ((b2 == 0) && (a == (IntKind.i64.wrap (c.frame - 1)))))]) (fun _ => (blk b1 25 [.int .i64 c.frame, .int .i64 c.epoch, .slice c.plans.a c.plans.l.length c.plans.c, .slice c.domains.a c.domains.l.length c.domains.c] :: H)) ?_ (fun _ => ?_) : RT _ _ _ _ _ _ 7 _)
              · cases hg17 : (b2 == 0) with
                | true =>
                  refine (runR (H := (blk b1 25 [.int .i64 c.frame, .int .i64 c.epoch, .slice c.plans.a c.plans.l.length c.plans.c, .slice c.domains.a c.domains.l.length c.domains.c] :: H)) (z := 0) 6 [2, 4, 5, 7, 8, 9, 43, 48, 57] [(2, .pointer (some ⟨b1, 0, none⟩)), (4, .bool false), (5, .int .i64 t), (7, .int .i64 b2), (8, .int .i64 (epochOf c t)), (9, .int .i64 (epochOf c (t + 1))), (43, .bool true), (48, .bool false), (57, .bool (a == (IntKind.i64.wrap (c.frame - 1))))] [(⟨b1, 0, none⟩, .int .i64 c.frame)] (hasC (blkAt (T := 25) (cs := [.int .i64 c.frame, .int .i64 c.epoch, .slice c.plans.a c.plans.l.length c.plans.c, .slice c.domains.a c.domains.l.length c.domains.c]) 0 rfl rfl) has0) (fun _ => by kernel_rfl) (endR ?_) : RT _ _ _ _ _ _ 6 _)
                  refine PT.keep (L' := [(2, .pointer (some ⟨b1, 0, none⟩)), (4, .bool false), (5, .int .i64 t), (7, .int .i64 b2), (8, .int .i64 (epochOf c t)), (9, .int .i64 (epochOf c (t + 1))), (43, .bool true), (48, .bool false), (57, .bool (true && (a == (IntKind.i64.wrap (c.frame - 1)))))]) [2, 4, 5, 7, 8, 9, 43, 48, 57] rfl ?_
                  exact midR () rfl rfl
                | false =>
                  refine (run0 (z := 0) 6 [2, 4, 5, 7, 8, 9, 43, 48, 57] [(2, .pointer (some ⟨b1, 0, none⟩)), (4, .bool false), (5, .int .i64 t), (7, .int .i64 b2), (8, .int .i64 (epochOf c t)), (9, .int .i64 (epochOf c (t + 1))), (43, .bool true), (48, .bool false), (57, .bool false)] (fun _ => by kernel_rfl) (endR ?_) : RT _ _ _ _ _ _ 6 _)
                  refine PT.keep (L' := [(2, .pointer (some ⟨b1, 0, none⟩)), (4, .bool false), (5, .int .i64 t), (7, .int .i64 b2), (8, .int .i64 (epochOf c t)), (9, .int .i64 (epochOf c (t + 1))), (43, .bool true), (48, .bool false), (57, .bool (false && (a == (IntKind.i64.wrap (c.frame - 1)))))]) [2, 4, 5, 7, 8, 9, 43, 48, 57] rfl ?_
                  exact midR () rfl rfl
              refine (run0 (z := 0) 1 [2, 4, 5, 7, 8, 9, 43, 58] [(2, .pointer (some ⟨b1, 0, none⟩)), (4, .bool false), (5, .int .i64 t), (7, .int .i64 b2), (8, .int .i64 (epochOf c t)), (9, .int .i64 (epochOf c (t + 1))), (43, .bool true), (58, .bool ((b2 == 0) && (a == (IntKind.i64.wrap (c.frame - 1)))))] (fun _ => by kernel_rfl) (endR ?_) : RT _ _ _ _ _ _ 1 _)
              refine PT.keep (L' := [(2, .pointer (some ⟨b1, 0, none⟩)), (4, .bool false), (5, .int .i64 t), (7, .int .i64 b2), (8, .int .i64 (epochOf c t)), (9, .int .i64 (epochOf c (t + 1))), (43, .bool true), (58, .bool (false || ((b2 == 0) && (a == (IntKind.i64.wrap (c.frame - 1))))))]) [2, 4, 5, 7, 8, 9, 43, 58] rfl ?_
              exact midR () rfl rfl
          refine (run0 (z := 0) 1 [2, 4, 5, 7, 8, 9, 59] [(2, .pointer (some ⟨b1, 0, none⟩)), (4, .bool false), (5, .int .i64 t), (7, .int .i64 b2), (8, .int .i64 (epochOf c t)), (9, .int .i64 (epochOf c (t + 1))), (59, .bool ((b2 == (IntKind.i64.wrap (a + 1))) || ((b2 == 0) && (a == (IntKind.i64.wrap (c.frame - 1))))))] (fun _ => by kernel_rfl) (endR ?_) : RT _ _ _ _ _ _ 1 _)
          refine PT.keep (L' := [(2, .pointer (some ⟨b1, 0, none⟩)), (4, .bool false), (5, .int .i64 t), (7, .int .i64 b2), (8, .int .i64 (epochOf c t)), (9, .int .i64 (epochOf c (t + 1))), (59, .bool (true && ((b2 == (IntKind.i64.wrap (a + 1))) || ((b2 == 0) && (a == (IntKind.i64.wrap (c.frame - 1)))))))]) [2, 4, 5, 7, 8, 9, 59] rfl ?_
          exact midR () rfl rfl
        | false =>
          refine (run0 (z := 0) 16 [2, 4, 5, 7, 8, 9, 59] [(2, .pointer (some ⟨b1, 0, none⟩)), (4, .bool false), (5, .int .i64 t), (7, .int .i64 b2), (8, .int .i64 (epochOf c t)), (9, .int .i64 (epochOf c (t + 1))), (59, .bool false)] (fun _ => by kernel_rfl) (endR ?_) : RT _ _ _ _ _ _ 16 _)
          refine PT.keep (L' := [(2, .pointer (some ⟨b1, 0, none⟩)), (4, .bool false), (5, .int .i64 t), (7, .int .i64 b2), (8, .int .i64 (epochOf c t)), (9, .int .i64 (epochOf c (t + 1))), (59, .bool (false && ((b2 == (IntKind.i64.wrap (a + 1))) || ((b2 == 0) && (a == (IntKind.i64.wrap (c.frame - 1)))))))]) [2, 4, 5, 7, 8, 9, 59] rfl ?_
          exact midR () rfl rfl
      refine (run0 (z := 33) 1 [2, 4, 5, 7, 8, 9, 60] [(2, .pointer (some ⟨b1, 0, none⟩)), (4, .bool false), (5, .int .i64 t), (7, .int .i64 b2), (8, .int .i64 (epochOf c t)), (9, .int .i64 (epochOf c (t + 1))), (60, .bool (((decide (a ≥ 0)) && (decide (a < c.frame))) && ((b2 == (IntKind.i64.wrap (a + 1))) || ((b2 == 0) && (a == (IntKind.i64.wrap (c.frame - 1)))))))] (fun _ => by kernel_rfl) ?_ : RT _ _ _ _ _ _ 34 _)
      rw [ex, ey]
      generalize t.tdiv (ticksOf c) = x at *
      generalize (t + 1).tdiv (ticksOf c) = y at *
      have hq1 : (((decide (a ≥ 0)) && (decide (a < c.frame))) && ((b2 == (IntKind.i64.wrap (a + 1))) || ((b2 == 0) && (a == (IntKind.i64.wrap (c.frame - 1)))))) = true := by
        rw [show IntKind.i64.wrap (a + 1) = a + 1 by rw [IntKind.wrap_i64]; omega, show IntKind.i64.wrap (c.frame - 1) = c.frame - 1 by rw [IntKind.wrap_i64]; omega]
        simp only [Bool.and_eq_true, Bool.or_eq_true, decide_eq_true_eq, beq_iff_eq]; omega
      rw [hq1]
      refine (runR (H := (blk b1 25 [.int .i64 c.frame, .int .i64 c.epoch, .slice c.plans.a c.plans.l.length c.plans.c, .slice c.domains.a c.domains.l.length c.domains.c] :: H)) (z := 27) 6 [2, 4, 5, 7, 8, 9, 60, 63, 64, 66] [(2, .pointer (some ⟨b1, 0, none⟩)), (4, .bool false), (5, .int .i64 t), (7, .int .i64 b2), (8, .int .i64 x), (9, .int .i64 y), (60, .bool true), (63, .bool (y == x)), (64, .agg #[.int .i64 c.frame, .int .i64 c.epoch, .slice c.plans.a c.plans.l.length c.plans.c, .slice c.domains.a c.domains.l.length c.domains.c]), (66, .int .i64 (IntKind.i64.wrap (t + 1)))] [(⟨b1, 0, none⟩, .int .i64 c.frame), (⟨b1, 1, none⟩, .int .i64 c.epoch), (⟨b1, 2, none⟩, .slice c.plans.a c.plans.l.length c.plans.c), (⟨b1, 3, none⟩, .slice c.domains.a c.domains.l.length c.domains.c)] (hasC (blkAt (T := 25) (cs := [.int .i64 c.frame, .int .i64 c.epoch, .slice c.plans.a c.plans.l.length c.plans.c, .slice c.domains.a c.domains.l.length c.domains.c]) 0 rfl rfl) (hasC (blkAt (T := 25) (cs := [.int .i64 c.frame, .int .i64 c.epoch, .slice c.plans.a c.plans.l.length c.plans.c, .slice c.domains.a c.domains.l.length c.domains.c]) 0 rfl rfl) (hasC (blkAt (T := 25) (cs := [.int .i64 c.frame, .int .i64 c.epoch, .slice c.plans.a c.plans.l.length c.plans.c, .slice c.domains.a c.domains.l.length c.domains.c]) 0 rfl rfl) (hasC (blkAt (T := 25) (cs := [.int .i64 c.frame, .int .i64 c.epoch, .slice c.plans.a c.plans.l.length c.plans.c, .slice c.domains.a c.domains.l.length c.domains.c]) 0 rfl rfl) has0)))) (fun _ => by kernel_rfl) ?_ : RT _ _ _ _ _ _ 33 _)
      rw [hw1]
      refine (stepR (z := 26) (callS 17 [.agg #[.int .i64 c.frame, .int .i64 c.epoch, .slice c.plans.a c.plans.l.length c.plans.c, .slice c.domains.a c.domains.l.length c.domains.c], .int .i64 (t + 1)] (some 67) (fun _ => .bool (beginsOf c (t + 1))) (fun _ => (blk b1 25 [.int .i64 c.frame, .int .i64 c.epoch, .slice c.plans.a c.plans.l.length c.plans.c, .slice c.domains.a c.domains.l.length c.domains.c] :: H)) (fun _ => by kernel_rfl) (begins_walk _ c (t + 1) hk.up hsm)) (fun _ => ?_) : RT _ _ _ _ _ _ 27 _)
      refine (run0 (z := 22) 4 [2, 4, 5, 7, 8, 9, 71] [(2, .pointer (some ⟨b1, 0, none⟩)), (4, .bool false), (5, .int .i64 t), (7, .int .i64 b2), (8, .int .i64 x), (9, .int .i64 y), (71, .bool ((y == x) == (!(beginsOf c (t + 1)))))] (fun _ => by kernel_rfl) ?_ : RT _ _ _ _ _ _ 26 _)
      refine (segR (ι := Unit) (z := 18) 4 (fun _ => [(2, .pointer (some ⟨b1, 0, none⟩)), (4, .bool false), (5, .int .i64 t), (7, .int .i64 b2), (8, .int .i64 x), (9, .int .i64 y), (75, .bool (((y == x) == (!(beginsOf c (t + 1)))) && (decide (y ≥ x))))]) (fun _ => (blk b1 25 [.int .i64 c.frame, .int .i64 c.epoch, .slice c.plans.a c.plans.l.length c.plans.c, .slice c.domains.a c.domains.l.length c.domains.c] :: H)) ?_ (fun _ => ?_) : RT _ _ _ _ _ _ 22 _)
      · cases hg37 : ((y == x) == (!(beginsOf c (t + 1)))) with
        | true =>
          refine (run0 (z := 0) 4 [2, 4, 5, 7, 8, 9, 75] [(2, .pointer (some ⟨b1, 0, none⟩)), (4, .bool false), (5, .int .i64 t), (7, .int .i64 b2), (8, .int .i64 x), (9, .int .i64 y), (75, .bool (decide (y ≥ x)))] (fun _ => by kernel_rfl) (endR ?_) : RT _ _ _ _ _ _ 4 _)
          refine PT.keep (L' := [(2, .pointer (some ⟨b1, 0, none⟩)), (4, .bool false), (5, .int .i64 t), (7, .int .i64 b2), (8, .int .i64 x), (9, .int .i64 y), (75, .bool (true && (decide (y ≥ x))))]) [2, 4, 5, 7, 8, 9, 75] rfl ?_
          exact midR () rfl rfl
        | false =>
          refine (run0 (z := 0) 4 [2, 4, 5, 7, 8, 9, 75] [(2, .pointer (some ⟨b1, 0, none⟩)), (4, .bool false), (5, .int .i64 t), (7, .int .i64 b2), (8, .int .i64 x), (9, .int .i64 y), (75, .bool false)] (fun _ => by kernel_rfl) (endR ?_) : RT _ _ _ _ _ _ 4 _)
          refine PT.keep (L' := [(2, .pointer (some ⟨b1, 0, none⟩)), (4, .bool false), (5, .int .i64 t), (7, .int .i64 b2), (8, .int .i64 x), (9, .int .i64 y), (75, .bool (false && (decide (y ≥ x))))]) [2, 4, 5, 7, 8, 9, 75] rfl ?_
          exact midR () rfl rfl
      refine (run0 (z := 17) 1 [2, 4, 5, 7, 8, 9, 76] [(2, .pointer (some ⟨b1, 0, none⟩)), (4, .bool false), (5, .int .i64 t), (7, .int .i64 b2), (8, .int .i64 x), (9, .int .i64 y), (76, .bool (((y == x) == (!(beginsOf c (t + 1)))) && (decide (y ≥ x))))] (fun _ => by kernel_rfl) ?_ : RT _ _ _ _ _ _ 18 _)
      refine (segR (ι := Unit) (z := 12) 5 (fun _ => [(2, .pointer (some ⟨b1, 0, none⟩)), (4, .bool false), (5, .int .i64 t), (7, .int .i64 b2), (81, .bool ((((y == x) == (!(beginsOf c (t + 1)))) && (decide (y ≥ x))) && (decide (y ≤ (IntKind.i64.wrap (x + 1))))))]) (fun _ => (blk b1 25 [.int .i64 c.frame, .int .i64 c.epoch, .slice c.plans.a c.plans.l.length c.plans.c, .slice c.domains.a c.domains.l.length c.domains.c] :: H)) ?_ (fun _ => ?_) : RT _ _ _ _ _ _ 17 _)
      · cases hg42 : (((y == x) == (!(beginsOf c (t + 1)))) && (decide (y ≥ x))) with
        | true =>
          refine (run0 (z := 0) 5 [2, 4, 5, 7, 81] [(2, .pointer (some ⟨b1, 0, none⟩)), (4, .bool false), (5, .int .i64 t), (7, .int .i64 b2), (81, .bool (decide (y ≤ (IntKind.i64.wrap (x + 1)))))] (fun _ => by kernel_rfl) (endR ?_) : RT _ _ _ _ _ _ 5 _)
          refine PT.keep (L' := [(2, .pointer (some ⟨b1, 0, none⟩)), (4, .bool false), (5, .int .i64 t), (7, .int .i64 b2), (81, .bool (true && (decide (y ≤ (IntKind.i64.wrap (x + 1))))))]) [2, 4, 5, 7, 81] rfl ?_
          exact midR () rfl rfl
        | false =>
          refine (run0 (z := 0) 5 [2, 4, 5, 7, 81] [(2, .pointer (some ⟨b1, 0, none⟩)), (4, .bool false), (5, .int .i64 t), (7, .int .i64 b2), (81, .bool false)] (fun _ => by kernel_rfl) (endR ?_) : RT _ _ _ _ _ _ 5 _)
          refine PT.keep (L' := [(2, .pointer (some ⟨b1, 0, none⟩)), (4, .bool false), (5, .int .i64 t), (7, .int .i64 b2), (81, .bool (false && (decide (y ≤ (IntKind.i64.wrap (x + 1))))))]) [2, 4, 5, 7, 81] rfl ?_
          exact midR () rfl rfl
      refine (run0 (z := 11) 1 [2, 4, 5, 7, 82] [(2, .pointer (some ⟨b1, 0, none⟩)), (4, .bool false), (5, .int .i64 t), (7, .int .i64 b2), (82, .bool ((((y == x) == (!(beginsOf c (t + 1)))) && (decide (y ≥ x))) && (decide (y ≤ (IntKind.i64.wrap (x + 1))))))] (fun _ => by kernel_rfl) ?_ : RT _ _ _ _ _ _ 12 _)
      have hq2 : ((((y == x) == (!(beginsOf c (t + 1)))) && (decide (y ≥ x))) && (decide (y ≤ (IntKind.i64.wrap (x + 1))))) = true := by
        rw [show IntKind.i64.wrap (x + 1) = x + 1 by rw [IntKind.wrap_i64]; omega, eg]
        simp only [Bool.and_eq_true, decide_eq_true_eq]
        refine ⟨⟨?_, by omega⟩, by omega⟩
        by_cases e : (t + 1).tmod (ticksOf c) = 0
        · rw [show ((t + 1).tmod (ticksOf c) == 0) = true by simpa using e, show (y == x) = false by rw [beq_eq_false_iff_ne]; intro h; exact l4.1 h e]; rfl
        · rw [show ((t + 1).tmod (ticksOf c) == 0) = false by simpa using e, show (y == x) = true by simpa using l4.2 e]; rfl
      rw [hq2]
      refine (runR (H := (blk b1 25 [.int .i64 c.frame, .int .i64 c.epoch, .slice c.plans.a c.plans.l.length c.plans.c, .slice c.domains.a c.domains.l.length c.domains.c] :: H)) (z := 8) 3 [4, 7, 82, 83, 85] [(4, .bool false), (7, .int .i64 b2), (82, .bool true), (83, .agg #[.int .i64 c.frame, .int .i64 c.epoch, .slice c.plans.a c.plans.l.length c.plans.c, .slice c.domains.a c.domains.l.length c.domains.c]), (85, .int .i64 (IntKind.i64.wrap (t + 1)))] [(⟨b1, 0, none⟩, .int .i64 c.frame), (⟨b1, 1, none⟩, .int .i64 c.epoch), (⟨b1, 2, none⟩, .slice c.plans.a c.plans.l.length c.plans.c), (⟨b1, 3, none⟩, .slice c.domains.a c.domains.l.length c.domains.c)] (hasC (blkAt (T := 25) (cs := [.int .i64 c.frame, .int .i64 c.epoch, .slice c.plans.a c.plans.l.length c.plans.c, .slice c.domains.a c.domains.l.length c.domains.c]) 0 rfl rfl) (hasC (blkAt (T := 25) (cs := [.int .i64 c.frame, .int .i64 c.epoch, .slice c.plans.a c.plans.l.length c.plans.c, .slice c.domains.a c.domains.l.length c.domains.c]) 0 rfl rfl) (hasC (blkAt (T := 25) (cs := [.int .i64 c.frame, .int .i64 c.epoch, .slice c.plans.a c.plans.l.length c.plans.c, .slice c.domains.a c.domains.l.length c.domains.c]) 0 rfl rfl) (hasC (blkAt (T := 25) (cs := [.int .i64 c.frame, .int .i64 c.epoch, .slice c.plans.a c.plans.l.length c.plans.c, .slice c.domains.a c.domains.l.length c.domains.c]) 0 rfl rfl) has0)))) (fun _ => by kernel_rfl) ?_ : RT _ _ _ _ _ _ 11 _)
      rw [hw1]
      refine (stepR (z := 7) (callS 17 [.agg #[.int .i64 c.frame, .int .i64 c.epoch, .slice c.plans.a c.plans.l.length c.plans.c, .slice c.domains.a c.domains.l.length c.domains.c], .int .i64 (t + 1)] (some 86) (fun _ => .bool (beginsOf c (t + 1))) (fun _ => (blk b1 25 [.int .i64 c.frame, .int .i64 c.epoch, .slice c.plans.a c.plans.l.length c.plans.c, .slice c.domains.a c.domains.l.length c.domains.c] :: H)) (fun _ => by kernel_rfl) (begins_walk _ c (t + 1) hk.up hsm)) (fun _ => ?_) : RT _ _ _ _ _ _ 8 _)
      refine (run0 (z := 5) 2 [4, 7, 82, 88] [(4, .bool false), (7, .int .i64 b2), (82, .bool true), (88, .bool (!(beginsOf c (t + 1))))] (fun _ => by kernel_rfl) ?_ : RT _ _ _ _ _ _ 7 _)
      refine (segR (ι := Unit) (z := 2) 3 (fun _ => [(4, .bool false), (82, .bool true), (91, .bool ((!(beginsOf c (t + 1))) || (b2 == 0)))]) (fun _ => (blk b1 25 [.int .i64 c.frame, .int .i64 c.epoch, .slice c.plans.a c.plans.l.length c.plans.c, .slice c.domains.a c.domains.l.length c.domains.c] :: H)) ?_ (fun _ => ?_) : RT _ _ _ _ _ _ 5 _)
      · cases hg54 : (!(beginsOf c (t + 1))) with
        | true =>
          refine (run0 (z := 0) 3 [4, 82, 91] [(4, .bool false), (82, .bool true), (91, .bool true)] (fun _ => by kernel_rfl) (endR ?_) : RT _ _ _ _ _ _ 3 _)
          refine PT.keep (L' := [(4, .bool false), (82, .bool true), (91, .bool (true || (b2 == 0)))]) [4, 82, 91] rfl ?_
          exact midR () rfl rfl
        | false =>
          refine (run0 (z := 0) 3 [4, 82, 91] [(4, .bool false), (82, .bool true), (91, .bool (b2 == 0))] (fun _ => by kernel_rfl) (endR ?_) : RT _ _ _ _ _ _ 3 _)
          refine PT.keep (L' := [(4, .bool false), (82, .bool true), (91, .bool (false || (b2 == 0)))]) [4, 82, 91] rfl ?_
          exact midR () rfl rfl
      refine (run0 (z := 0) 2 [4] [(4, .bool ((!(beginsOf c (t + 1))) || (b2 == 0)))] (fun _ => by kernel_rfl) (endR ?_) : RT _ _ _ _ _ _ 2 _)
      refine retR (by kernel_rfl) ?_
      have hq3 : ((!(beginsOf c (t + 1))) || (b2 == 0)) = true := by
        rw [eg]
        by_cases e : (t + 1).tmod (ticksOf c) = 0
        · rw [show (b2 == 0) = true by simpa using l7 e]; simp
        · rw [show ((t + 1).tmod (ticksOf c) == 0) = false by simpa using e]; rfl
      refine done0 (.bool ((!(beginsOf c (t + 1))) || (b2 == 0))) (fun _ => by kernel_rfl) (fun w hs => ?_) .ret (.inr rfl)
      exact ⟨(), by rw [hq3], hs.tail⟩
theorem u16_wf {x : Int} (h : (Lit.int .u16 x).wf = true) : 0 ≤ x ∧ x < 65536 := by
  have h2 : (decide (IntKind.u16.min ≤ x) && decide (x ≤ IntKind.u16.max)) = true := h
  have h3 : IntKind.u16.min = 0 := rfl
  have h4 : IntKind.u16.max = 65535 := rfl
  rw [Bool.and_eq_true, decide_eq_true_eq, decide_eq_true_eq] at h2
  omega
theorem time_row (W : World) (c : ConfV) (t : Int) (hk : KC [old W] c) (ht : (Lit.int .u16 t).wf = true) : Calls Try.prog 5 #[.agg #[.int .i64 c.frame, .int .i64 c.epoch, .slice c.plans.a c.plans.l.length c.plans.c, .slice c.domains.a c.domains.l.length c.domains.c], .int .u16 t] W (LawPost W) :=
  lawPost (fun _ _ h => h) (time_walk [old W] c t hk (u16_wf ht) W (Sat.start W))
end Go.Proofs.Ytjjbnmlhbbnhcaa
