/- conf.Ticks, plan.Slot, plan.Epoch, plan.Begins: their walks. Conditions: none. -/
import Derived.Test.YtjjbnmlhbbnhcaaCf5
set_option linter.unusedVariables false
set_option linter.unusedSimpArgs false
namespace Go.Proofs.Ytjjbnmlhbbnhcaa
open Go.RowKit G
theorem errV_cases (e : Int) : (e = 0 ∧ errV e = .nilIface) ∨ (e ≠ 0 ∧ errV e = .iface 56 (.int .i64 e)) := by
  by_cases h : e = 0
  · exact .inl ⟨h, by simp [errV, h]⟩
  · exact .inr ⟨h, by simp [errV, h]⟩
def ticksOf (c : ConfV) : Int := if confErr c = 0 then IntKind.i64.wrap (c.frame * c.epoch) else 0
set_option maxRecDepth 100000 in
theorem ticks_walk (H : List SP) (c : ConfV) (hk : KC H c) (hsm : SmallC c) : ∀ w, Sat w H → Calls Try.prog 26 #[.agg #[.int .i64 c.frame, .int .i64 c.epoch, .slice c.plans.a c.plans.l.length c.plans.c, .slice c.domains.a c.domains.l.length c.domains.c]] w (Ret (ι := Unit) (fun _ => .int .i64 (ticksOf c)) fun _ => H) := by
  refine enterG (fn := Try.f26) 11 [.agg #[.int .i64 c.frame, .int .i64 c.epoch, .slice c.plans.a c.plans.l.length c.plans.c, .slice c.domains.a c.domains.l.length c.domains.c]] Try.func26 (by kernel_rfl) (by kernel_rfl) (by kernel_rfl) ?_
  refine seqR (by kernel_rfl) ?_
  refine regionR 2 (by kernel_rfl) (by kernel_rfl) ?_
  refine (stepR (z := 1) (newS 25 [.int .i64 c.frame, .int .i64 c.epoch, .slice c.plans.a c.plans.l.length c.plans.c, .slice c.domains.a c.domains.l.length c.domains.c] (some 1) (fun b => .pointer (some ⟨b, 0, none⟩)) (fun _ _ => by kernel_rfl)) (fun b1 => ?_) : RT _ _ _ _ _ _ 2 _)
  refine (run0 (z := 0) 1 [1, 2] [(1, .pointer (some ⟨b1, 0, none⟩)), (2, .int .i64 0)] (fun _ => by kernel_rfl) (endR ?_) : RT _ _ _ _ _ _ 1 _)
  refine seqR (by kernel_rfl) ?_
  refine seqR (by kernel_rfl) ?_
  refine regionR 3 (by kernel_rfl) (by kernel_rfl) ?_
  refine (runR (H := (blk b1 25 [.int .i64 c.frame, .int .i64 c.epoch, .slice c.plans.a c.plans.l.length c.plans.c, .slice c.domains.a c.domains.l.length c.domains.c] :: H)) (z := 2) 1 [1, 2, 3] [(1, .pointer (some ⟨b1, 0, none⟩)), (2, .int .i64 0), (3, .agg #[.int .i64 c.frame, .int .i64 c.epoch, .slice c.plans.a c.plans.l.length c.plans.c, .slice c.domains.a c.domains.l.length c.domains.c])] [(⟨b1, 0, none⟩, .int .i64 c.frame), (⟨b1, 1, none⟩, .int .i64 c.epoch), (⟨b1, 2, none⟩, .slice c.plans.a c.plans.l.length c.plans.c), (⟨b1, 3, none⟩, .slice c.domains.a c.domains.l.length c.domains.c)] (hasC (blkAt (T := 25) (cs := [.int .i64 c.frame, .int .i64 c.epoch, .slice c.plans.a c.plans.l.length c.plans.c, .slice c.domains.a c.domains.l.length c.domains.c]) 0 rfl rfl) (hasC (blkAt (T := 25) (cs := [.int .i64 c.frame, .int .i64 c.epoch, .slice c.plans.a c.plans.l.length c.plans.c, .slice c.domains.a c.domains.l.length c.domains.c]) 0 rfl rfl) (hasC (blkAt (T := 25) (cs := [.int .i64 c.frame, .int .i64 c.epoch, .slice c.plans.a c.plans.l.length c.plans.c, .slice c.domains.a c.domains.l.length c.domains.c]) 0 rfl rfl) (hasC (blkAt (T := 25) (cs := [.int .i64 c.frame, .int .i64 c.epoch, .slice c.plans.a c.plans.l.length c.plans.c, .slice c.domains.a c.domains.l.length c.domains.c]) 0 rfl rfl) has0)))) (fun _ => by kernel_rfl) ?_ : RT _ _ _ _ _ _ 3 _)
  refine (stepR (z := 1) (callS 21 [.agg #[.int .i64 c.frame, .int .i64 c.epoch, .slice c.plans.a c.plans.l.length c.plans.c, .slice c.domains.a c.domains.l.length c.domains.c]] (some 4) (fun _ => errV (confErr c)) (fun _ => (blk b1 25 [.int .i64 c.frame, .int .i64 c.epoch, .slice c.plans.a c.plans.l.length c.plans.c, .slice c.domains.a c.domains.l.length c.domains.c] :: H)) (fun _ => by kernel_rfl) (is_walk _ c hk.up hsm)) (fun _ => ?_) : RT _ _ _ _ _ _ 2 _)
  rcases errV_cases (confErr c) with ⟨he, hv⟩ | ⟨he, hv⟩
  · rw [hv]
    refine (run0 (z := 0) 1 [1, 2, 5] [(1, .pointer (some ⟨b1, 0, none⟩)), (2, .int .i64 0), (5, .bool false)] (fun _ => by kernel_rfl) (endR ?_) : RT _ _ _ _ _ _ 1 _)
    refine condR (b := false) (by kernel_rfl) (fun _ => by kernel_rfl) (fun h => by cases h) (fun _ => ?_)
    refine skipR (by kernel_rfl) ?_
    refine seqR (by kernel_rfl) ?_
    refine regionR 6 (by kernel_rfl) (by kernel_rfl) ?_
    refine (runR (H := (blk b1 25 [.int .i64 c.frame, .int .i64 c.epoch, .slice c.plans.a c.plans.l.length c.plans.c, .slice c.domains.a c.domains.l.length c.domains.c] :: H)) (z := 0) 6 [2] [(2, .int .i64 (IntKind.i64.wrap (c.frame * c.epoch)))] [(⟨b1, 0, none⟩, .int .i64 c.frame), (⟨b1, 1, none⟩, .int .i64 c.epoch)] (hasC (blkAt (T := 25) (cs := [.int .i64 c.frame, .int .i64 c.epoch, .slice c.plans.a c.plans.l.length c.plans.c, .slice c.domains.a c.domains.l.length c.domains.c]) 0 rfl rfl) (hasC (blkAt (T := 25) (cs := [.int .i64 c.frame, .int .i64 c.epoch, .slice c.plans.a c.plans.l.length c.plans.c, .slice c.domains.a c.domains.l.length c.domains.c]) 0 rfl rfl) has0)) (fun _ => by kernel_rfl) (endR ?_) : RT _ _ _ _ _ _ 6 _)
    refine retR (by kernel_rfl) ?_
    refine done0 (.int .i64 (IntKind.i64.wrap (c.frame * c.epoch))) (fun _ => by kernel_rfl) (fun w hs => ?_) .ret (.inr rfl)
    exact ⟨(), by simp only [ticksOf, he]; rfl, hs.tail⟩
  · rw [hv]
    refine (run0 (z := 0) 1 [1, 2, 5] [(1, .pointer (some ⟨b1, 0, none⟩)), (2, .int .i64 0), (5, .bool true)] (fun _ => by kernel_rfl) (endR ?_) : RT _ _ _ _ _ _ 1 _)
    refine condR (b := true) (by kernel_rfl) (fun _ => by kernel_rfl) (fun _ => ?_) (fun h => by cases h)
    refine seqR (by kernel_rfl) ?_
    refine regionR 1 (by kernel_rfl) (by kernel_rfl) ?_
    refine (run0 (z := 0) 1 [1, 2] [(1, .pointer (some ⟨b1, 0, none⟩)), (2, .int .i64 0)] (fun _ => by kernel_rfl) (endR ?_) : RT _ _ _ _ _ _ 1 _)
    refine retR (by kernel_rfl) ?_
    refine thenV ?_
    refine done0 (.int .i64 0) (fun _ => by kernel_rfl) (fun w hs => ?_) .ret (.inr rfl)
    exact ⟨(), by simp only [ticksOf, if_neg he], hs.tail⟩
theorem frame_pos {c : ConfV} (he : confErr c = 0) : 1 ≤ c.frame ∧ c.frame ≤ 64 ∧ 1 ≤ c.epoch ∧ c.epoch ≤ 8 := by
  have hf : formF c c.domains.l = true := by
    cases h : formF c c.domains.l with
    | true => rfl
    | false => simp [confErr, h] at he
  have h1 : ∀ (l : List DomV) (b : Bool), l.foldl (fun ok d => ok && labIs d.lab) b = true → b = true := by
    intro l
    induction l with
    | nil => intro b h; exact h
    | cons x l ih => intro b h; have := ih _ h; simp only [Bool.and_eq_true] at this; exact this.1
  have h2 := h1 _ _ hf
  simp only [inb, Bool.and_eq_true, decide_eq_true_eq] at h2
  omega
theorem ticks_pos {c : ConfV} (he : confErr c = 0) : ticksOf c = c.frame * c.epoch ∧ ticksOf c ≠ 0 := by
  obtain ⟨h1, h2, h3, h4⟩ := frame_pos he
  have h5 : c.frame * c.epoch ≤ 64 * 8 := Int.mul_le_mul h2 h4 (by omega) (by omega)
  have h6 : 1 * 1 ≤ c.frame * c.epoch := Int.mul_le_mul h1 h3 (by omega) (by omega)
  rw [ticksOf, if_pos he, IntKind.wrap_i64]
  omega
def slotOf (c : ConfV) (t : Int) : Int := if confErr c = 0 then (mxI t 0).tmod c.frame else 0
set_option maxRecDepth 100000 in
theorem slot_walk (H : List SP) (c : ConfV) (t : Int) (hk : KC H c) (hsm : SmallC c) : ∀ w, Sat w H → Calls Try.prog 15 #[.agg #[.int .i64 c.frame, .int .i64 c.epoch, .slice c.plans.a c.plans.l.length c.plans.c, .slice c.domains.a c.domains.l.length c.domains.c], .int .i64 t] w (Ret (ι := Unit) (fun _ => .int .i64 (slotOf c t)) fun _ => H) := by
  refine enterG (fn := Try.f15) 13 [.agg #[.int .i64 c.frame, .int .i64 c.epoch, .slice c.plans.a c.plans.l.length c.plans.c, .slice c.domains.a c.domains.l.length c.domains.c], .int .i64 t] Try.func15 (by kernel_rfl) (by kernel_rfl) (by kernel_rfl) ?_
  refine seqR (by kernel_rfl) ?_
  refine regionR 2 (by kernel_rfl) (by kernel_rfl) ?_
  refine (stepR (z := 1) (newS 25 [.int .i64 c.frame, .int .i64 c.epoch, .slice c.plans.a c.plans.l.length c.plans.c, .slice c.domains.a c.domains.l.length c.domains.c] (some 2) (fun b => .pointer (some ⟨b, 0, none⟩)) (fun _ _ => by kernel_rfl)) (fun b1 => ?_) : RT _ _ _ _ _ _ 2 _)
  refine (run0 (z := 0) 1 [2, 1, 4] [(2, .pointer (some ⟨b1, 0, none⟩)), (1, .int .i64 t), (4, .int .i64 0)] (fun _ => by kernel_rfl) (endR ?_) : RT _ _ _ _ _ _ 1 _)
  refine seqR (by kernel_rfl) ?_
  refine seqR (by kernel_rfl) ?_
  refine regionR 3 (by kernel_rfl) (by kernel_rfl) ?_
  refine (runR (H := (blk b1 25 [.int .i64 c.frame, .int .i64 c.epoch, .slice c.plans.a c.plans.l.length c.plans.c, .slice c.domains.a c.domains.l.length c.domains.c] :: H)) (z := 2) 1 [2, 1, 4, 5] [(2, .pointer (some ⟨b1, 0, none⟩)), (1, .int .i64 t), (4, .int .i64 0), (5, .agg #[.int .i64 c.frame, .int .i64 c.epoch, .slice c.plans.a c.plans.l.length c.plans.c, .slice c.domains.a c.domains.l.length c.domains.c])] [(⟨b1, 0, none⟩, .int .i64 c.frame), (⟨b1, 1, none⟩, .int .i64 c.epoch), (⟨b1, 2, none⟩, .slice c.plans.a c.plans.l.length c.plans.c), (⟨b1, 3, none⟩, .slice c.domains.a c.domains.l.length c.domains.c)] (hasC (blkAt (T := 25) (cs := [.int .i64 c.frame, .int .i64 c.epoch, .slice c.plans.a c.plans.l.length c.plans.c, .slice c.domains.a c.domains.l.length c.domains.c]) 0 rfl rfl) (hasC (blkAt (T := 25) (cs := [.int .i64 c.frame, .int .i64 c.epoch, .slice c.plans.a c.plans.l.length c.plans.c, .slice c.domains.a c.domains.l.length c.domains.c]) 0 rfl rfl) (hasC (blkAt (T := 25) (cs := [.int .i64 c.frame, .int .i64 c.epoch, .slice c.plans.a c.plans.l.length c.plans.c, .slice c.domains.a c.domains.l.length c.domains.c]) 0 rfl rfl) (hasC (blkAt (T := 25) (cs := [.int .i64 c.frame, .int .i64 c.epoch, .slice c.plans.a c.plans.l.length c.plans.c, .slice c.domains.a c.domains.l.length c.domains.c]) 0 rfl rfl) has0)))) (fun _ => by kernel_rfl) ?_ : RT _ _ _ _ _ _ 3 _)
  refine (stepR (z := 1) (callS 21 [.agg #[.int .i64 c.frame, .int .i64 c.epoch, .slice c.plans.a c.plans.l.length c.plans.c, .slice c.domains.a c.domains.l.length c.domains.c]] (some 6) (fun _ => errV (confErr c)) (fun _ => (blk b1 25 [.int .i64 c.frame, .int .i64 c.epoch, .slice c.plans.a c.plans.l.length c.plans.c, .slice c.domains.a c.domains.l.length c.domains.c] :: H)) (fun _ => by kernel_rfl) (is_walk _ c hk.up hsm)) (fun _ => ?_) : RT _ _ _ _ _ _ 2 _)
  rcases errV_cases (confErr c) with ⟨he, hv⟩ | ⟨he, hv⟩
  · rw [hv]
    have hfp := frame_pos he
    refine (run0 (z := 0) 1 [2, 1, 4, 7] [(2, .pointer (some ⟨b1, 0, none⟩)), (1, .int .i64 t), (4, .int .i64 0), (7, .bool false)] (fun _ => by kernel_rfl) (endR ?_) : RT _ _ _ _ _ _ 1 _)
    refine condR (b := false) (by kernel_rfl) (fun _ => by kernel_rfl) (fun h => by cases h) (fun _ => ?_)
    refine skipR (by kernel_rfl) ?_
    refine seqR (by kernel_rfl) ?_
    refine regionR 6 (by kernel_rfl) (by kernel_rfl) ?_
    refine (runR (H := (blk b1 25 [.int .i64 c.frame, .int .i64 c.epoch, .slice c.plans.a c.plans.l.length c.plans.c, .slice c.domains.a c.domains.l.length c.domains.c] :: H)) (z := 2) 4 [4, 9, 11] [(4, .int .i64 0), (9, .int .i64 (mxI t 0)), (11, .int .i64 c.frame)] [(⟨b1, 0, none⟩, .int .i64 c.frame)] (hasC (blkAt (T := 25) (cs := [.int .i64 c.frame, .int .i64 c.epoch, .slice c.plans.a c.plans.l.length c.plans.c, .slice c.domains.a c.domains.l.length c.domains.c]) 0 rfl rfl) has0) (fun _ => by kernel_rfl) ?_ : RT _ _ _ _ _ _ 6 _)
    refine (stepR (z := 1) (yldS (binY .rem 3 3 (.tmp 9) (.tmp 11) (.int .i64 (mxI t 0)) (.int .i64 c.frame) (.int .i64 ((mxI t 0 : Int).tmod c.frame)) (some 12) (fun _ => by kernel_rfl) (by kernel_rfl) (by kernel_rfl) (fun _ => by kernel_rfl) (fun _ => by kernel_rfl) (remR (t' := 0) (by omega)))) (fun _ => ?_) : RT _ _ _ _ _ _ 2 _)
    refine (run0 (z := 0) 1 [4] [(4, .int .i64 ((mxI t 0 : Int).tmod c.frame))] (fun _ => by kernel_rfl) (endR ?_) : RT _ _ _ _ _ _ 1 _)
    refine retR (by kernel_rfl) ?_
    refine done0 (.int .i64 ((mxI t 0 : Int).tmod c.frame)) (fun _ => by kernel_rfl) (fun w hs => ?_) .ret (.inr rfl)
    exact ⟨(), by simp only [slotOf, he]; rfl, hs.tail⟩
  · rw [hv]
    refine (run0 (z := 0) 1 [2, 1, 4, 7] [(2, .pointer (some ⟨b1, 0, none⟩)), (1, .int .i64 t), (4, .int .i64 0), (7, .bool true)] (fun _ => by kernel_rfl) (endR ?_) : RT _ _ _ _ _ _ 1 _)
    refine condR (b := true) (by kernel_rfl) (fun _ => by kernel_rfl) (fun _ => ?_) (fun h => by cases h)
    refine seqR (by kernel_rfl) ?_
    refine regionR 1 (by kernel_rfl) (by kernel_rfl) ?_
    refine (run0 (z := 0) 1 [2, 1, 4] [(2, .pointer (some ⟨b1, 0, none⟩)), (1, .int .i64 t), (4, .int .i64 0)] (fun _ => by kernel_rfl) (endR ?_) : RT _ _ _ _ _ _ 1 _)
    refine retR (by kernel_rfl) ?_
    refine thenV ?_
    refine done0 (.int .i64 0) (fun _ => by kernel_rfl) (fun w hs => ?_) .ret (.inr rfl)
    exact ⟨(), by simp only [slotOf, if_neg he], hs.tail⟩
def epochOf (c : ConfV) (t : Int) : Int := if confErr c = 0 then IntKind.i64.wrap ((mxI t 0).tdiv (ticksOf c)) else 0
set_option maxRecDepth 100000 in
theorem epoch_walk (H : List SP) (c : ConfV) (t : Int) (hk : KC H c) (hsm : SmallC c) : ∀ w, Sat w H → Calls Try.prog 16 #[.agg #[.int .i64 c.frame, .int .i64 c.epoch, .slice c.plans.a c.plans.l.length c.plans.c, .slice c.domains.a c.domains.l.length c.domains.c], .int .i64 t] w (Ret (ι := Unit) (fun _ => .int .i64 (epochOf c t)) fun _ => H) := by
  refine enterG (fn := Try.f16) 13 [.agg #[.int .i64 c.frame, .int .i64 c.epoch, .slice c.plans.a c.plans.l.length c.plans.c, .slice c.domains.a c.domains.l.length c.domains.c], .int .i64 t] Try.func16 (by kernel_rfl) (by kernel_rfl) (by kernel_rfl) ?_
  refine seqR (by kernel_rfl) ?_
  refine regionR 2 (by kernel_rfl) (by kernel_rfl) ?_
  refine (stepR (z := 1) (newS 25 [.int .i64 c.frame, .int .i64 c.epoch, .slice c.plans.a c.plans.l.length c.plans.c, .slice c.domains.a c.domains.l.length c.domains.c] (some 2) (fun b => .pointer (some ⟨b, 0, none⟩)) (fun _ _ => by kernel_rfl)) (fun b1 => ?_) : RT _ _ _ _ _ _ 2 _)
  refine (run0 (z := 0) 1 [2, 1, 4] [(2, .pointer (some ⟨b1, 0, none⟩)), (1, .int .i64 t), (4, .int .i64 0)] (fun _ => by kernel_rfl) (endR ?_) : RT _ _ _ _ _ _ 1 _)
  refine seqR (by kernel_rfl) ?_
  refine seqR (by kernel_rfl) ?_
  refine regionR 3 (by kernel_rfl) (by kernel_rfl) ?_
  refine (runR (H := (blk b1 25 [.int .i64 c.frame, .int .i64 c.epoch, .slice c.plans.a c.plans.l.length c.plans.c, .slice c.domains.a c.domains.l.length c.domains.c] :: H)) (z := 2) 1 [2, 1, 4, 5] [(2, .pointer (some ⟨b1, 0, none⟩)), (1, .int .i64 t), (4, .int .i64 0), (5, .agg #[.int .i64 c.frame, .int .i64 c.epoch, .slice c.plans.a c.plans.l.length c.plans.c, .slice c.domains.a c.domains.l.length c.domains.c])] [(⟨b1, 0, none⟩, .int .i64 c.frame), (⟨b1, 1, none⟩, .int .i64 c.epoch), (⟨b1, 2, none⟩, .slice c.plans.a c.plans.l.length c.plans.c), (⟨b1, 3, none⟩, .slice c.domains.a c.domains.l.length c.domains.c)] (hasC (blkAt (T := 25) (cs := [.int .i64 c.frame, .int .i64 c.epoch, .slice c.plans.a c.plans.l.length c.plans.c, .slice c.domains.a c.domains.l.length c.domains.c]) 0 rfl rfl) (hasC (blkAt (T := 25) (cs := [.int .i64 c.frame, .int .i64 c.epoch, .slice c.plans.a c.plans.l.length c.plans.c, .slice c.domains.a c.domains.l.length c.domains.c]) 0 rfl rfl) (hasC (blkAt (T := 25) (cs := [.int .i64 c.frame, .int .i64 c.epoch, .slice c.plans.a c.plans.l.length c.plans.c, .slice c.domains.a c.domains.l.length c.domains.c]) 0 rfl rfl) (hasC (blkAt (T := 25) (cs := [.int .i64 c.frame, .int .i64 c.epoch, .slice c.plans.a c.plans.l.length c.plans.c, .slice c.domains.a c.domains.l.length c.domains.c]) 0 rfl rfl) has0)))) (fun _ => by kernel_rfl) ?_ : RT _ _ _ _ _ _ 3 _)
  refine (stepR (z := 1) (callS 21 [.agg #[.int .i64 c.frame, .int .i64 c.epoch, .slice c.plans.a c.plans.l.length c.plans.c, .slice c.domains.a c.domains.l.length c.domains.c]] (some 6) (fun _ => errV (confErr c)) (fun _ => (blk b1 25 [.int .i64 c.frame, .int .i64 c.epoch, .slice c.plans.a c.plans.l.length c.plans.c, .slice c.domains.a c.domains.l.length c.domains.c] :: H)) (fun _ => by kernel_rfl) (is_walk _ c hk.up hsm)) (fun _ => ?_) : RT _ _ _ _ _ _ 2 _)
  rcases errV_cases (confErr c) with ⟨he, hv⟩ | ⟨he, hv⟩
  · rw [hv]
    have hfp := ticks_pos he
    refine (run0 (z := 0) 1 [2, 1, 4, 7] [(2, .pointer (some ⟨b1, 0, none⟩)), (1, .int .i64 t), (4, .int .i64 0), (7, .bool false)] (fun _ => by kernel_rfl) (endR ?_) : RT _ _ _ _ _ _ 1 _)
    refine condR (b := false) (by kernel_rfl) (fun _ => by kernel_rfl) (fun h => by cases h) (fun _ => ?_)
    refine skipR (by kernel_rfl) ?_
    refine seqR (by kernel_rfl) ?_
    refine regionR 6 (by kernel_rfl) (by kernel_rfl) ?_
    refine (runR (H := (blk b1 25 [.int .i64 c.frame, .int .i64 c.epoch, .slice c.plans.a c.plans.l.length c.plans.c, .slice c.domains.a c.domains.l.length c.domains.c] :: H)) (z := 3) 3 [4, 9, 10] [(4, .int .i64 0), (9, .int .i64 (mxI t 0)), (10, .agg #[.int .i64 c.frame, .int .i64 c.epoch, .slice c.plans.a c.plans.l.length c.plans.c, .slice c.domains.a c.domains.l.length c.domains.c])] [(⟨b1, 0, none⟩, .int .i64 c.frame), (⟨b1, 1, none⟩, .int .i64 c.epoch), (⟨b1, 2, none⟩, .slice c.plans.a c.plans.l.length c.plans.c), (⟨b1, 3, none⟩, .slice c.domains.a c.domains.l.length c.domains.c)] (hasC (blkAt (T := 25) (cs := [.int .i64 c.frame, .int .i64 c.epoch, .slice c.plans.a c.plans.l.length c.plans.c, .slice c.domains.a c.domains.l.length c.domains.c]) 0 rfl rfl) (hasC (blkAt (T := 25) (cs := [.int .i64 c.frame, .int .i64 c.epoch, .slice c.plans.a c.plans.l.length c.plans.c, .slice c.domains.a c.domains.l.length c.domains.c]) 0 rfl rfl) (hasC (blkAt (T := 25) (cs := [.int .i64 c.frame, .int .i64 c.epoch, .slice c.plans.a c.plans.l.length c.plans.c, .slice c.domains.a c.domains.l.length c.domains.c]) 0 rfl rfl) (hasC (blkAt (T := 25) (cs := [.int .i64 c.frame, .int .i64 c.epoch, .slice c.plans.a c.plans.l.length c.plans.c, .slice c.domains.a c.domains.l.length c.domains.c]) 0 rfl rfl) has0)))) (fun _ => by kernel_rfl) ?_ : RT _ _ _ _ _ _ 6 _)
    refine (stepR (z := 2) (callS 26 [.agg #[.int .i64 c.frame, .int .i64 c.epoch, .slice c.plans.a c.plans.l.length c.plans.c, .slice c.domains.a c.domains.l.length c.domains.c]] (some 11) (fun _ => .int .i64 (ticksOf c)) (fun _ => (blk b1 25 [.int .i64 c.frame, .int .i64 c.epoch, .slice c.plans.a c.plans.l.length c.plans.c, .slice c.domains.a c.domains.l.length c.domains.c] :: H)) (fun _ => by kernel_rfl) (ticks_walk _ c hk.up hsm)) (fun _ => ?_) : RT _ _ _ _ _ _ 3 _)
    refine (stepR (z := 1) (yldS (binY .quo 3 3 (.tmp 9) (.tmp 11) (.int .i64 (mxI t 0)) (.int .i64 (ticksOf c)) (.int .i64 (IntKind.i64.wrap ((mxI t 0 : Int).tdiv (ticksOf c)))) (some 12) (fun _ => by kernel_rfl) (by kernel_rfl) (by kernel_rfl) (fun _ => by kernel_rfl) (fun _ => by kernel_rfl) (quoR (t' := 0) (hfp.2)))) (fun _ => ?_) : RT _ _ _ _ _ _ 2 _)
    refine (run0 (z := 0) 1 [4] [(4, .int .i64 (IntKind.i64.wrap ((mxI t 0 : Int).tdiv (ticksOf c))))] (fun _ => by kernel_rfl) (endR ?_) : RT _ _ _ _ _ _ 1 _)
    refine retR (by kernel_rfl) ?_
    refine done0 (.int .i64 (IntKind.i64.wrap ((mxI t 0 : Int).tdiv (ticksOf c)))) (fun _ => by kernel_rfl) (fun w hs => ?_) .ret (.inr rfl)
    exact ⟨(), by simp only [epochOf, he]; rfl, hs.tail⟩
  · rw [hv]
    refine (run0 (z := 0) 1 [2, 1, 4, 7] [(2, .pointer (some ⟨b1, 0, none⟩)), (1, .int .i64 t), (4, .int .i64 0), (7, .bool true)] (fun _ => by kernel_rfl) (endR ?_) : RT _ _ _ _ _ _ 1 _)
    refine condR (b := true) (by kernel_rfl) (fun _ => by kernel_rfl) (fun _ => ?_) (fun h => by cases h)
    refine seqR (by kernel_rfl) ?_
    refine regionR 1 (by kernel_rfl) (by kernel_rfl) ?_
    refine (run0 (z := 0) 1 [2, 1, 4] [(2, .pointer (some ⟨b1, 0, none⟩)), (1, .int .i64 t), (4, .int .i64 0)] (fun _ => by kernel_rfl) (endR ?_) : RT _ _ _ _ _ _ 1 _)
    refine retR (by kernel_rfl) ?_
    refine thenV ?_
    refine done0 (.int .i64 0) (fun _ => by kernel_rfl) (fun w hs => ?_) .ret (.inr rfl)
    exact ⟨(), by simp only [epochOf, if_neg he], hs.tail⟩
def beginsOf (c : ConfV) (t : Int) : Bool := decide (confErr c = 0) && ((mxI t 0).tmod (ticksOf c) == 0)
set_option maxRecDepth 100000 in
theorem begins_walk (H : List SP) (c : ConfV) (t : Int) (hk : KC H c) (hsm : SmallC c) : ∀ w, Sat w H → Calls Try.prog 17 #[.agg #[.int .i64 c.frame, .int .i64 c.epoch, .slice c.plans.a c.plans.l.length c.plans.c, .slice c.domains.a c.domains.l.length c.domains.c], .int .i64 t] w (Ret (ι := Unit) (fun _ => .bool (beginsOf c t)) fun _ => H) := by
  refine enterG (fn := Try.f17) 16 [.agg #[.int .i64 c.frame, .int .i64 c.epoch, .slice c.plans.a c.plans.l.length c.plans.c, .slice c.domains.a c.domains.l.length c.domains.c], .int .i64 t] Try.func17 (by kernel_rfl) (by kernel_rfl) (by kernel_rfl) ?_
  refine seqR (by kernel_rfl) ?_
  refine regionR 2 (by kernel_rfl) (by kernel_rfl) ?_
  refine (stepR (z := 1) (newS 25 [.int .i64 c.frame, .int .i64 c.epoch, .slice c.plans.a c.plans.l.length c.plans.c, .slice c.domains.a c.domains.l.length c.domains.c] (some 2) (fun b => .pointer (some ⟨b, 0, none⟩)) (fun _ _ => by kernel_rfl)) (fun b1 => ?_) : RT _ _ _ _ _ _ 2 _)
  refine (run0 (z := 0) 1 [2, 1, 4] [(2, .pointer (some ⟨b1, 0, none⟩)), (1, .int .i64 t), (4, .bool false)] (fun _ => by kernel_rfl) (endR ?_) : RT _ _ _ _ _ _ 1 _)
  refine seqR (by kernel_rfl) ?_
  refine regionR 12 (by kernel_rfl) (by kernel_rfl) ?_
  refine (runR (H := (blk b1 25 [.int .i64 c.frame, .int .i64 c.epoch, .slice c.plans.a c.plans.l.length c.plans.c, .slice c.domains.a c.domains.l.length c.domains.c] :: H)) (z := 11) 1 [2, 1, 4, 5] [(2, .pointer (some ⟨b1, 0, none⟩)), (1, .int .i64 t), (4, .bool false), (5, .agg #[.int .i64 c.frame, .int .i64 c.epoch, .slice c.plans.a c.plans.l.length c.plans.c, .slice c.domains.a c.domains.l.length c.domains.c])] [(⟨b1, 0, none⟩, .int .i64 c.frame), (⟨b1, 1, none⟩, .int .i64 c.epoch), (⟨b1, 2, none⟩, .slice c.plans.a c.plans.l.length c.plans.c), (⟨b1, 3, none⟩, .slice c.domains.a c.domains.l.length c.domains.c)] (hasC (blkAt (T := 25) (cs := [.int .i64 c.frame, .int .i64 c.epoch, .slice c.plans.a c.plans.l.length c.plans.c, .slice c.domains.a c.domains.l.length c.domains.c]) 0 rfl rfl) (hasC (blkAt (T := 25) (cs := [.int .i64 c.frame, .int .i64 c.epoch, .slice c.plans.a c.plans.l.length c.plans.c, .slice c.domains.a c.domains.l.length c.domains.c]) 0 rfl rfl) (hasC (blkAt (T := 25) (cs := [.int .i64 c.frame, .int .i64 c.epoch, .slice c.plans.a c.plans.l.length c.plans.c, .slice c.domains.a c.domains.l.length c.domains.c]) 0 rfl rfl) (hasC (blkAt (T := 25) (cs := [.int .i64 c.frame, .int .i64 c.epoch, .slice c.plans.a c.plans.l.length c.plans.c, .slice c.domains.a c.domains.l.length c.domains.c]) 0 rfl rfl) has0)))) (fun _ => by kernel_rfl) ?_ : RT _ _ _ _ _ _ 12 _)
  refine (stepR (z := 10) (callS 21 [.agg #[.int .i64 c.frame, .int .i64 c.epoch, .slice c.plans.a c.plans.l.length c.plans.c, .slice c.domains.a c.domains.l.length c.domains.c]] (some 6) (fun _ => errV (confErr c)) (fun _ => (blk b1 25 [.int .i64 c.frame, .int .i64 c.epoch, .slice c.plans.a c.plans.l.length c.plans.c, .slice c.domains.a c.domains.l.length c.domains.c] :: H)) (fun _ => by kernel_rfl) (is_walk _ c hk.up hsm)) (fun _ => ?_) : RT _ _ _ _ _ _ 11 _)
  rcases errV_cases (confErr c) with ⟨he, hv⟩ | ⟨he, hv⟩
  · rw [hv]
    have hfp := ticks_pos he
    refine (runR (H := (blk b1 25 [.int .i64 c.frame, .int .i64 c.epoch, .slice c.plans.a c.plans.l.length c.plans.c, .slice c.domains.a c.domains.l.length c.domains.c] :: H)) (z := 5) 5 [4, 8, 10, 11] [(4, .bool false), (8, .bool true), (10, .int .i64 (mxI t 0)), (11, .agg #[.int .i64 c.frame, .int .i64 c.epoch, .slice c.plans.a c.plans.l.length c.plans.c, .slice c.domains.a c.domains.l.length c.domains.c])] [(⟨b1, 0, none⟩, .int .i64 c.frame), (⟨b1, 1, none⟩, .int .i64 c.epoch), (⟨b1, 2, none⟩, .slice c.plans.a c.plans.l.length c.plans.c), (⟨b1, 3, none⟩, .slice c.domains.a c.domains.l.length c.domains.c)] (hasC (blkAt (T := 25) (cs := [.int .i64 c.frame, .int .i64 c.epoch, .slice c.plans.a c.plans.l.length c.plans.c, .slice c.domains.a c.domains.l.length c.domains.c]) 0 rfl rfl) (hasC (blkAt (T := 25) (cs := [.int .i64 c.frame, .int .i64 c.epoch, .slice c.plans.a c.plans.l.length c.plans.c, .slice c.domains.a c.domains.l.length c.domains.c]) 0 rfl rfl) (hasC (blkAt (T := 25) (cs := [.int .i64 c.frame, .int .i64 c.epoch, .slice c.plans.a c.plans.l.length c.plans.c, .slice c.domains.a c.domains.l.length c.domains.c]) 0 rfl rfl) (hasC (blkAt (T := 25) (cs := [.int .i64 c.frame, .int .i64 c.epoch, .slice c.plans.a c.plans.l.length c.plans.c, .slice c.domains.a c.domains.l.length c.domains.c]) 0 rfl rfl) has0)))) (fun _ => by kernel_rfl) ?_ : RT _ _ _ _ _ _ 10 _)
    refine (stepR (z := 4) (callS 26 [.agg #[.int .i64 c.frame, .int .i64 c.epoch, .slice c.plans.a c.plans.l.length c.plans.c, .slice c.domains.a c.domains.l.length c.domains.c]] (some 12) (fun _ => .int .i64 (ticksOf c)) (fun _ => (blk b1 25 [.int .i64 c.frame, .int .i64 c.epoch, .slice c.plans.a c.plans.l.length c.plans.c, .slice c.domains.a c.domains.l.length c.domains.c] :: H)) (fun _ => by kernel_rfl) (ticks_walk _ c hk.up hsm)) (fun _ => ?_) : RT _ _ _ _ _ _ 5 _)
    refine (stepR (z := 3) (yldS (binY .rem 3 3 (.tmp 10) (.tmp 12) (.int .i64 (mxI t 0)) (.int .i64 (ticksOf c)) (.int .i64 ((mxI t 0 : Int).tmod (ticksOf c))) (some 13) (fun _ => by kernel_rfl) (by kernel_rfl) (by kernel_rfl) (fun _ => by kernel_rfl) (fun _ => by kernel_rfl) (remR (t' := 0) (hfp.2)))) (fun _ => ?_) : RT _ _ _ _ _ _ 4 _)
    refine (run0 (z := 0) 3 [4] [(4, .bool (((mxI t 0 : Int).tmod (ticksOf c)) == 0))] (fun _ => by kernel_rfl) (endR ?_) : RT _ _ _ _ _ _ 3 _)
    refine retR (by kernel_rfl) ?_
    refine done0 (.bool (((mxI t 0 : Int).tmod (ticksOf c)) == 0)) (fun _ => by kernel_rfl) (fun w hs => ?_) .ret (.inr rfl)
    exact ⟨(), by simp only [beginsOf, he]; rfl, hs.tail⟩
  · rw [hv]
    refine (run0 (z := 0) 10 [4] [(4, .bool false)] (fun _ => by kernel_rfl) (endR ?_) : RT _ _ _ _ _ _ 10 _)
    refine retR (by kernel_rfl) ?_
    refine done0 (.bool false) (fun _ => by kernel_rfl) (fun w hs => ?_) .ret (.inr rfl)
    exact ⟨(), by simp only [beginsOf, decide_eq_false he, Bool.false_and], hs.tail⟩
end Go.Proofs.Ytjjbnmlhbbnhcaa
