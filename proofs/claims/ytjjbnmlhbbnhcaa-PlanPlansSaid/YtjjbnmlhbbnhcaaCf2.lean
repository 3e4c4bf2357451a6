/- conf.shares: its walk. Conditions: none. -/
import Derived.Test.YtjjbnmlhbbnhcaaCf1
import Derived.Test.YtjjbnmlhbbnhcaaGa
set_option linter.unusedVariables false
set_option linter.unusedSimpArgs false
namespace Go.Proofs.Ytjjbnmlhbbnhcaa
open Go.RowKit G
def planBad (n : Nat) (p : List Int) : Bool := (((((p.length : Int) != (n : Int)) || decide (maxL p < 1)) || decide (maxL p > 1000)) || decide (minL p < 0))
def sharesOk (c : ConfV) : Bool := inb c.plans.l.length 1 3 && c.plans.l.all fun p => !planBad c.domains.l.length p.l
set_option maxRecDepth 100000 in
theorem shares_walk (H : List SP) (c : ConfV) (hk : KC H c) (hn : 0 < c.domains.l.length) (hl : c.domains.l.length < 9223372036854775800) : ∀ w, Sat w H → Calls Try.prog 34 #[.agg #[.int .i64 c.frame, .int .i64 c.epoch, .slice c.plans.a c.plans.l.length c.plans.c, .slice c.domains.a c.domains.l.length c.domains.c]] w (Ret (ι := Unit) (fun _ => .bool (sharesOk c)) fun _ => H) := by
  refine enterG (fn := Try.f34) 39 [.agg #[.int .i64 c.frame, .int .i64 c.epoch, .slice c.plans.a c.plans.l.length c.plans.c, .slice c.domains.a c.domains.l.length c.domains.c]] Try.func34 (by kernel_rfl) (by kernel_rfl) (by kernel_rfl) ?_
  refine seqR (by kernel_rfl) ?_
  refine regionR 2 (by kernel_rfl) (by kernel_rfl) ?_
  refine (stepR (z := 1) (newS 25 [.int .i64 c.frame, .int .i64 c.epoch, .slice c.plans.a c.plans.l.length c.plans.c, .slice c.domains.a c.domains.l.length c.domains.c] (some 1) (fun b => .pointer (some ⟨b, 0, none⟩)) (fun _ _ => by kernel_rfl)) (fun b1 => ?_) : RT _ _ _ _ _ _ 2 _)
  refine (run0 (z := 0) 1 [1, 2] [(1, .pointer (some ⟨b1, 0, none⟩)), (2, .bool false)] (fun _ => by kernel_rfl) (endR ?_) : RT _ _ _ _ _ _ 1 _)
  refine seqR (by kernel_rfl) ?_
  refine seqR (by kernel_rfl) ?_
  refine regionR 5 (by kernel_rfl) (by kernel_rfl) ?_
  refine (runR (H := (blk b1 25 [.int .i64 c.frame, .int .i64 c.epoch, .slice c.plans.a c.plans.l.length c.plans.c, .slice c.domains.a c.domains.l.length c.domains.c] :: H)) (z := 2) 3 [1, 2, 7] [(1, .pointer (some ⟨b1, 0, none⟩)), (2, .bool false), (7, .int .i64 (c.plans.l.length : Int))] [(⟨b1, 2, none⟩, .slice c.plans.a c.plans.l.length c.plans.c)] (hasC (blkAt (T := 25) (cs := [.int .i64 c.frame, .int .i64 c.epoch, .slice c.plans.a c.plans.l.length c.plans.c, .slice c.domains.a c.domains.l.length c.domains.c]) 0 rfl rfl) has0) (fun _ => by kernel_rfl) ?_ : RT _ _ _ _ _ _ 5 _)
  refine (stepR (z := 1) (callS 46 [.int .i64 (c.plans.l.length : Int), .int .i64 1, .int .i64 3] (some 8) (fun _ => .bool (inb (c.plans.l.length : Int) 1 3)) (fun (_ : Unit) => (blk b1 25 [.int .i64 c.frame, .int .i64 c.epoch, .slice c.plans.a c.plans.l.length c.plans.c, .slice c.domains.a c.domains.l.length c.domains.c] :: H)) (fun _ => by kernel_rfl) (within_walk _ (c.plans.l.length : Int) 1 3)) (fun _ => ?_) : RT _ _ _ _ _ _ 2 _)
  refine (run0 (z := 0) 1 [1, 2, 9] [(1, .pointer (some ⟨b1, 0, none⟩)), (2, .bool false), (9, .bool (!(inb (c.plans.l.length : Int) 1 3)))] (fun _ => by kernel_rfl) (endR ?_) : RT _ _ _ _ _ _ 1 _)
  cases hin : (inb (c.plans.l.length : Int) 1 3) with
  | true =>
    refine condR (b := false) (by kernel_rfl) (fun _ => by kernel_rfl) (fun h => by cases h) (fun _ => ?_)
    refine skipR (by kernel_rfl) ?_
    refine seqR (by kernel_rfl) ?_
    refine seqR (by kernel_rfl) ?_
    refine regionR 4 (by kernel_rfl) (by kernel_rfl) ?_
    refine (runR (H := (blk b1 25 [.int .i64 c.frame, .int .i64 c.epoch, .slice c.plans.a c.plans.l.length c.plans.c, .slice c.domains.a c.domains.l.length c.domains.c] :: H)) (z := 0) 4 [1, 2, 11, 12, 13] [(1, .pointer (some ⟨b1, 0, none⟩)), (2, .bool false), (11, .slice c.plans.a c.plans.l.length c.plans.c), (12, .int .i64 (c.plans.l.length : Int)), (13, .int .i64 0)] [(⟨b1, 2, none⟩, .slice c.plans.a c.plans.l.length c.plans.c)] (hasC (blkAt (T := 25) (cs := [.int .i64 c.frame, .int .i64 c.epoch, .slice c.plans.a c.plans.l.length c.plans.c, .slice c.domains.a c.domains.l.length c.domains.c]) 0 rfl rfl) has0) (fun _ => by kernel_rfl) (endR ?_) : RT _ _ _ _ _ _ 4 _)
    refine blockR 0 (by kernel_rfl) (by kernel_rfl) ?_
    have hpl : c.plans.l.length ≤ 3 := by simp only [inb, Bool.and_eq_true, decide_eq_true_eq] at hin; omega
    refine PT.keep (L' := [(1, .pointer (some ⟨b1, 0, none⟩)), (2, .bool false), (11, .slice c.plans.a c.plans.l.length c.plans.c), (12, .int .i64 (c.plans.l.length : Int)), (13, .int .i64 0)]) [1, 2, 11, 12, 13] rfl ?_
    refine loopG (fun (i : Nat) => [(1, .pointer (some ⟨b1, 0, none⟩)), (2, .bool false), (11, .slice c.plans.a c.plans.l.length c.plans.c), (12, .int .i64 (c.plans.l.length : Int)), (13, .int .i64 (i : Int))]) (fun (i : Nat) => (blk b1 25 [.int .i64 c.frame, .int .i64 c.epoch, .slice c.plans.a c.plans.l.length c.plans.c, .slice c.domains.a c.domains.l.length c.domains.c] :: H)) (fun k (i : Nat) => k + i = c.plans.l.length ∧ ((c.plans.l.take i).all fun p => !planBad c.domains.l.length p.l) = true) c.plans.l.length 0 (by kernel_rfl) ⟨by omega, rfl⟩ ?_
    rintro k i ⟨hki, hall⟩
    have hw : IntKind.i64.wrap ((i : Int) + 1) = ((i + 1 : Nat) : Int) := by rw [IntKind.wrap_i64]; omega
    refine seqR (by kernel_rfl) ?_
    refine regionR 1 (by kernel_rfl) (by kernel_rfl) ?_
    refine (run0 (z := 0) 1 [1, 2, 11, 12, 13, 14] [(1, .pointer (some ⟨b1, 0, none⟩)), (2, .bool false), (11, .slice c.plans.a c.plans.l.length c.plans.c), (12, .int .i64 (c.plans.l.length : Int)), (13, .int .i64 (i : Int)), (14, .bool (decide ((i : Int) < (c.plans.l.length : Int))))] (fun _ => by kernel_rfl) (endR ?_) : RT _ _ _ _ _ _ 1 _)
    refine seqR (by kernel_rfl) ?_
    refine condR (b := decide ((i : Int) < (c.plans.l.length : Int))) (by kernel_rfl) (fun _ => by kernel_rfl) (fun h => ?_) (fun h => ?_)
    · skip
      have hi : i < c.plans.l.length := by have := of_decide_eq_true h; omega
      obtain ⟨p, hp⟩ : ∃ p, c.plans.l[i]? = some p := ⟨_, by simp [hi]; rfl⟩
      have hpm : p ∈ c.plans.l := List.mem_of_getElem? hp
      have ht : (c.plans.l.take (i + 1)) = c.plans.l.take i ++ [p] := by rw [List.take_add_one, hp]; rfl
      refine PT.know (hk.plans.up.isSome (by intro h0; rw [h0] at hi; simp at hi)) ?_
      rintro ⟨sb, so, hA⟩
      rw [hA]
      refine skipR (by kernel_rfl) ?_
      refine seqR (by kernel_rfl) ?_
      refine blockR 1 (by kernel_rfl) (by kernel_rfl) ?_
      refine seqR (by kernel_rfl) ?_
      refine regionR 3 (by kernel_rfl) (by kernel_rfl) ?_
      refine (stepR (z := 2) (yldS (idxY 22 (.tmp 11) (.tmp 13) sb so c.plans.l.length c.plans.c i 1 26 (i : Int) .i64 (some 15) (fun _ => by kernel_rfl) (by kernel_rfl) (by kernel_rfl) (fun _ => by kernel_rfl) (fun _ => by kernel_rfl) Try.underlying22 (by kernel_rfl) (by first | rfl | assumption | simp) (by first | omega | (simp; done) | (simp; omega) | (simp at *; omega)))) (fun _ => ?_) : RT _ _ _ _ _ _ 3 _)
      refine (runR (H := (blk b1 25 [.int .i64 c.frame, .int .i64 c.epoch, .slice (some ⟨sb, so, none⟩) c.plans.l.length c.plans.c, .slice c.domains.a c.domains.l.length c.domains.c] :: H)) (z := 0) 2 [1, 2, 11, 12, 13, 4] [(1, .pointer (some ⟨b1, 0, none⟩)), (2, .bool false), (11, .slice (some ⟨sb, so, none⟩) c.plans.l.length c.plans.c), (12, .int .i64 (c.plans.l.length : Int)), (13, .int .i64 (i : Int)), (4, .slice p.a p.l.length p.c)] [(⟨sb, so + i * 1, none⟩, .slice p.a p.l.length p.c)] (hasC (up (hk.plans.cell hA (i := i) (x := p) hp (j := 0) rfl)) has0) (fun _ => by kernel_rfl) (endR ?_) : RT _ _ _ _ _ _ 2 _)
      refine seqR (by kernel_rfl) ?_
      refine regionR 21 (by kernel_rfl) (by kernel_rfl) ?_
      refine (runR (H := (blk b1 25 [.int .i64 c.frame, .int .i64 c.epoch, .slice (some ⟨sb, so, none⟩) c.plans.l.length c.plans.c, .slice c.domains.a c.domains.l.length c.domains.c] :: H)) (z := 14) 7 [1, 2, 11, 12, 13, 4, 23] [(1, .pointer (some ⟨b1, 0, none⟩)), (2, .bool false), (11, .slice (some ⟨sb, so, none⟩) c.plans.l.length c.plans.c), (12, .int .i64 (c.plans.l.length : Int)), (13, .int .i64 (i : Int)), (4, .slice p.a p.l.length p.c), (23, .bool ((p.l.length : Int) != (c.domains.l.length : Int)))] [(⟨b1, 3, none⟩, .slice c.domains.a c.domains.l.length c.domains.c)] (hasC (blkAt (T := 25) (cs := [.int .i64 c.frame, .int .i64 c.epoch, .slice (some ⟨sb, so, none⟩) c.plans.l.length c.plans.c, .slice c.domains.a c.domains.l.length c.domains.c]) 0 rfl rfl) has0) (fun _ => by kernel_rfl) ?_ : RT _ _ _ _ _ _ 21 _)
      refine (segR (ι := Unit) (z := 10) 4 (fun _ => [(1, .pointer (some ⟨b1, 0, none⟩)), (2, .bool false), (11, .slice (some ⟨sb, so, none⟩) c.plans.l.length c.plans.c), (12, .int .i64 (c.plans.l.length : Int)), (13, .int .i64 (i : Int)), (4, .slice p.a p.l.length p.c), (27, .bool (((p.l.length : Int) != (c.domains.l.length : Int)) || (decide ((maxL p.l) < 1))))]) (fun _ => (blk b1 25 [.int .i64 c.frame, .int .i64 c.epoch, .slice (some ⟨sb, so, none⟩) c.plans.l.length c.plans.c, .slice c.domains.a c.domains.l.length c.domains.c] :: H)) ?_ (fun _ => ?_) : RT _ _ _ _ _ _ 14 _)
      · cases hg7 : ((p.l.length : Int) != (c.domains.l.length : Int)) with
        | true =>
          refine (run0 (z := 0) 4 [1, 2, 11, 12, 13, 4, 27] [(1, .pointer (some ⟨b1, 0, none⟩)), (2, .bool false), (11, .slice (some ⟨sb, so, none⟩) c.plans.l.length c.plans.c), (12, .int .i64 (c.plans.l.length : Int)), (13, .int .i64 (i : Int)), (4, .slice p.a p.l.length p.c), (27, .bool true)] (fun _ => by kernel_rfl) (endR ?_) : RT _ _ _ _ _ _ 4 _)
          refine PT.keep (L' := [(1, .pointer (some ⟨b1, 0, none⟩)), (2, .bool false), (11, .slice (some ⟨sb, so, none⟩) c.plans.l.length c.plans.c), (12, .int .i64 (c.plans.l.length : Int)), (13, .int .i64 (i : Int)), (4, .slice p.a p.l.length p.c), (27, .bool (true || (decide ((maxL p.l) < 1))))]) [1, 2, 11, 12, 13, 4, 27] rfl ?_
          exact midR () rfl rfl
        | false =>
          have hpn : p.l.length = c.domains.l.length := by have := hg7; simp only [bne_eq_false_iff_eq] at this; omega
          have hpne : p.l ≠ [] := by intro h0; rw [h0] at hpn; simp at hpn; omega
          refine (run0 (z := 3) 1 [1, 2, 11, 12, 13, 4, 23, 24] [(1, .pointer (some ⟨b1, 0, none⟩)), (2, .bool false), (11, .slice (some ⟨sb, so, none⟩) c.plans.l.length c.plans.c), (12, .int .i64 (c.plans.l.length : Int)), (13, .int .i64 (i : Int)), (4, .slice p.a p.l.length p.c), (23, .bool false), (24, .slice p.a p.l.length p.c)] (fun _ => by kernel_rfl) ?_ : RT _ _ _ _ _ _ 4 _)
          refine (stepR (z := 2) (callS 48 [.slice p.a p.l.length p.c] (some 25) (fun _ => .int .i64 (maxL p.l)) (fun _ => (blk b1 25 [.int .i64 c.frame, .int .i64 c.epoch, .slice (some ⟨sb, so, none⟩) c.plans.l.length c.plans.c, .slice c.domains.a c.domains.l.length c.domains.c] :: H)) (fun _ => by kernel_rfl) (maxL_walk _ p ((hk.plan p hpm).up) hpne (by omega))) (fun _ => ?_) : RT _ _ _ _ _ _ 3 _)
          refine (run0 (z := 0) 2 [1, 2, 11, 12, 13, 4, 27] [(1, .pointer (some ⟨b1, 0, none⟩)), (2, .bool false), (11, .slice (some ⟨sb, so, none⟩) c.plans.l.length c.plans.c), (12, .int .i64 (c.plans.l.length : Int)), (13, .int .i64 (i : Int)), (4, .slice p.a p.l.length p.c), (27, .bool (decide ((maxL p.l) < 1)))] (fun _ => by kernel_rfl) (endR ?_) : RT _ _ _ _ _ _ 2 _)
          refine PT.keep (L' := [(1, .pointer (some ⟨b1, 0, none⟩)), (2, .bool false), (11, .slice (some ⟨sb, so, none⟩) c.plans.l.length c.plans.c), (12, .int .i64 (c.plans.l.length : Int)), (13, .int .i64 (i : Int)), (4, .slice p.a p.l.length p.c), (27, .bool (false || (decide ((maxL p.l) < 1))))]) [1, 2, 11, 12, 13, 4, 27] rfl ?_
          exact midR () rfl rfl
      refine (run0 (z := 9) 1 [1, 2, 11, 12, 13, 4, 28] [(1, .pointer (some ⟨b1, 0, none⟩)), (2, .bool false), (11, .slice (some ⟨sb, so, none⟩) c.plans.l.length c.plans.c), (12, .int .i64 (c.plans.l.length : Int)), (13, .int .i64 (i : Int)), (4, .slice p.a p.l.length p.c), (28, .bool (((p.l.length : Int) != (c.domains.l.length : Int)) || (decide ((maxL p.l) < 1))))] (fun _ => by kernel_rfl) ?_ : RT _ _ _ _ _ _ 10 _)
      refine (segR (ι := Unit) (z := 5) 4 (fun _ => [(1, .pointer (some ⟨b1, 0, none⟩)), (2, .bool false), (11, .slice (some ⟨sb, so, none⟩) c.plans.l.length c.plans.c), (12, .int .i64 (c.plans.l.length : Int)), (13, .int .i64 (i : Int)), (4, .slice p.a p.l.length p.c), (32, .bool ((((p.l.length : Int) != (c.domains.l.length : Int)) || (decide ((maxL p.l) < 1))) || (decide ((maxL p.l) > 1000))))]) (fun _ => (blk b1 25 [.int .i64 c.frame, .int .i64 c.epoch, .slice (some ⟨sb, so, none⟩) c.plans.l.length c.plans.c, .slice c.domains.a c.domains.l.length c.domains.c] :: H)) ?_ (fun _ => ?_) : RT _ _ _ _ _ _ 9 _)
      · cases hg12 : (((p.l.length : Int) != (c.domains.l.length : Int)) || (decide ((maxL p.l) < 1))) with
        | true =>
          refine (run0 (z := 0) 4 [1, 2, 11, 12, 13, 4, 32] [(1, .pointer (some ⟨b1, 0, none⟩)), (2, .bool false), (11, .slice (some ⟨sb, so, none⟩) c.plans.l.length c.plans.c), (12, .int .i64 (c.plans.l.length : Int)), (13, .int .i64 (i : Int)), (4, .slice p.a p.l.length p.c), (32, .bool true)] (fun _ => by kernel_rfl) (endR ?_) : RT _ _ _ _ _ _ 4 _)
          refine PT.keep (L' := [(1, .pointer (some ⟨b1, 0, none⟩)), (2, .bool false), (11, .slice (some ⟨sb, so, none⟩) c.plans.l.length c.plans.c), (12, .int .i64 (c.plans.l.length : Int)), (13, .int .i64 (i : Int)), (4, .slice p.a p.l.length p.c), (32, .bool (true || (decide ((maxL p.l) > 1000))))]) [1, 2, 11, 12, 13, 4, 32] rfl ?_
          exact midR () rfl rfl
        | false =>
          have hpn : p.l.length = c.domains.l.length := by have := hg12; simp only [Bool.or_eq_false_iff, bne_eq_false_iff_eq] at this; omega
          have hpne : p.l ≠ [] := by intro h0; rw [h0] at hpn; simp at hpn; omega
          refine (run0 (z := 3) 1 [1, 2, 11, 12, 13, 4, 28, 29] [(1, .pointer (some ⟨b1, 0, none⟩)), (2, .bool false), (11, .slice (some ⟨sb, so, none⟩) c.plans.l.length c.plans.c), (12, .int .i64 (c.plans.l.length : Int)), (13, .int .i64 (i : Int)), (4, .slice p.a p.l.length p.c), (28, .bool false), (29, .slice p.a p.l.length p.c)] (fun _ => by kernel_rfl) ?_ : RT _ _ _ _ _ _ 4 _)
          refine (stepR (z := 2) (callS 48 [.slice p.a p.l.length p.c] (some 30) (fun _ => .int .i64 (maxL p.l)) (fun _ => (blk b1 25 [.int .i64 c.frame, .int .i64 c.epoch, .slice (some ⟨sb, so, none⟩) c.plans.l.length c.plans.c, .slice c.domains.a c.domains.l.length c.domains.c] :: H)) (fun _ => by kernel_rfl) (maxL_walk _ p ((hk.plan p hpm).up) hpne (by omega))) (fun _ => ?_) : RT _ _ _ _ _ _ 3 _)
          refine (run0 (z := 0) 2 [1, 2, 11, 12, 13, 4, 32] [(1, .pointer (some ⟨b1, 0, none⟩)), (2, .bool false), (11, .slice (some ⟨sb, so, none⟩) c.plans.l.length c.plans.c), (12, .int .i64 (c.plans.l.length : Int)), (13, .int .i64 (i : Int)), (4, .slice p.a p.l.length p.c), (32, .bool (decide ((maxL p.l) > 1000)))] (fun _ => by kernel_rfl) (endR ?_) : RT _ _ _ _ _ _ 2 _)
          refine PT.keep (L' := [(1, .pointer (some ⟨b1, 0, none⟩)), (2, .bool false), (11, .slice (some ⟨sb, so, none⟩) c.plans.l.length c.plans.c), (12, .int .i64 (c.plans.l.length : Int)), (13, .int .i64 (i : Int)), (4, .slice p.a p.l.length p.c), (32, .bool (false || (decide ((maxL p.l) > 1000))))]) [1, 2, 11, 12, 13, 4, 32] rfl ?_
          exact midR () rfl rfl
      refine (run0 (z := 4) 1 [1, 2, 11, 12, 13, 4, 33] [(1, .pointer (some ⟨b1, 0, none⟩)), (2, .bool false), (11, .slice (some ⟨sb, so, none⟩) c.plans.l.length c.plans.c), (12, .int .i64 (c.plans.l.length : Int)), (13, .int .i64 (i : Int)), (4, .slice p.a p.l.length p.c), (33, .bool ((((p.l.length : Int) != (c.domains.l.length : Int)) || (decide ((maxL p.l) < 1))) || (decide ((maxL p.l) > 1000))))] (fun _ => by kernel_rfl) ?_ : RT _ _ _ _ _ _ 5 _)
      refine (segR (ι := Unit) (z := 0) 4 (fun _ => [(1, .pointer (some ⟨b1, 0, none⟩)), (2, .bool false), (11, .slice (some ⟨sb, so, none⟩) c.plans.l.length c.plans.c), (12, .int .i64 (c.plans.l.length : Int)), (13, .int .i64 (i : Int)), (37, .bool (((((p.l.length : Int) != (c.domains.l.length : Int)) || (decide ((maxL p.l) < 1))) || (decide ((maxL p.l) > 1000))) || (decide ((minL p.l) < 0))))]) (fun _ => (blk b1 25 [.int .i64 c.frame, .int .i64 c.epoch, .slice (some ⟨sb, so, none⟩) c.plans.l.length c.plans.c, .slice c.domains.a c.domains.l.length c.domains.c] :: H)) ?_ (fun _ => ?_) : RT _ _ _ _ _ _ 4 _)
      · cases hg17 : ((((p.l.length : Int) != (c.domains.l.length : Int)) || (decide ((maxL p.l) < 1))) || (decide ((maxL p.l) > 1000))) with
        | true =>
          refine (run0 (z := 0) 4 [1, 2, 11, 12, 13, 37] [(1, .pointer (some ⟨b1, 0, none⟩)), (2, .bool false), (11, .slice (some ⟨sb, so, none⟩) c.plans.l.length c.plans.c), (12, .int .i64 (c.plans.l.length : Int)), (13, .int .i64 (i : Int)), (37, .bool true)] (fun _ => by kernel_rfl) (endR ?_) : RT _ _ _ _ _ _ 4 _)
          refine PT.keep (L' := [(1, .pointer (some ⟨b1, 0, none⟩)), (2, .bool false), (11, .slice (some ⟨sb, so, none⟩) c.plans.l.length c.plans.c), (12, .int .i64 (c.plans.l.length : Int)), (13, .int .i64 (i : Int)), (37, .bool (true || (decide ((minL p.l) < 0))))]) [1, 2, 11, 12, 13, 37] rfl ?_
          exact midR () rfl rfl
        | false =>
          have hpn : p.l.length = c.domains.l.length := by have := hg17; simp only [Bool.or_eq_false_iff, bne_eq_false_iff_eq] at this; omega
          have hpne : p.l ≠ [] := by intro h0; rw [h0] at hpn; simp at hpn; omega
          refine (run0 (z := 3) 1 [1, 2, 11, 12, 13, 33, 34] [(1, .pointer (some ⟨b1, 0, none⟩)), (2, .bool false), (11, .slice (some ⟨sb, so, none⟩) c.plans.l.length c.plans.c), (12, .int .i64 (c.plans.l.length : Int)), (13, .int .i64 (i : Int)), (33, .bool false), (34, .slice p.a p.l.length p.c)] (fun _ => by kernel_rfl) ?_ : RT _ _ _ _ _ _ 4 _)
          refine (stepR (z := 2) (callS 49 [.slice p.a p.l.length p.c] (some 35) (fun _ => .int .i64 (minL p.l)) (fun _ => (blk b1 25 [.int .i64 c.frame, .int .i64 c.epoch, .slice (some ⟨sb, so, none⟩) c.plans.l.length c.plans.c, .slice c.domains.a c.domains.l.length c.domains.c] :: H)) (fun _ => by kernel_rfl) (minL_walk _ p ((hk.plan p hpm).up) hpne (by omega))) (fun _ => ?_) : RT _ _ _ _ _ _ 3 _)
          refine (run0 (z := 0) 2 [1, 2, 11, 12, 13, 37] [(1, .pointer (some ⟨b1, 0, none⟩)), (2, .bool false), (11, .slice (some ⟨sb, so, none⟩) c.plans.l.length c.plans.c), (12, .int .i64 (c.plans.l.length : Int)), (13, .int .i64 (i : Int)), (37, .bool (decide ((minL p.l) < 0)))] (fun _ => by kernel_rfl) (endR ?_) : RT _ _ _ _ _ _ 2 _)
          refine PT.keep (L' := [(1, .pointer (some ⟨b1, 0, none⟩)), (2, .bool false), (11, .slice (some ⟨sb, so, none⟩) c.plans.l.length c.plans.c), (12, .int .i64 (c.plans.l.length : Int)), (13, .int .i64 (i : Int)), (37, .bool (false || (decide ((minL p.l) < 0))))]) [1, 2, 11, 12, 13, 37] rfl ?_
          exact midR () rfl rfl
      refine endR ?_
      refine condR (b := ((((p.l.length : Int) != (c.domains.l.length : Int)) || (decide ((maxL p.l) < 1))) || (decide ((maxL p.l) > 1000))) || (decide ((minL p.l) < 0))) (by kernel_rfl) (fun _ => by kernel_rfl) (fun hb => ?_) (fun hb => ?_)
      · skip
        refine seqR (by kernel_rfl) ?_
        refine regionR 1 (by kernel_rfl) (by kernel_rfl) ?_
        refine (run0 (z := 0) 1 [1, 2, 11, 12, 13] [(1, .pointer (some ⟨b1, 0, none⟩)), (2, .bool false), (11, .slice (some ⟨sb, so, none⟩) c.plans.l.length c.plans.c), (12, .int .i64 (c.plans.l.length : Int)), (13, .int .i64 (i : Int))] (fun _ => by kernel_rfl) (endR ?_) : RT _ _ _ _ _ _ 1 _)
        refine retR (by kernel_rfl) ?_
        refine blockV ?_
        refine thenV ?_
        refine thenV ?_
        refine blockV ?_
        refine thenV ?_
        have h0 : (c.plans.l.all fun p => !planBad c.domains.l.length p.l) = false := by
          rw [← Bool.not_eq_true]
          intro h1
          have := List.all_eq_true.1 h1 p hpm
          rw [show planBad c.domains.l.length p.l = true from hb] at this
          simp at this
        refine done0 (.bool false) (fun _ => by kernel_rfl) (fun w hs => ?_) .ret (.inr rfl)
        exact ⟨(), by simp only [sharesOk, hin, h0, Bool.and_false], hs.tail⟩
      · skip
        refine skipR (by kernel_rfl) ?_
        refine regionR 2 (by kernel_rfl) (by kernel_rfl) ?_
        refine (run0 (z := 0) 2 [1, 2, 11, 12, 13] [(1, .pointer (some ⟨b1, 0, none⟩)), (2, .bool false), (11, .slice (some ⟨sb, so, none⟩) c.plans.l.length c.plans.c), (12, .int .i64 (c.plans.l.length : Int)), (13, .int .i64 (IntKind.i64.wrap ((i : Int) + 1)))] (fun _ => by kernel_rfl) (endR ?_) : RT _ _ _ _ _ _ 2 _)
        have ha : some (⟨sb, so, none⟩ : Addr) = c.plans.a := hA.symm
        refine PT.keep (L' := [(1, .pointer (some ⟨b1, 0, none⟩)), (2, .bool false), (11, .slice (some ⟨sb, so, none⟩) c.plans.l.length c.plans.c), (12, .int .i64 (c.plans.l.length : Int)), (13, .int .i64 (IntKind.i64.wrap ((i : Int) + 1)))]) [1, 2, 11, 12, 13] rfl ?_
        exact againG (k - 1) (i + 1) (by rw [hw, ha]) (by rw [ha]) (by omega) ⟨by omega, by rw [ht, List.all_append, hall]; simp only [List.all_cons, List.all_nil, Bool.true_and, Bool.and_true]; rw [show planBad c.domains.l.length p.l = false from hb]; rfl⟩
    · skip
      refine exitR 0 (by kernel_rfl) (by kernel_rfl) ?_
      refine thenX ?_
      refine thenX ?_
      refine leaveR ?_
      refine seqR (by kernel_rfl) ?_
      refine regionR 1 (by kernel_rfl) (by kernel_rfl) ?_
      refine (run0 (z := 0) 1 [2] [(2, .bool true)] (fun _ => by kernel_rfl) (endR ?_) : RT _ _ _ _ _ _ 1 _)
      refine retR (by kernel_rfl) ?_
      have hi : i = c.plans.l.length := by have := of_decide_eq_false h; omega
      rw [hi, List.take_length] at hall
      refine done0 (.bool true) (fun _ => by kernel_rfl) (fun w hs => ?_) .normal (.inl rfl)
      exact ⟨(), by simp only [sharesOk, hin, hall]; rfl, hs.tail⟩
  | false =>
    refine condR (b := true) (by kernel_rfl) (fun _ => by kernel_rfl) (fun _ => ?_) (fun h => by cases h)
    refine seqR (by kernel_rfl) ?_
    refine regionR 1 (by kernel_rfl) (by kernel_rfl) ?_
    refine (run0 (z := 0) 1 [1, 2] [(1, .pointer (some ⟨b1, 0, none⟩)), (2, .bool false)] (fun _ => by kernel_rfl) (endR ?_) : RT _ _ _ _ _ _ 1 _)
    refine retR (by kernel_rfl) ?_
    refine thenV ?_
    refine done0 (.bool false) (fun _ => by kernel_rfl) (fun w hs => ?_) .ret (.inr rfl)
    exact ⟨(), by simp only [sharesOk, hin, Bool.false_and], hs.tail⟩
end Go.Proofs.Ytjjbnmlhbbnhcaa
