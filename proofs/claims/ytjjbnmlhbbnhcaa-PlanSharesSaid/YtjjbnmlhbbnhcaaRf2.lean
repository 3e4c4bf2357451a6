/- tontineref1.shares: its walk. Conditions: none. -/
import Derived.Test.YtjjbnmlhbbnhcaaRf1
import Derived.Test.YtjjbnmlhbbnhcaaCf5
set_option linter.unusedVariables false
set_option linter.unusedSimpArgs false
namespace Go.Proofs.Ytjjbnmlhbbnhcaa
open Go.RowKit G
set_option maxRecDepth 100000 in
theorem rshares_walk (H : List SP) (c : ConfV) (hk : KC H c) (hsm : SmallC c) : ∀ w, Sat w H → Calls Try.prog 29 #[.agg #[.int .i64 c.frame, .int .i64 c.epoch, .slice c.plans.a c.plans.l.length c.plans.c, .slice c.domains.a c.domains.l.length c.domains.c]] w (Ret (ι := Unit) (fun _ => .bool (rsharesOk c)) fun _ => H) := by
  have hnp := hsm.plans
  have hnd := hsm.doms
  refine enterG (fn := Try.f29) 64 [.agg #[.int .i64 c.frame, .int .i64 c.epoch, .slice c.plans.a c.plans.l.length c.plans.c, .slice c.domains.a c.domains.l.length c.domains.c]] Try.func29 (by kernel_rfl) (by kernel_rfl) (by kernel_rfl) ?_
  refine seqR (by kernel_rfl) ?_
  refine regionR 2 (by kernel_rfl) (by kernel_rfl) ?_
  refine (stepR (z := 1) (newS 25 [.int .i64 c.frame, .int .i64 c.epoch, .slice c.plans.a c.plans.l.length c.plans.c, .slice c.domains.a c.domains.l.length c.domains.c] (some 1) (fun b => .pointer (some ⟨b, 0, none⟩)) (fun _ _ => by kernel_rfl)) (fun b1 => ?_) : RT _ _ _ _ _ _ 2 _)
  refine (run0 (z := 0) 1 [1, 2] [(1, .pointer (some ⟨b1, 0, none⟩)), (2, .bool false)] (fun _ => by kernel_rfl) (endR ?_) : RT _ _ _ _ _ _ 1 _)
  refine seqR (by kernel_rfl) ?_
  refine seqR (by kernel_rfl) ?_
  refine regionR 5 (by kernel_rfl) (by kernel_rfl) ?_
  refine (runR (H := (blk b1 25 [.int .i64 c.frame, .int .i64 c.epoch, .slice c.plans.a c.plans.l.length c.plans.c, .slice c.domains.a c.domains.l.length c.domains.c] :: H)) (z := 2) 3 [1, 2, 8] [(1, .pointer (some ⟨b1, 0, none⟩)), (2, .bool false), (8, .int .i64 (c.plans.l.length : Int))] [(⟨b1, 2, none⟩, .slice c.plans.a c.plans.l.length c.plans.c)] (hasC (blkAt (T := 25) (cs := [.int .i64 c.frame, .int .i64 c.epoch, .slice c.plans.a c.plans.l.length c.plans.c, .slice c.domains.a c.domains.l.length c.domains.c]) 0 rfl rfl) has0) (fun _ => by kernel_rfl) ?_ : RT _ _ _ _ _ _ 5 _)
  refine (stepR (z := 1) (callS 27 [.int .i64 (c.plans.l.length : Int), .int .i64 1, .int .i64 3] (some 9) (fun _ => .bool (inb (c.plans.l.length : Int) 1 3)) (fun (_ : Unit) => (blk b1 25 [.int .i64 c.frame, .int .i64 c.epoch, .slice c.plans.a c.plans.l.length c.plans.c, .slice c.domains.a c.domains.l.length c.domains.c] :: H)) (fun _ => by kernel_rfl) (rwithin_walk _ (c.plans.l.length : Int) 1 3)) (fun _ => ?_) : RT _ _ _ _ _ _ 2 _)
  refine (run0 (z := 0) 1 [1, 2, 10] [(1, .pointer (some ⟨b1, 0, none⟩)), (2, .bool false), (10, .bool (!(inb (c.plans.l.length : Int) 1 3)))] (fun _ => by kernel_rfl) (endR ?_) : RT _ _ _ _ _ _ 1 _)
  cases hin : (inb (c.plans.l.length : Int) 1 3) with
  | true =>
    refine condR (b := false) (by kernel_rfl) (fun _ => by kernel_rfl) (fun h => by cases h) (fun _ => ?_)
    refine skipR (by kernel_rfl) ?_
    refine seqR (by kernel_rfl) ?_
    refine seqR (by kernel_rfl) ?_
    refine regionR 1 (by kernel_rfl) (by kernel_rfl) ?_
    refine (run0 (z := 0) 1 [1, 2, 3] [(1, .pointer (some ⟨b1, 0, none⟩)), (2, .bool false), (3, .int .i64 0)] (fun _ => by kernel_rfl) (endR ?_) : RT _ _ _ _ _ _ 1 _)
    refine blockR 0 (by kernel_rfl) (by kernel_rfl) ?_
    refine PT.keep (L' := [(1, .pointer (some ⟨b1, 0, none⟩)), (2, .bool false), (3, .int .i64 0)]) [1, 2, 3] rfl ?_
    refine loopG (fun (i : Nat) => [(1, .pointer (some ⟨b1, 0, none⟩)), (2, .bool false), (3, .int .i64 (i : Int))]) (fun (i : Nat) => (blk b1 25 [.int .i64 c.frame, .int .i64 c.epoch, .slice c.plans.a c.plans.l.length c.plans.c, .slice c.domains.a c.domains.l.length c.domains.c] :: H)) (fun k (i : Nat) => k + i = c.plans.l.length ∧ ((c.plans.l.take i).all fun p => rplanOk c.domains.l.length p.l) = true) c.plans.l.length 0 (by kernel_rfl) ⟨by omega, rfl⟩ ?_
    rintro k i ⟨hki, hall⟩
    have hw : IntKind.i64.wrap ((i : Int) + 1) = ((i + 1 : Nat) : Int) := by rw [IntKind.wrap_i64]; omega
    refine seqR (by kernel_rfl) ?_
    refine seqR (by kernel_rfl) ?_
    refine regionR 5 (by kernel_rfl) (by kernel_rfl) ?_
    refine (runR (H := (blk b1 25 [.int .i64 c.frame, .int .i64 c.epoch, .slice c.plans.a c.plans.l.length c.plans.c, .slice c.domains.a c.domains.l.length c.domains.c] :: H)) (z := 0) 5 [1, 2, 3, 15] [(1, .pointer (some ⟨b1, 0, none⟩)), (2, .bool false), (3, .int .i64 (i : Int)), (15, .bool (decide ((i : Int) < (c.plans.l.length : Int))))] [(⟨b1, 2, none⟩, .slice c.plans.a c.plans.l.length c.plans.c)] (hasC (blkAt (T := 25) (cs := [.int .i64 c.frame, .int .i64 c.epoch, .slice c.plans.a c.plans.l.length c.plans.c, .slice c.domains.a c.domains.l.length c.domains.c]) 0 rfl rfl) has0) (fun _ => by kernel_rfl) (endR ?_) : RT _ _ _ _ _ _ 5 _)
    refine condR (b := decide ((i : Int) < (c.plans.l.length : Int))) (by kernel_rfl) (fun _ => by kernel_rfl) (fun h => ?_) (fun h => ?_)
    · skip
      have hi : i < c.plans.l.length := by have := of_decide_eq_true h; omega
      obtain ⟨p, hp⟩ : ∃ p, c.plans.l[i]? = some p := ⟨_, by simp [hi]; rfl⟩
      have hpm : p ∈ c.plans.l := List.mem_of_getElem? hp
      have hpl := hsm.plan p hpm
      have hbad : rplanOk c.domains.l.length p.l = false → rsharesOk c = false := by
        intro hb1
        have h0 : (c.plans.l.all fun p => rplanOk c.domains.l.length p.l) = false := by
          rw [← Bool.not_eq_true]
          intro h1
          have := List.all_eq_true.1 h1 p hpm
          rw [hb1] at this
          simp at this
        rw [rsharesOk, h0, Bool.and_false]
      refine PT.know ((hk.plans).up.isSome (List.ne_nil_of_length_pos (by omega))) ?_
      rintro ⟨sb, so, hA⟩
      try rw [hA]
      refine skipR (by kernel_rfl) ?_
      refine seqR (by kernel_rfl) ?_
      refine blockR 1 (by kernel_rfl) (by kernel_rfl) ?_
      refine seqR (by kernel_rfl) ?_
      refine regionR 1 (by kernel_rfl) (by kernel_rfl) ?_
      refine (run0 (z := 0) 1 [1, 2, 3, 4] [(1, .pointer (some ⟨b1, 0, none⟩)), (2, .bool false), (3, .int .i64 (i : Int)), (4, .bool false)] (fun _ => by kernel_rfl) (endR ?_) : RT _ _ _ _ _ _ 1 _)
      refine seqR (by kernel_rfl) ?_
      refine seqR (by kernel_rfl) ?_
      refine regionR 1 (by kernel_rfl) (by kernel_rfl) ?_
      refine (run0 (z := 0) 1 [1, 2, 3, 4, 5] [(1, .pointer (some ⟨b1, 0, none⟩)), (2, .bool false), (3, .int .i64 (i : Int)), (4, .bool false), (5, .int .i64 0)] (fun _ => by kernel_rfl) (endR ?_) : RT _ _ _ _ _ _ 1 _)
      refine blockR 2 (by kernel_rfl) (by kernel_rfl) ?_
      refine PT.keep (L' := [(1, .pointer (some ⟨b1, 0, none⟩)), (2, .bool false), (3, .int .i64 (i : Int)), (4, .bool false), (5, .int .i64 0)]) [1, 2, 3, 4, 5] rfl ?_
      refine loopG (fun (m : Nat) => [(1, .pointer (some ⟨b1, 0, none⟩)), (2, .bool false), (3, .int .i64 (i : Int)), (4, .bool ((p.l.take m).any fun x => decide (x > 0))), (5, .int .i64 (m : Int))]) (fun (m : Nat) => (blk b1 25 [.int .i64 c.frame, .int .i64 c.epoch, .slice (some ⟨sb, so, none⟩) c.plans.l.length c.plans.c, .slice c.domains.a c.domains.l.length c.domains.c] :: H)) (fun k (m : Nat) => k + m = p.l.length ∧ ((p.l.take m).all fun x => inb x 0 1000) = true) p.l.length 0 (by kernel_rfl) ⟨by omega, rfl⟩ ?_
      rintro k2 m ⟨hkj, hal2⟩
      have hw2 : IntKind.i64.wrap ((m : Int) + 1) = ((m + 1 : Nat) : Int) := by rw [IntKind.wrap_i64]; omega
      refine seqR (by kernel_rfl) ?_
      refine seqR (by kernel_rfl) ?_
      refine regionR 8 (by kernel_rfl) (by kernel_rfl) ?_
      refine (runR (H := (blk b1 25 [.int .i64 c.frame, .int .i64 c.epoch, .slice (some ⟨sb, so, none⟩) c.plans.l.length c.plans.c, .slice c.domains.a c.domains.l.length c.domains.c] :: H)) (z := 4) 4 [1, 2, 3, 4, 5, 18, 20, 21] [(1, .pointer (some ⟨b1, 0, none⟩)), (2, .bool false), (3, .int .i64 (i : Int)), (4, .bool ((p.l.take m).any fun x => decide (x > 0))), (5, .int .i64 (m : Int)), (18, .int .i64 (m : Int)), (20, .slice (some ⟨sb, so, none⟩) c.plans.l.length c.plans.c), (21, .int .i64 (i : Int))] [(⟨b1, 2, none⟩, .slice (some ⟨sb, so, none⟩) c.plans.l.length c.plans.c)] (hasC (blkAt (T := 25) (cs := [.int .i64 c.frame, .int .i64 c.epoch, .slice (some ⟨sb, so, none⟩) c.plans.l.length c.plans.c, .slice c.domains.a c.domains.l.length c.domains.c]) 0 rfl rfl) has0) (fun _ => by kernel_rfl) ?_ : RT _ _ _ _ _ _ 8 _)
      refine (stepR (z := 3) (yldS (idxY 22 (.tmp 20) (.tmp 21) sb so c.plans.l.length c.plans.c i 1 26 (i : Int) .i64 (some 22) (fun _ => by kernel_rfl) (by kernel_rfl) (by kernel_rfl) (fun _ => by kernel_rfl) (fun _ => by kernel_rfl) Try.underlying22 (by kernel_rfl) (by first | rfl | assumption | simp) (by first | omega | (simp; done) | (simp; omega) | (simp at *; omega)))) (fun _ => ?_) : RT _ _ _ _ _ _ 4 _)
      refine (runR (H := (blk b1 25 [.int .i64 c.frame, .int .i64 c.epoch, .slice (some ⟨sb, so, none⟩) c.plans.l.length c.plans.c, .slice c.domains.a c.domains.l.length c.domains.c] :: H)) (z := 0) 3 [1, 2, 3, 4, 5, 25] [(1, .pointer (some ⟨b1, 0, none⟩)), (2, .bool false), (3, .int .i64 (i : Int)), (4, .bool ((p.l.take m).any fun x => decide (x > 0))), (5, .int .i64 (m : Int)), (25, .bool (decide ((m : Int) < (p.l.length : Int))))] [(⟨sb, so + i * 1, none⟩, .slice p.a p.l.length p.c)] (hasC (up (hk.plans.cell hA (i := i) (x := p) hp (j := 0) rfl)) has0) (fun _ => by kernel_rfl) (endR ?_) : RT _ _ _ _ _ _ 3 _)
      refine condR (b := decide ((m : Int) < (p.l.length : Int))) (by kernel_rfl) (fun _ => by kernel_rfl) (fun h2 => ?_) (fun h2 => ?_)
      · skip
        have hj : m < p.l.length := by have := of_decide_eq_true h2; omega
        obtain ⟨y, hy⟩ : ∃ y, p.l[m]? = some y := ⟨_, by simp [hj]; rfl⟩
        have hym : y ∈ p.l := List.mem_of_getElem? hy
        have ht : p.l.take (m + 1) = p.l.take m ++ [y] := by rw [List.take_add_one, hy]; rfl
        refine PT.know (((hk.plan p hpm)).up.isSome (List.ne_nil_of_length_pos (by omega))) ?_
        rintro ⟨tb, to_, hB⟩
        try rw [hB]
        refine skipR (by kernel_rfl) ?_
        refine seqR (by kernel_rfl) ?_
        refine blockR 3 (by kernel_rfl) (by kernel_rfl) ?_
        refine seqR (by kernel_rfl) ?_
        refine seqR (by kernel_rfl) ?_
        refine regionR 10 (by kernel_rfl) (by kernel_rfl) ?_
        refine (runR (H := (blk b1 25 [.int .i64 c.frame, .int .i64 c.epoch, .slice (some ⟨sb, so, none⟩) c.plans.l.length c.plans.c, .slice c.domains.a c.domains.l.length c.domains.c] :: H)) (z := 7) 3 [1, 2, 3, 4, 5, 29, 30] [(1, .pointer (some ⟨b1, 0, none⟩)), (2, .bool false), (3, .int .i64 (i : Int)), (4, .bool ((p.l.take m).any fun x => decide (x > 0))), (5, .int .i64 (m : Int)), (29, .slice (some ⟨sb, so, none⟩) c.plans.l.length c.plans.c), (30, .int .i64 (i : Int))] [(⟨b1, 2, none⟩, .slice (some ⟨sb, so, none⟩) c.plans.l.length c.plans.c)] (hasC (blkAt (T := 25) (cs := [.int .i64 c.frame, .int .i64 c.epoch, .slice (some ⟨sb, so, none⟩) c.plans.l.length c.plans.c, .slice c.domains.a c.domains.l.length c.domains.c]) 0 rfl rfl) has0) (fun _ => by kernel_rfl) ?_ : RT _ _ _ _ _ _ 10 _)
        refine (stepR (z := 6) (yldS (idxY 22 (.tmp 29) (.tmp 30) sb so c.plans.l.length c.plans.c i 1 26 (i : Int) .i64 (some 31) (fun _ => by kernel_rfl) (by kernel_rfl) (by kernel_rfl) (fun _ => by kernel_rfl) (fun _ => by kernel_rfl) Try.underlying22 (by kernel_rfl) (by first | rfl | assumption | simp) (by first | omega | (simp; done) | (simp; omega) | (simp at *; omega)))) (fun _ => ?_) : RT _ _ _ _ _ _ 7 _)
        refine (runR (H := (blk b1 25 [.int .i64 c.frame, .int .i64 c.epoch, .slice (some ⟨sb, so, none⟩) c.plans.l.length c.plans.c, .slice c.domains.a c.domains.l.length c.domains.c] :: H)) (z := 4) 2 [1, 2, 3, 4, 5, 32, 33] [(1, .pointer (some ⟨b1, 0, none⟩)), (2, .bool false), (3, .int .i64 (i : Int)), (4, .bool ((p.l.take m).any fun x => decide (x > 0))), (5, .int .i64 (m : Int)), (32, .slice (some ⟨tb, to_, none⟩) p.l.length p.c), (33, .int .i64 (m : Int))] [(⟨sb, so + i * 1, none⟩, .slice (some ⟨tb, to_, none⟩) p.l.length p.c)] (hasC (up (hk.plans.cell_sl hA hp hB)) has0) (fun _ => by kernel_rfl) ?_ : RT _ _ _ _ _ _ 6 _)
        refine (stepR (z := 3) (yldS (idxY 26 (.tmp 32) (.tmp 33) tb to_ p.l.length p.c m 1 3 (m : Int) .i64 (some 34) (fun _ => by kernel_rfl) (by kernel_rfl) (by kernel_rfl) (fun _ => by kernel_rfl) (fun _ => by kernel_rfl) Try.underlying26 (by kernel_rfl) (by first | rfl | assumption | simp) (by first | omega | (simp; done) | (simp; omega) | (simp at *; omega)))) (fun _ => ?_) : RT _ _ _ _ _ _ 4 _)
        refine (runR (H := (blk b1 25 [.int .i64 c.frame, .int .i64 c.epoch, .slice (some ⟨sb, so, none⟩) c.plans.l.length c.plans.c, .slice c.domains.a c.domains.l.length c.domains.c] :: H)) (z := 2) 1 [1, 2, 3, 4, 5, 35] [(1, .pointer (some ⟨b1, 0, none⟩)), (2, .bool false), (3, .int .i64 (i : Int)), (4, .bool ((p.l.take m).any fun x => decide (x > 0))), (5, .int .i64 (m : Int)), (35, .int .i64 y)] [(⟨tb, to_ + m * 1, none⟩, .int .i64 y)] (hasC (up ((hk.plan p hpm).cell hB (i := m) (x := y) hy (j := 0) rfl)) has0) (fun _ => by kernel_rfl) ?_ : RT _ _ _ _ _ _ 3 _)
        refine (stepR (z := 1) (callS 27 [.int .i64 y, .int .i64 0, .int .i64 1000] (some 36) (fun _ => .bool (inb y 0 1000)) (fun (_ : Unit) => (blk b1 25 [.int .i64 c.frame, .int .i64 c.epoch, .slice (some ⟨sb, so, none⟩) c.plans.l.length c.plans.c, .slice c.domains.a c.domains.l.length c.domains.c] :: H)) (fun _ => by kernel_rfl) (rwithin_walk _ y 0 1000)) (fun _ => ?_) : RT _ _ _ _ _ _ 2 _)
        refine (run0 (z := 0) 1 [1, 2, 3, 4, 5, 37] [(1, .pointer (some ⟨b1, 0, none⟩)), (2, .bool false), (3, .int .i64 (i : Int)), (4, .bool ((p.l.take m).any fun x => decide (x > 0))), (5, .int .i64 (m : Int)), (37, .bool (!(inb y 0 1000)))] (fun _ => by kernel_rfl) (endR ?_) : RT _ _ _ _ _ _ 1 _)
        cases hy1 : (inb y 0 1000) with
        | true =>
          refine condR (b := false) (by kernel_rfl) (fun _ => by kernel_rfl) (fun h => by cases h) (fun _ => ?_)
          refine skipR (by kernel_rfl) ?_
          refine regionR 13 (by kernel_rfl) (by kernel_rfl) ?_
          refine (run0 (z := 11) 2 [1, 2, 3, 4, 5, 39] [(1, .pointer (some ⟨b1, 0, none⟩)), (2, .bool false), (3, .int .i64 (i : Int)), (4, .bool ((p.l.take m).any fun x => decide (x > 0))), (5, .int .i64 (m : Int)), (39, .bool ((p.l.take m).any fun x => decide (x > 0)))] (fun _ => by kernel_rfl) ?_ : RT _ _ _ _ _ _ 13 _)
          refine (segR (ι := Unit) (z := 1) 10 (fun _ => [(1, .pointer (some ⟨b1, 0, none⟩)), (2, .bool false), (3, .int .i64 (i : Int)), (4, .bool ((p.l.take m).any fun x => decide (x > 0))), (5, .int .i64 (m : Int)), (49, .bool (((p.l.take m).any fun x => decide (x > 0)) || (decide (y > 0))))]) (fun _ => (blk b1 25 [.int .i64 c.frame, .int .i64 c.epoch, .slice (some ⟨sb, so, none⟩) c.plans.l.length c.plans.c, .slice c.domains.a c.domains.l.length c.domains.c] :: H)) ?_ (fun _ => ?_) : RT _ _ _ _ _ _ 11 _)
          · cases hg2 : ((p.l.take m).any fun x => decide (x > 0)) with
            | true =>
              refine (run0 (z := 0) 10 [1, 2, 3, 4, 5, 49] [(1, .pointer (some ⟨b1, 0, none⟩)), (2, .bool false), (3, .int .i64 (i : Int)), (4, .bool true), (5, .int .i64 (m : Int)), (49, .bool true)] (fun _ => by kernel_rfl) (endR ?_) : RT _ _ _ _ _ _ 10 _)
              refine PT.keep (L' := [(1, .pointer (some ⟨b1, 0, none⟩)), (2, .bool false), (3, .int .i64 (i : Int)), (4, .bool true), (5, .int .i64 (m : Int)), (49, .bool (true || (decide (y > 0))))]) [1, 2, 3, 4, 5, 49] rfl ?_
              exact midR () rfl rfl
            | false =>
              refine (runR (H := (blk b1 25 [.int .i64 c.frame, .int .i64 c.epoch, .slice (some ⟨sb, so, none⟩) c.plans.l.length c.plans.c, .slice c.domains.a c.domains.l.length c.domains.c] :: H)) (z := 7) 3 [1, 2, 3, 4, 5, 39, 41, 42] [(1, .pointer (some ⟨b1, 0, none⟩)), (2, .bool false), (3, .int .i64 (i : Int)), (4, .bool false), (5, .int .i64 (m : Int)), (39, .bool false), (41, .slice (some ⟨sb, so, none⟩) c.plans.l.length c.plans.c), (42, .int .i64 (i : Int))] [(⟨b1, 2, none⟩, .slice (some ⟨sb, so, none⟩) c.plans.l.length c.plans.c)] (hasC (blkAt (T := 25) (cs := [.int .i64 c.frame, .int .i64 c.epoch, .slice (some ⟨sb, so, none⟩) c.plans.l.length c.plans.c, .slice c.domains.a c.domains.l.length c.domains.c]) 0 rfl rfl) has0) (fun _ => by kernel_rfl) ?_ : RT _ _ _ _ _ _ 10 _)
              refine (stepR (z := 6) (yldS (idxY 22 (.tmp 41) (.tmp 42) sb so c.plans.l.length c.plans.c i 1 26 (i : Int) .i64 (some 43) (fun _ => by kernel_rfl) (by kernel_rfl) (by kernel_rfl) (fun _ => by kernel_rfl) (fun _ => by kernel_rfl) Try.underlying22 (by kernel_rfl) (by first | rfl | assumption | simp) (by first | omega | (simp; done) | (simp; omega) | (simp at *; omega)))) (fun _ => ?_) : RT _ _ _ _ _ _ 7 _)
              refine (runR (H := (blk b1 25 [.int .i64 c.frame, .int .i64 c.epoch, .slice (some ⟨sb, so, none⟩) c.plans.l.length c.plans.c, .slice c.domains.a c.domains.l.length c.domains.c] :: H)) (z := 4) 2 [1, 2, 3, 4, 5, 39, 44, 45] [(1, .pointer (some ⟨b1, 0, none⟩)), (2, .bool false), (3, .int .i64 (i : Int)), (4, .bool false), (5, .int .i64 (m : Int)), (39, .bool false), (44, .slice (some ⟨tb, to_, none⟩) p.l.length p.c), (45, .int .i64 (m : Int))] [(⟨sb, so + i * 1, none⟩, .slice (some ⟨tb, to_, none⟩) p.l.length p.c)] (hasC (up (hk.plans.cell_sl hA hp hB)) has0) (fun _ => by kernel_rfl) ?_ : RT _ _ _ _ _ _ 6 _)
              refine (stepR (z := 3) (yldS (idxY 26 (.tmp 44) (.tmp 45) tb to_ p.l.length p.c m 1 3 (m : Int) .i64 (some 46) (fun _ => by kernel_rfl) (by kernel_rfl) (by kernel_rfl) (fun _ => by kernel_rfl) (fun _ => by kernel_rfl) Try.underlying26 (by kernel_rfl) (by first | rfl | assumption | simp) (by first | omega | (simp; done) | (simp; omega) | (simp at *; omega)))) (fun _ => ?_) : RT _ _ _ _ _ _ 4 _)
              refine (runR (H := (blk b1 25 [.int .i64 c.frame, .int .i64 c.epoch, .slice (some ⟨sb, so, none⟩) c.plans.l.length c.plans.c, .slice c.domains.a c.domains.l.length c.domains.c] :: H)) (z := 0) 3 [1, 2, 3, 4, 5, 49] [(1, .pointer (some ⟨b1, 0, none⟩)), (2, .bool false), (3, .int .i64 (i : Int)), (4, .bool false), (5, .int .i64 (m : Int)), (49, .bool (decide (y > 0)))] [(⟨tb, to_ + m * 1, none⟩, .int .i64 y)] (hasC (up ((hk.plan p hpm).cell hB (i := m) (x := y) hy (j := 0) rfl)) has0) (fun _ => by kernel_rfl) (endR ?_) : RT _ _ _ _ _ _ 3 _)
              refine PT.keep (L' := [(1, .pointer (some ⟨b1, 0, none⟩)), (2, .bool false), (3, .int .i64 (i : Int)), (4, .bool false), (5, .int .i64 (m : Int)), (49, .bool (false || (decide (y > 0))))]) [1, 2, 3, 4, 5, 49] rfl ?_
              exact midR () rfl rfl
          refine (run0 (z := 0) 1 [1, 2, 3, 4, 5] [(1, .pointer (some ⟨b1, 0, none⟩)), (2, .bool false), (3, .int .i64 (i : Int)), (4, .bool (((p.l.take m).any fun x => decide (x > 0)) || (decide (y > 0)))), (5, .int .i64 (m : Int))] (fun _ => by kernel_rfl) (endR ?_) : RT _ _ _ _ _ _ 1 _)
          refine regionR 3 (by kernel_rfl) (by kernel_rfl) ?_
          refine (run0 (z := 0) 3 [1, 2, 3, 4, 5] [(1, .pointer (some ⟨b1, 0, none⟩)), (2, .bool false), (3, .int .i64 (i : Int)), (4, .bool (((p.l.take m).any fun x => decide (x > 0)) || (decide (y > 0)))), (5, .int .i64 (IntKind.i64.wrap ((m : Int) + 1)))] (fun _ => by kernel_rfl) (endR ?_) : RT _ _ _ _ _ _ 3 _)
          have ha2 : ((p.l.take m).any (fun x => decide (x > 0)) || decide (y > 0)) = (p.l.take (m + 1)).any fun x => decide (x > 0) := by rw [ht]; simp
          try rw [← hB]
          refine PT.keep (L' := [(1, .pointer (some ⟨b1, 0, none⟩)), (2, .bool false), (3, .int .i64 (i : Int)), (4, .bool (((p.l.take m).any fun x => decide (x > 0)) || (decide (y > 0)))), (5, .int .i64 (IntKind.i64.wrap ((m : Int) + 1)))]) [1, 2, 3, 4, 5] rfl ?_
          exact againG (k2 - 1) (m + 1) (by rw [hw2, ha2]) rfl (by omega) ⟨by omega, by rw [ht, List.all_append, hal2]; simp only [List.all_cons, List.all_nil, hy1, Bool.and_self]⟩
        | false =>
          refine condR (b := true) (by kernel_rfl) (fun _ => by kernel_rfl) (fun _ => ?_) (fun h => by cases h)
          refine seqR (by kernel_rfl) ?_
          refine regionR 1 (by kernel_rfl) (by kernel_rfl) ?_
          refine (run0 (z := 0) 1 [1, 2, 3, 4, 5] [(1, .pointer (some ⟨b1, 0, none⟩)), (2, .bool false), (3, .int .i64 (i : Int)), (4, .bool ((p.l.take m).any fun x => decide (x > 0))), (5, .int .i64 (m : Int))] (fun _ => by kernel_rfl) (endR ?_) : RT _ _ _ _ _ _ 1 _)
          refine retR (by kernel_rfl) ?_
          refine thenV ?_
          refine blockV ?_
          refine thenV ?_
          refine thenV ?_
          refine blockV ?_
          refine thenV ?_
          refine blockV ?_
          refine thenV ?_
          refine thenV ?_
          refine blockV ?_
          refine thenV ?_
          have hpb : rplanOk c.domains.l.length p.l = false := by
            have h0 : (p.l.all fun x => inb x 0 1000) = false := by
              rw [← Bool.not_eq_true]
              intro h1
              have := List.all_eq_true.1 h1 y hym
              rw [hy1] at this
              simp at this
            rw [rplanOk, h0, Bool.false_and]
          refine done0 (.bool false) (fun _ => by kernel_rfl) (fun w hs => ?_) .ret (.inr rfl)
          exact ⟨(), by rw [hbad hpb], hs.tail⟩
      · skip
        have hj : m = p.l.length := by have := of_decide_eq_false h2; omega
        rw [hj, List.take_length] at hal2
        rw [hj, List.take_length]
        refine exitR 2 (by kernel_rfl) (by kernel_rfl) ?_
        refine thenX ?_
        refine thenX ?_
        refine leaveR ?_
        refine seqR (by kernel_rfl) ?_
        refine drawR (fun w => Sat w (blk b1 25 [.int .i64 c.frame, .int .i64 c.epoch, .slice (some ⟨sb, so, none⟩) c.plans.l.length c.plans.c, .slice c.domains.a c.domains.l.length c.domains.c] :: H)) [] 14 (by kernel_rfl) (by kernel_rfl) (by kernel_rfl) (fun _ h => by first | exact h | exact h.tail | exact h.tail.tail | exact h.tail.tail.tail | exact h.tail.tail.tail.tail) ?_
        refine takesR [0, 1, 2, 6, 7, 8] [1, 2, 3, 4, 51, 52, 58] 8 [true, true, true, false, false, false, true, true, true, false, false, false, false, false] [(1, .pointer (some ⟨b1, 0, none⟩)), (2, .bool false), (3, .int .i64 (i : Int)), (4, .bool ((p.l).any fun x => decide (x > 0))), (51, .slice (some ⟨sb, so, none⟩) c.plans.l.length c.plans.c), (52, .int .i64 (i : Int)), (58, .int .i64 (c.domains.l.length : Int))] [(⟨b1, 2, none⟩, .slice (some ⟨sb, so, none⟩) c.plans.l.length c.plans.c), (⟨b1, 3, none⟩, .slice c.domains.a c.domains.l.length c.domains.c)] rfl (fun _ d _ _ _ h => by cases d <;> exact h) (fun _ h => by first | exact h | exact h.tail | exact h.tail.tail | exact h.tail.tail.tail | exact h.tail.tail.tail.tail) (hasC (blkAt (T := 25) (cs := [.int .i64 c.frame, .int .i64 c.epoch, .slice (some ⟨sb, so, none⟩) c.plans.l.length c.plans.c, .slice c.domains.a c.domains.l.length c.domains.c]) 0 rfl rfl) (hasC (blkAt (T := 25) (cs := [.int .i64 c.frame, .int .i64 c.epoch, .slice (some ⟨sb, so, none⟩) c.plans.l.length c.plans.c, .slice c.domains.a c.domains.l.length c.domains.c]) 0 rfl rfl) has0)) (fun _ => by kernel_rfl) ?_
        refine takeR1 3 7 [true, true, true, true, false, false, true, true, true, false, false, false, false, false] rfl rfl (by kernel_rfl) (fun _ d _ _ _ h => by cases d <;> exact h) (fun _ h => by first | exact h | exact h.tail | exact h.tail.tail | exact h.tail.tail.tail | exact h.tail.tail.tail.tail) (idxY 22 (.tmp 51) (.tmp 52) sb so c.plans.l.length c.plans.c i 1 26 (i : Int) .i64 (some 53) (fun _ => by kernel_rfl) (by kernel_rfl) (by kernel_rfl) (fun _ => by kernel_rfl) (fun _ => by kernel_rfl) Try.underlying22 (by kernel_rfl) (by first | rfl | assumption | simp) (by first | omega | (simp; done) | (simp; omega) | (simp at *; omega))) ?_
        refine takesR [4, 5, 9, 10] [1, 2, 3, 4, 60] 3 [true, true, true, true, true, true, true, true, true, true, true, false, false, false] [(1, .pointer (some ⟨b1, 0, none⟩)), (2, .bool false), (3, .int .i64 (i : Int)), (4, .bool ((p.l).any fun x => decide (x > 0))), (60, .bool ((p.l.length : Int) != (c.domains.l.length : Int)))] [(⟨sb, so + i * 1, none⟩, .slice p.a p.l.length p.c)] rfl (fun _ d _ _ _ h => by cases d <;> exact h) (fun _ h => by first | exact h | exact h.tail | exact h.tail.tail | exact h.tail.tail.tail | exact h.tail.tail.tail.tail) (hasC (up (hk.plans.cell hA (i := i) (x := p) hp (j := 0) rfl)) has0) (fun _ => by kernel_rfl) ?_
        cases h3 : ((p.l.length : Int) != (c.domains.l.length : Int)) with
        | true =>
          refine takesR [11, 12, 13] [1, 2, 3, 63] 0 [true, true, true, true, true, true, true, true, true, true, true, true, true, true] [(1, .pointer (some ⟨b1, 0, none⟩)), (2, .bool false), (3, .int .i64 (i : Int)), (63, .bool true)] [] rfl (fun _ d _ _ _ h => by cases d <;> exact h) (fun _ h => by first | exact h | exact h.tail | exact h.tail.tail | exact h.tail.tail.tail | exact h.tail.tail.tail.tail) has0 (fun _ => by kernel_rfl) ?_
          refine drawnR (by kernel_rfl) ?_
          refine condR (b := true) (by kernel_rfl) (fun _ => by kernel_rfl) (fun _ => ?_) (fun h => by cases h)
          refine seqR (by kernel_rfl) ?_
          refine regionR 1 (by kernel_rfl) (by kernel_rfl) ?_
          refine (run0 (z := 0) 1 [1, 2, 3] [(1, .pointer (some ⟨b1, 0, none⟩)), (2, .bool false), (3, .int .i64 (i : Int))] (fun _ => by kernel_rfl) (endR ?_) : RT _ _ _ _ _ _ 1 _)
          refine retR (by kernel_rfl) ?_
          refine blockV ?_
          refine thenV ?_
          refine thenV ?_
          refine blockV ?_
          refine thenV ?_
          refine done0 (.bool false) (fun _ => by kernel_rfl) (fun w hs => ?_) .ret (.inr rfl)
          exact ⟨(), by rw [hbad (by rw [rplanOk, h3]; simp)], hs.tail⟩
        | false =>
          refine takesR [11, 12, 13] [1, 2, 3, 63] 0 [true, true, true, true, true, true, true, true, true, true, true, true, true, true] [(1, .pointer (some ⟨b1, 0, none⟩)), (2, .bool false), (3, .int .i64 (i : Int)), (63, .bool (!((p.l).any fun x => decide (x > 0))))] [] rfl (fun _ d _ _ _ h => by cases d <;> exact h) (fun _ h => by first | exact h | exact h.tail | exact h.tail.tail | exact h.tail.tail.tail | exact h.tail.tail.tail.tail) has0 (fun _ => by kernel_rfl) ?_
          refine drawnR (by kernel_rfl) ?_
          refine condR (b := !((p.l).any fun x => decide (x > 0))) (by kernel_rfl) (fun _ => by kernel_rfl) (fun h4 => ?_) (fun h4 => ?_)
          · skip
            refine seqR (by kernel_rfl) ?_
            refine regionR 1 (by kernel_rfl) (by kernel_rfl) ?_
            refine (run0 (z := 0) 1 [1, 2, 3] [(1, .pointer (some ⟨b1, 0, none⟩)), (2, .bool false), (3, .int .i64 (i : Int))] (fun _ => by kernel_rfl) (endR ?_) : RT _ _ _ _ _ _ 1 _)
            refine retR (by kernel_rfl) ?_
            refine blockV ?_
            refine thenV ?_
            refine thenV ?_
            refine blockV ?_
            refine thenV ?_
            refine done0 (.bool false) (fun _ => by kernel_rfl) (fun w hs => ?_) .ret (.inr rfl)
            exact ⟨(), by rw [hbad (by simp only [Bool.not_eq_true'] at h4; rw [rplanOk, h3, h4]; simp)], hs.tail⟩
          · skip
            refine skipR (by kernel_rfl) ?_
            refine regionR 3 (by kernel_rfl) (by kernel_rfl) ?_
            refine (run0 (z := 0) 3 [1, 2, 3] [(1, .pointer (some ⟨b1, 0, none⟩)), (2, .bool false), (3, .int .i64 (IntKind.i64.wrap ((i : Int) + 1)))] (fun _ => by kernel_rfl) (endR ?_) : RT _ _ _ _ _ _ 3 _)
            have ht1 : (c.plans.l.take (i + 1)) = c.plans.l.take i ++ [p] := by rw [List.take_add_one, hp]; rfl
            have hok : rplanOk c.domains.l.length p.l = true := by simp only [Bool.not_eq_false'] at h4; rw [rplanOk, h3, hal2, h4]; rfl
            try rw [← hA]
            refine PT.keep (L' := [(1, .pointer (some ⟨b1, 0, none⟩)), (2, .bool false), (3, .int .i64 (IntKind.i64.wrap ((i : Int) + 1)))]) [1, 2, 3] rfl ?_
            exact againG (k - 1) (i + 1) (by rw [hw]) rfl (by omega) ⟨by omega, by rw [ht1, List.all_append, hall]; simp only [List.all_cons, List.all_nil, hok, Bool.and_self]⟩
    · skip
      have hi : i = c.plans.l.length := by have := of_decide_eq_false h; omega
      rw [hi, List.take_length] at hall
      refine exitR 0 (by kernel_rfl) (by kernel_rfl) ?_
      refine thenX ?_
      refine thenX ?_
      refine leaveR ?_
      refine seqR (by kernel_rfl) ?_
      refine regionR 1 (by kernel_rfl) (by kernel_rfl) ?_
      refine (run0 (z := 0) 1 [2] [(2, .bool true)] (fun _ => by kernel_rfl) (endR ?_) : RT _ _ _ _ _ _ 1 _)
      refine retR (by kernel_rfl) ?_
      refine done0 (.bool true) (fun _ => by kernel_rfl) (fun w hs => ?_) .ret (.inr rfl)
      exact ⟨(), by simp only [rsharesOk, hin, hall]; rfl, hs.tail⟩
  | false =>
    refine condR (b := true) (by kernel_rfl) (fun _ => by kernel_rfl) (fun _ => ?_) (fun h => by cases h)
    refine seqR (by kernel_rfl) ?_
    refine regionR 1 (by kernel_rfl) (by kernel_rfl) ?_
    refine (run0 (z := 0) 1 [1, 2] [(1, .pointer (some ⟨b1, 0, none⟩)), (2, .bool false)] (fun _ => by kernel_rfl) (endR ?_) : RT _ _ _ _ _ _ 1 _)
    refine retR (by kernel_rfl) ?_
    refine thenV ?_
    refine done0 (.bool false) (fun _ => by kernel_rfl) (fun w hs => ?_) .ret (.inr rfl)
    exact ⟨(), by simp only [rsharesOk, hin]; rfl, hs.tail⟩
end Go.Proofs.Ytjjbnmlhbbnhcaa
