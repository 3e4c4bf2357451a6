/- tontinehelp.WideConf: its walk: who is let in is small. Conditions: none. -/
import Derived.Test.YtjjbnmlhbbnhcaaCf5
set_option linter.unusedVariables false
set_option linter.unusedSimpArgs false
namespace Go.Proofs.Ytjjbnmlhbbnhcaa
open Go.RowKit G
set_option maxHeartbeats 1000000 in
set_option maxRecDepth 100000 in
theorem wide_walk (H : List SP) (c : ConfV) (hk : KC H c) : ∀ w, Sat w H → Calls Try.prog 8 #[.agg #[.int .i64 c.frame, .int .i64 c.epoch, .slice c.plans.a c.plans.l.length c.plans.c, .slice c.domains.a c.domains.l.length c.domains.c]] w (Ret (ι := {b : Bool // b = false → SmallC c}) (fun b => .bool b.1) fun _ => H) := by
  refine enterG (fn := Try.f8) 77 [.agg #[.int .i64 c.frame, .int .i64 c.epoch, .slice c.plans.a c.plans.l.length c.plans.c, .slice c.domains.a c.domains.l.length c.domains.c]] Try.func8 (by kernel_rfl) (by kernel_rfl) (by kernel_rfl) ?_
  refine seqR (by kernel_rfl) ?_
  refine regionR 2 (by kernel_rfl) (by kernel_rfl) ?_
  refine (stepR (z := 1) (newS 25 [.int .i64 c.frame, .int .i64 c.epoch, .slice c.plans.a c.plans.l.length c.plans.c, .slice c.domains.a c.domains.l.length c.domains.c] (some 1) (fun b => .pointer (some ⟨b, 0, none⟩)) (fun _ _ => by kernel_rfl)) (fun b1 => ?_) : RT _ _ _ _ _ _ 2 _)
  refine (run0 (z := 0) 1 [1, 2] [(1, .pointer (some ⟨b1, 0, none⟩)), (2, .bool false)] (fun _ => by kernel_rfl) (endR ?_) : RT _ _ _ _ _ _ 1 _)
  refine seqR (by kernel_rfl) ?_
  refine seqR (by kernel_rfl) ?_
  refine regionR 10 (by kernel_rfl) (by kernel_rfl) ?_
  refine (runR (H := (blk b1 25 [.int .i64 c.frame, .int .i64 c.epoch, .slice c.plans.a c.plans.l.length c.plans.c, .slice c.domains.a c.domains.l.length c.domains.c] :: H)) (z := 5) 5 [1, 2, 10] [(1, .pointer (some ⟨b1, 0, none⟩)), (2, .bool false), (10, .bool (decide ((c.domains.l.length : Int) > 10)))] [(⟨b1, 3, none⟩, .slice c.domains.a c.domains.l.length c.domains.c)] (hasC (blkAt (T := 25) (cs := [.int .i64 c.frame, .int .i64 c.epoch, .slice c.plans.a c.plans.l.length c.plans.c, .slice c.domains.a c.domains.l.length c.domains.c]) 0 rfl rfl) has0) (fun _ => by kernel_rfl) ?_ : RT _ _ _ _ _ _ 10 _)
  refine (segR (ι := Unit) (z := 0) 5 (fun _ => [(1, .pointer (some ⟨b1, 0, none⟩)), (2, .bool false), (15, .bool ((decide ((c.domains.l.length : Int) > 10)) || (decide ((c.plans.l.length : Int) > 10))))]) (fun _ => (blk b1 25 [.int .i64 c.frame, .int .i64 c.epoch, .slice c.plans.a c.plans.l.length c.plans.c, .slice c.domains.a c.domains.l.length c.domains.c] :: H)) ?_ (fun _ => ?_) : RT _ _ _ _ _ _ 5 _)
  · cases hg5 : (decide ((c.domains.l.length : Int) > 10)) with
    | true =>
      refine (run0 (z := 0) 5 [1, 2, 15] [(1, .pointer (some ⟨b1, 0, none⟩)), (2, .bool false), (15, .bool true)] (fun _ => by kernel_rfl) (endR ?_) : RT _ _ _ _ _ _ 5 _)
      refine PT.keep (L' := [(1, .pointer (some ⟨b1, 0, none⟩)), (2, .bool false), (15, .bool (true || (decide ((c.plans.l.length : Int) > 10))))]) [1, 2, 15] rfl ?_
      exact midR () rfl rfl
    | false =>
      refine (runR (H := (blk b1 25 [.int .i64 c.frame, .int .i64 c.epoch, .slice c.plans.a c.plans.l.length c.plans.c, .slice c.domains.a c.domains.l.length c.domains.c] :: H)) (z := 0) 5 [1, 2, 15] [(1, .pointer (some ⟨b1, 0, none⟩)), (2, .bool false), (15, .bool (decide ((c.plans.l.length : Int) > 10)))] [(⟨b1, 2, none⟩, .slice c.plans.a c.plans.l.length c.plans.c)] (hasC (blkAt (T := 25) (cs := [.int .i64 c.frame, .int .i64 c.epoch, .slice c.plans.a c.plans.l.length c.plans.c, .slice c.domains.a c.domains.l.length c.domains.c]) 0 rfl rfl) has0) (fun _ => by kernel_rfl) (endR ?_) : RT _ _ _ _ _ _ 5 _)
      refine PT.keep (L' := [(1, .pointer (some ⟨b1, 0, none⟩)), (2, .bool false), (15, .bool (false || (decide ((c.plans.l.length : Int) > 10))))]) [1, 2, 15] rfl ?_
      exact midR () rfl rfl
  refine endR ?_
  refine condR (b := (decide ((c.domains.l.length : Int) > 10)) || (decide ((c.plans.l.length : Int) > 10))) (by kernel_rfl) (fun _ => by kernel_rfl) (fun hb => ?_) (fun hb => ?_)
  · skip
    refine seqR (by kernel_rfl) ?_
    refine regionR 1 (by kernel_rfl) (by kernel_rfl) ?_
    refine (run0 (z := 0) 1 [1, 2] [(1, .pointer (some ⟨b1, 0, none⟩)), (2, .bool true)] (fun _ => by kernel_rfl) (endR ?_) : RT _ _ _ _ _ _ 1 _)
    refine retR (by kernel_rfl) ?_
    refine thenV ?_
    refine done0 (.bool true) (fun _ => by kernel_rfl) (fun w hs => ?_) .ret (.inr rfl)
    exact ⟨⟨true, by simp⟩, rfl, hs.tail⟩
  · skip
    have hb2 := hb
    simp only [Bool.or_eq_false_iff, decide_eq_false_iff_not] at hb2
    refine skipR (by kernel_rfl) ?_
    refine seqR (by kernel_rfl) ?_
    refine seqR (by kernel_rfl) ?_
    refine regionR 1 (by kernel_rfl) (by kernel_rfl) ?_
    refine (run0 (z := 0) 1 [1, 2, 3] [(1, .pointer (some ⟨b1, 0, none⟩)), (2, .bool false), (3, .int .i64 0)] (fun _ => by kernel_rfl) (endR ?_) : RT _ _ _ _ _ _ 1 _)
    refine blockR 0 (by kernel_rfl) (by kernel_rfl) ?_
    refine PT.keep (L' := [(1, .pointer (some ⟨b1, 0, none⟩)), (2, .bool false), (3, .int .i64 0)]) [1, 2, 3] rfl ?_
    refine loopG (fun (u : Nat) => [(1, .pointer (some ⟨b1, 0, none⟩)), (2, .bool false), (3, .int .i64 (u : Int))]) (fun (u : Nat) => (blk b1 25 [.int .i64 c.frame, .int .i64 c.epoch, .slice c.plans.a c.plans.l.length c.plans.c, .slice c.domains.a c.domains.l.length c.domains.c] :: H)) (fun k (u : Nat) => k + u = c.plans.l.length ∧ ∀ p ∈ c.plans.l.take u, p.l.length ≤ 20) c.plans.l.length 0 (by kernel_rfl) ⟨by omega, by simp⟩ ?_
    rintro k u ⟨hku, hall⟩
    have hw : IntKind.i64.wrap ((u : Int) + 1) = ((u + 1 : Nat) : Int) := by rw [IntKind.wrap_i64]; omega
    refine seqR (by kernel_rfl) ?_
    refine seqR (by kernel_rfl) ?_
    refine regionR 5 (by kernel_rfl) (by kernel_rfl) ?_
    refine (runR (H := (blk b1 25 [.int .i64 c.frame, .int .i64 c.epoch, .slice c.plans.a c.plans.l.length c.plans.c, .slice c.domains.a c.domains.l.length c.domains.c] :: H)) (z := 0) 5 [1, 2, 3, 20] [(1, .pointer (some ⟨b1, 0, none⟩)), (2, .bool false), (3, .int .i64 (u : Int)), (20, .bool (decide ((u : Int) < (c.plans.l.length : Int))))] [(⟨b1, 2, none⟩, .slice c.plans.a c.plans.l.length c.plans.c)] (hasC (blkAt (T := 25) (cs := [.int .i64 c.frame, .int .i64 c.epoch, .slice c.plans.a c.plans.l.length c.plans.c, .slice c.domains.a c.domains.l.length c.domains.c]) 0 rfl rfl) has0) (fun _ => by kernel_rfl) (endR ?_) : RT _ _ _ _ _ _ 5 _)
    refine condR (b := decide ((u : Int) < (c.plans.l.length : Int))) (by kernel_rfl) (fun _ => by kernel_rfl) (fun h => ?_) (fun h => ?_)
    · skip
      have hu : u < c.plans.l.length := by have := of_decide_eq_true h; omega
      obtain ⟨p, hp⟩ : ∃ p, c.plans.l[u]? = some p := ⟨_, by simp [hu]; rfl⟩
      have ht : c.plans.l.take (u + 1) = c.plans.l.take u ++ [p] := by rw [List.take_add_one, hp]; rfl
      refine PT.know ((hk.plans).up.isSome (List.ne_nil_of_length_pos (by omega))) ?_
      rintro ⟨sb, so, hA⟩
      try rw [hA]
      refine skipR (by kernel_rfl) ?_
      refine seqR (by kernel_rfl) ?_
      refine blockR 1 (by kernel_rfl) (by kernel_rfl) ?_
      refine seqR (by kernel_rfl) ?_
      refine regionR 7 (by kernel_rfl) (by kernel_rfl) ?_
      refine (runR (H := (blk b1 25 [.int .i64 c.frame, .int .i64 c.epoch, .slice (some ⟨sb, so, none⟩) c.plans.l.length c.plans.c, .slice c.domains.a c.domains.l.length c.domains.c] :: H)) (z := 4) 3 [1, 2, 3, 24, 25] [(1, .pointer (some ⟨b1, 0, none⟩)), (2, .bool false), (3, .int .i64 (u : Int)), (24, .slice (some ⟨sb, so, none⟩) c.plans.l.length c.plans.c), (25, .int .i64 (u : Int))] [(⟨b1, 2, none⟩, .slice (some ⟨sb, so, none⟩) c.plans.l.length c.plans.c)] (hasC (blkAt (T := 25) (cs := [.int .i64 c.frame, .int .i64 c.epoch, .slice (some ⟨sb, so, none⟩) c.plans.l.length c.plans.c, .slice c.domains.a c.domains.l.length c.domains.c]) 0 rfl rfl) has0) (fun _ => by kernel_rfl) ?_ : RT _ _ _ _ _ _ 7 _)
      refine (stepR (z := 3) (yldS (idxY 22 (.tmp 24) (.tmp 25) sb so c.plans.l.length c.plans.c u 1 26 (u : Int) .i64 (some 26) (fun _ => by kernel_rfl) (by kernel_rfl) (by kernel_rfl) (fun _ => by kernel_rfl) (fun _ => by kernel_rfl) Try.underlying22 (by kernel_rfl) (by first | rfl | assumption | simp) (by first | omega | (simp; done) | (simp; omega) | (simp at *; omega)))) (fun _ => ?_) : RT _ _ _ _ _ _ 4 _)
      refine (runR (H := (blk b1 25 [.int .i64 c.frame, .int .i64 c.epoch, .slice (some ⟨sb, so, none⟩) c.plans.l.length c.plans.c, .slice c.domains.a c.domains.l.length c.domains.c] :: H)) (z := 0) 3 [1, 2, 3, 29] [(1, .pointer (some ⟨b1, 0, none⟩)), (2, .bool false), (3, .int .i64 (u : Int)), (29, .bool (decide ((p.l.length : Int) > 20)))] [(⟨sb, so + u * 1, none⟩, .slice p.a p.l.length p.c)] (hasC (up (hk.plans.cell hA (i := u) (x := p) hp (j := 0) rfl)) has0) (fun _ => by kernel_rfl) (endR ?_) : RT _ _ _ _ _ _ 3 _)
      try rw [← hA]
      refine condR (b := decide ((p.l.length : Int) > 20)) (by kernel_rfl) (fun _ => by kernel_rfl) (fun h2 => ?_) (fun h2 => ?_)
      · skip
        refine seqR (by kernel_rfl) ?_
        refine regionR 1 (by kernel_rfl) (by kernel_rfl) ?_
        refine (run0 (z := 0) 1 [1, 2, 3] [(1, .pointer (some ⟨b1, 0, none⟩)), (2, .bool true), (3, .int .i64 (u : Int))] (fun _ => by kernel_rfl) (endR ?_) : RT _ _ _ _ _ _ 1 _)
        refine retR (by kernel_rfl) ?_
        refine blockV ?_
        refine thenV ?_
        refine thenV ?_
        refine blockV ?_
        refine thenV ?_
        refine done0 (.bool true) (fun _ => by kernel_rfl) (fun w hs => ?_) .ret (.inr rfl)
        exact ⟨⟨true, by simp⟩, rfl, hs.tail⟩
      · skip
        refine skipR (by kernel_rfl) ?_
        refine regionR 3 (by kernel_rfl) (by kernel_rfl) ?_
        refine (run0 (z := 0) 3 [1, 2, 3] [(1, .pointer (some ⟨b1, 0, none⟩)), (2, .bool false), (3, .int .i64 (IntKind.i64.wrap ((u : Int) + 1)))] (fun _ => by kernel_rfl) (endR ?_) : RT _ _ _ _ _ _ 3 _)
        have hpl : p.l.length ≤ 20 := by have := of_decide_eq_false h2; omega
        refine PT.keep (L' := [(1, .pointer (some ⟨b1, 0, none⟩)), (2, .bool false), (3, .int .i64 (IntKind.i64.wrap ((u : Int) + 1)))]) [1, 2, 3] rfl ?_
        exact againG (k - 1) (u + 1) (by rw [hw]) rfl (by omega) ⟨by omega, by rw [ht]; intro q hq; rcases List.mem_append.1 hq with hq | hq; exact hall q hq; simp only [List.mem_singleton] at hq; subst hq; exact hpl⟩
    · skip
      have hu : u = c.plans.l.length := by have := of_decide_eq_false h; omega
      rw [hu, List.take_length] at hall
      refine exitR 0 (by kernel_rfl) (by kernel_rfl) ?_
      refine thenX ?_
      refine thenX ?_
      refine leaveR ?_
      refine seqR (by kernel_rfl) ?_
      refine seqR (by kernel_rfl) ?_
      refine regionR 1 (by kernel_rfl) (by kernel_rfl) ?_
      refine (run0 (z := 0) 1 [1, 2, 4] [(1, .pointer (some ⟨b1, 0, none⟩)), (2, .bool false), (4, .int .i64 0)] (fun _ => by kernel_rfl) (endR ?_) : RT _ _ _ _ _ _ 1 _)
      refine blockR 2 (by kernel_rfl) (by kernel_rfl) ?_
      refine PT.keep (L' := [(1, .pointer (some ⟨b1, 0, none⟩)), (2, .bool false), (4, .int .i64 0)]) [1, 2, 4] rfl ?_
      refine loopG (fun (v : Nat) => [(1, .pointer (some ⟨b1, 0, none⟩)), (2, .bool false), (4, .int .i64 (v : Int))]) (fun (v : Nat) => (blk b1 25 [.int .i64 c.frame, .int .i64 c.epoch, .slice c.plans.a c.plans.l.length c.plans.c, .slice c.domains.a c.domains.l.length c.domains.c] :: H)) (fun k (v : Nat) => k + v = c.domains.l.length ∧ ∀ d ∈ c.domains.l.take v, d.routes.l.length ≤ 10 ∧ d.release.l.length ≤ 10 ∧ ∀ r ∈ d.routes.l, r.l.length ≤ 20) c.domains.l.length 0 (by kernel_rfl) ⟨by omega, by simp⟩ ?_
      rintro k2 v ⟨hkv, hal2⟩
      have hw2 : IntKind.i64.wrap ((v : Int) + 1) = ((v + 1 : Nat) : Int) := by rw [IntKind.wrap_i64]; omega
      refine seqR (by kernel_rfl) ?_
      refine seqR (by kernel_rfl) ?_
      refine regionR 5 (by kernel_rfl) (by kernel_rfl) ?_
      refine (runR (H := (blk b1 25 [.int .i64 c.frame, .int .i64 c.epoch, .slice c.plans.a c.plans.l.length c.plans.c, .slice c.domains.a c.domains.l.length c.domains.c] :: H)) (z := 0) 5 [1, 2, 4, 34] [(1, .pointer (some ⟨b1, 0, none⟩)), (2, .bool false), (4, .int .i64 (v : Int)), (34, .bool (decide ((v : Int) < (c.domains.l.length : Int))))] [(⟨b1, 3, none⟩, .slice c.domains.a c.domains.l.length c.domains.c)] (hasC (blkAt (T := 25) (cs := [.int .i64 c.frame, .int .i64 c.epoch, .slice c.plans.a c.plans.l.length c.plans.c, .slice c.domains.a c.domains.l.length c.domains.c]) 0 rfl rfl) has0) (fun _ => by kernel_rfl) (endR ?_) : RT _ _ _ _ _ _ 5 _)
      refine condR (b := decide ((v : Int) < (c.domains.l.length : Int))) (by kernel_rfl) (fun _ => by kernel_rfl) (fun h2 => ?_) (fun h2 => ?_)
      · skip
        have hv : v < c.domains.l.length := by have := of_decide_eq_true h2; omega
        obtain ⟨d, hd⟩ : ∃ d, c.domains.l[v]? = some d := ⟨_, by simp [hv]; rfl⟩
        have hdm : d ∈ c.domains.l := List.mem_of_getElem? hd
        have ht : c.domains.l.take (v + 1) = c.domains.l.take v ++ [d] := by rw [List.take_add_one, hd]; rfl
        refine PT.know ((hk.domains).up.isSome (List.ne_nil_of_length_pos (by omega))) ?_
        rintro ⟨db, dd, hB⟩
        try rw [hB]
        refine skipR (by kernel_rfl) ?_
        refine seqR (by kernel_rfl) ?_
        refine blockR 3 (by kernel_rfl) (by kernel_rfl) ?_
        refine seqR (by kernel_rfl) ?_
        refine seqR (by kernel_rfl) ?_
        refine regionR 18 (by kernel_rfl) (by kernel_rfl) ?_
        refine (runR (H := (blk b1 25 [.int .i64 c.frame, .int .i64 c.epoch, .slice c.plans.a c.plans.l.length c.plans.c, .slice (some ⟨db, dd, none⟩) c.domains.l.length c.domains.c] :: H)) (z := 15) 3 [1, 2, 4, 38, 39] [(1, .pointer (some ⟨b1, 0, none⟩)), (2, .bool false), (4, .int .i64 (v : Int)), (38, .slice (some ⟨db, dd, none⟩) c.domains.l.length c.domains.c), (39, .int .i64 (v : Int))] [(⟨b1, 3, none⟩, .slice (some ⟨db, dd, none⟩) c.domains.l.length c.domains.c)] (hasC (blkAt (T := 25) (cs := [.int .i64 c.frame, .int .i64 c.epoch, .slice c.plans.a c.plans.l.length c.plans.c, .slice (some ⟨db, dd, none⟩) c.domains.l.length c.domains.c]) 0 rfl rfl) has0) (fun _ => by kernel_rfl) ?_ : RT _ _ _ _ _ _ 18 _)
        refine (stepR (z := 14) (yldS (idxY 23 (.tmp 38) (.tmp 39) db dd c.domains.l.length c.domains.c v 10 46 (v : Int) .i64 (some 40) (fun _ => by kernel_rfl) (by kernel_rfl) (by kernel_rfl) (fun _ => by kernel_rfl) (fun _ => by kernel_rfl) Try.underlying23 (by kernel_rfl) (by first | rfl | assumption | simp) (by first | omega | (simp; done) | (simp; omega) | (simp at *; omega)))) (fun _ => ?_) : RT _ _ _ _ _ _ 15 _)
        refine (runR (H := (blk b1 25 [.int .i64 c.frame, .int .i64 c.epoch, .slice c.plans.a c.plans.l.length c.plans.c, .slice (some ⟨db, dd, none⟩) c.domains.l.length c.domains.c] :: H)) (z := 9) 5 [1, 2, 4, 45] [(1, .pointer (some ⟨b1, 0, none⟩)), (2, .bool false), (4, .int .i64 (v : Int)), (45, .bool (decide ((d.routes.l.length : Int) > 10)))] [(⟨db, dd + v * 10 + 2, none⟩, .slice d.routes.a d.routes.l.length d.routes.c)] (hasC (up (hk.domains.cell hB (i := v) (x := d) hd (j := 2) rfl)) has0) (fun _ => by kernel_rfl) ?_ : RT _ _ _ _ _ _ 14 _)
        refine (segR (ι := Unit) (z := 0) 9 (fun _ => [(1, .pointer (some ⟨b1, 0, none⟩)), (2, .bool false), (4, .int .i64 (v : Int)), (54, .bool ((decide ((d.routes.l.length : Int) > 10)) || (decide ((d.release.l.length : Int) > 10))))]) (fun _ => (blk b1 25 [.int .i64 c.frame, .int .i64 c.epoch, .slice c.plans.a c.plans.l.length c.plans.c, .slice (some ⟨db, dd, none⟩) c.domains.l.length c.domains.c] :: H)) ?_ (fun _ => ?_) : RT _ _ _ _ _ _ 9 _)
        · cases hg9 : (decide ((d.routes.l.length : Int) > 10)) with
          | true =>
            refine (run0 (z := 0) 9 [1, 2, 4, 54] [(1, .pointer (some ⟨b1, 0, none⟩)), (2, .bool false), (4, .int .i64 (v : Int)), (54, .bool true)] (fun _ => by kernel_rfl) (endR ?_) : RT _ _ _ _ _ _ 9 _)
            refine PT.keep (L' := [(1, .pointer (some ⟨b1, 0, none⟩)), (2, .bool false), (4, .int .i64 (v : Int)), (54, .bool (true || (decide ((d.release.l.length : Int) > 10))))]) [1, 2, 4, 54] rfl ?_
            exact midR () rfl rfl
          | false =>
            refine (runR (H := (blk b1 25 [.int .i64 c.frame, .int .i64 c.epoch, .slice c.plans.a c.plans.l.length c.plans.c, .slice (some ⟨db, dd, none⟩) c.domains.l.length c.domains.c] :: H)) (z := 6) 3 [1, 2, 4, 45, 47, 48] [(1, .pointer (some ⟨b1, 0, none⟩)), (2, .bool false), (4, .int .i64 (v : Int)), (45, .bool false), (47, .slice (some ⟨db, dd, none⟩) c.domains.l.length c.domains.c), (48, .int .i64 (v : Int))] [(⟨b1, 3, none⟩, .slice (some ⟨db, dd, none⟩) c.domains.l.length c.domains.c)] (hasC (blkAt (T := 25) (cs := [.int .i64 c.frame, .int .i64 c.epoch, .slice c.plans.a c.plans.l.length c.plans.c, .slice (some ⟨db, dd, none⟩) c.domains.l.length c.domains.c]) 0 rfl rfl) has0) (fun _ => by kernel_rfl) ?_ : RT _ _ _ _ _ _ 9 _)
            refine (stepR (z := 5) (yldS (idxY 23 (.tmp 47) (.tmp 48) db dd c.domains.l.length c.domains.c v 10 46 (v : Int) .i64 (some 49) (fun _ => by kernel_rfl) (by kernel_rfl) (by kernel_rfl) (fun _ => by kernel_rfl) (fun _ => by kernel_rfl) Try.underlying23 (by kernel_rfl) (by first | rfl | assumption | simp) (by first | omega | (simp; done) | (simp; omega) | (simp at *; omega)))) (fun _ => ?_) : RT _ _ _ _ _ _ 6 _)
            refine (runR (H := (blk b1 25 [.int .i64 c.frame, .int .i64 c.epoch, .slice c.plans.a c.plans.l.length c.plans.c, .slice (some ⟨db, dd, none⟩) c.domains.l.length c.domains.c] :: H)) (z := 0) 5 [1, 2, 4, 54] [(1, .pointer (some ⟨b1, 0, none⟩)), (2, .bool false), (4, .int .i64 (v : Int)), (54, .bool (decide ((d.release.l.length : Int) > 10)))] [(⟨db, dd + v * 10 + 3, none⟩, .slice d.release.a d.release.l.length d.release.c)] (hasC (up (hk.domains.cell hB (i := v) (x := d) hd (j := 3) rfl)) has0) (fun _ => by kernel_rfl) (endR ?_) : RT _ _ _ _ _ _ 5 _)
            refine PT.keep (L' := [(1, .pointer (some ⟨b1, 0, none⟩)), (2, .bool false), (4, .int .i64 (v : Int)), (54, .bool (false || (decide ((d.release.l.length : Int) > 10))))]) [1, 2, 4, 54] rfl ?_
            exact midR () rfl rfl
        refine endR ?_
        refine condR (b := (decide ((d.routes.l.length : Int) > 10)) || (decide ((d.release.l.length : Int) > 10))) (by kernel_rfl) (fun _ => by kernel_rfl) (fun h3 => ?_) (fun h3 => ?_)
        · skip
          refine seqR (by kernel_rfl) ?_
          refine regionR 1 (by kernel_rfl) (by kernel_rfl) ?_
          refine (run0 (z := 0) 1 [1, 2, 4] [(1, .pointer (some ⟨b1, 0, none⟩)), (2, .bool true), (4, .int .i64 (v : Int))] (fun _ => by kernel_rfl) (endR ?_) : RT _ _ _ _ _ _ 1 _)
          refine retR (by kernel_rfl) ?_
          refine thenV ?_
          refine blockV ?_
          refine thenV ?_
          refine thenV ?_
          refine blockV ?_
          refine thenV ?_
          refine done0 (.bool true) (fun _ => by kernel_rfl) (fun w hs => ?_) .ret (.inr rfl)
          exact ⟨⟨true, by simp⟩, rfl, hs.tail⟩
        · skip
          have hb3 := h3
          simp only [Bool.or_eq_false_iff, decide_eq_false_iff_not] at hb3
          refine skipR (by kernel_rfl) ?_
          refine seqR (by kernel_rfl) ?_
          refine regionR 1 (by kernel_rfl) (by kernel_rfl) ?_
          refine (run0 (z := 0) 1 [1, 2, 4, 5] [(1, .pointer (some ⟨b1, 0, none⟩)), (2, .bool false), (4, .int .i64 (v : Int)), (5, .int .i64 0)] (fun _ => by kernel_rfl) (endR ?_) : RT _ _ _ _ _ _ 1 _)
          refine blockR 4 (by kernel_rfl) (by kernel_rfl) ?_
          refine PT.keep (L' := [(1, .pointer (some ⟨b1, 0, none⟩)), (2, .bool false), (4, .int .i64 (v : Int)), (5, .int .i64 0)]) [1, 2, 4, 5] rfl ?_
          refine loopG (fun (m : Nat) => [(1, .pointer (some ⟨b1, 0, none⟩)), (2, .bool false), (4, .int .i64 (v : Int)), (5, .int .i64 (m : Int))]) (fun (m : Nat) => (blk b1 25 [.int .i64 c.frame, .int .i64 c.epoch, .slice c.plans.a c.plans.l.length c.plans.c, .slice (some ⟨db, dd, none⟩) c.domains.l.length c.domains.c] :: H)) (fun k (m : Nat) => k + m = d.routes.l.length ∧ ∀ r ∈ d.routes.l.take m, r.l.length ≤ 20) d.routes.l.length 0 (by kernel_rfl) ⟨by omega, by simp⟩ ?_
          rintro k3 m ⟨hkm, hal3⟩
          have hw3 : IntKind.i64.wrap ((m : Int) + 1) = ((m + 1 : Nat) : Int) := by rw [IntKind.wrap_i64]; omega
          refine seqR (by kernel_rfl) ?_
          refine seqR (by kernel_rfl) ?_
          refine regionR 9 (by kernel_rfl) (by kernel_rfl) ?_
          refine (runR (H := (blk b1 25 [.int .i64 c.frame, .int .i64 c.epoch, .slice c.plans.a c.plans.l.length c.plans.c, .slice (some ⟨db, dd, none⟩) c.domains.l.length c.domains.c] :: H)) (z := 5) 4 [1, 2, 4, 5, 55, 57, 58] [(1, .pointer (some ⟨b1, 0, none⟩)), (2, .bool false), (4, .int .i64 (v : Int)), (5, .int .i64 (m : Int)), (55, .int .i64 (m : Int)), (57, .slice (some ⟨db, dd, none⟩) c.domains.l.length c.domains.c), (58, .int .i64 (v : Int))] [(⟨b1, 3, none⟩, .slice (some ⟨db, dd, none⟩) c.domains.l.length c.domains.c)] (hasC (blkAt (T := 25) (cs := [.int .i64 c.frame, .int .i64 c.epoch, .slice c.plans.a c.plans.l.length c.plans.c, .slice (some ⟨db, dd, none⟩) c.domains.l.length c.domains.c]) 0 rfl rfl) has0) (fun _ => by kernel_rfl) ?_ : RT _ _ _ _ _ _ 9 _)
          refine (stepR (z := 4) (yldS (idxY 23 (.tmp 57) (.tmp 58) db dd c.domains.l.length c.domains.c v 10 46 (v : Int) .i64 (some 59) (fun _ => by kernel_rfl) (by kernel_rfl) (by kernel_rfl) (fun _ => by kernel_rfl) (fun _ => by kernel_rfl) Try.underlying23 (by kernel_rfl) (by first | rfl | assumption | simp) (by first | omega | (simp; done) | (simp; omega) | (simp at *; omega)))) (fun _ => ?_) : RT _ _ _ _ _ _ 5 _)
          refine (runR (H := (blk b1 25 [.int .i64 c.frame, .int .i64 c.epoch, .slice c.plans.a c.plans.l.length c.plans.c, .slice (some ⟨db, dd, none⟩) c.domains.l.length c.domains.c] :: H)) (z := 0) 4 [1, 2, 4, 5, 63] [(1, .pointer (some ⟨b1, 0, none⟩)), (2, .bool false), (4, .int .i64 (v : Int)), (5, .int .i64 (m : Int)), (63, .bool (decide ((m : Int) < (d.routes.l.length : Int))))] [(⟨db, dd + v * 10 + 2, none⟩, .slice d.routes.a d.routes.l.length d.routes.c)] (hasC (up (hk.domains.cell hB (i := v) (x := d) hd (j := 2) rfl)) has0) (fun _ => by kernel_rfl) (endR ?_) : RT _ _ _ _ _ _ 4 _)
          refine condR (b := decide ((m : Int) < (d.routes.l.length : Int))) (by kernel_rfl) (fun _ => by kernel_rfl) (fun h4 => ?_) (fun h4 => ?_)
          · skip
            have hm : m < d.routes.l.length := by have := of_decide_eq_true h4; omega
            obtain ⟨r, hr⟩ : ∃ r, d.routes.l[m]? = some r := ⟨_, by simp [hm]; rfl⟩
            have ht3 : d.routes.l.take (m + 1) = d.routes.l.take m ++ [r] := by rw [List.take_add_one, hr]; rfl
            refine PT.know (((hk.routes d hdm)).up.isSome (List.ne_nil_of_length_pos (by omega))) ?_
            rintro ⟨tb, to_, hC⟩
            try rw [hC]
            refine skipR (by kernel_rfl) ?_
            refine seqR (by kernel_rfl) ?_
            refine blockR 5 (by kernel_rfl) (by kernel_rfl) ?_
            refine seqR (by kernel_rfl) ?_
            refine regionR 11 (by kernel_rfl) (by kernel_rfl) ?_
            refine (runR (H := (blk b1 25 [.int .i64 c.frame, .int .i64 c.epoch, .slice c.plans.a c.plans.l.length c.plans.c, .slice (some ⟨db, dd, none⟩) c.domains.l.length c.domains.c] :: H)) (z := 8) 3 [1, 2, 4, 5, 67, 68] [(1, .pointer (some ⟨b1, 0, none⟩)), (2, .bool false), (4, .int .i64 (v : Int)), (5, .int .i64 (m : Int)), (67, .slice (some ⟨db, dd, none⟩) c.domains.l.length c.domains.c), (68, .int .i64 (v : Int))] [(⟨b1, 3, none⟩, .slice (some ⟨db, dd, none⟩) c.domains.l.length c.domains.c)] (hasC (blkAt (T := 25) (cs := [.int .i64 c.frame, .int .i64 c.epoch, .slice c.plans.a c.plans.l.length c.plans.c, .slice (some ⟨db, dd, none⟩) c.domains.l.length c.domains.c]) 0 rfl rfl) has0) (fun _ => by kernel_rfl) ?_ : RT _ _ _ _ _ _ 11 _)
            refine (stepR (z := 7) (yldS (idxY 23 (.tmp 67) (.tmp 68) db dd c.domains.l.length c.domains.c v 10 46 (v : Int) .i64 (some 69) (fun _ => by kernel_rfl) (by kernel_rfl) (by kernel_rfl) (fun _ => by kernel_rfl) (fun _ => by kernel_rfl) Try.underlying23 (by kernel_rfl) (by first | rfl | assumption | simp) (by first | omega | (simp; done) | (simp; omega) | (simp at *; omega)))) (fun _ => ?_) : RT _ _ _ _ _ _ 8 _)
            refine (runR (H := (blk b1 25 [.int .i64 c.frame, .int .i64 c.epoch, .slice c.plans.a c.plans.l.length c.plans.c, .slice (some ⟨db, dd, none⟩) c.domains.l.length c.domains.c] :: H)) (z := 4) 3 [1, 2, 4, 5, 71, 72] [(1, .pointer (some ⟨b1, 0, none⟩)), (2, .bool false), (4, .int .i64 (v : Int)), (5, .int .i64 (m : Int)), (71, .slice (some ⟨tb, to_, none⟩) d.routes.l.length d.routes.c), (72, .int .i64 (m : Int))] [(⟨db, dd + v * 10 + 2, none⟩, .slice (some ⟨tb, to_, none⟩) d.routes.l.length d.routes.c)] (hasC (up ((by have hh := hk.domains.cell hB (i := v) (x := d) hd (j := 2) rfl; rw [hC] at hh; exact hh))) has0) (fun _ => by kernel_rfl) ?_ : RT _ _ _ _ _ _ 7 _)
            refine (stepR (z := 3) (yldS (idxY 22 (.tmp 71) (.tmp 72) tb to_ d.routes.l.length d.routes.c m 1 26 (m : Int) .i64 (some 73) (fun _ => by kernel_rfl) (by kernel_rfl) (by kernel_rfl) (fun _ => by kernel_rfl) (fun _ => by kernel_rfl) Try.underlying22 (by kernel_rfl) (by first | rfl | assumption | simp) (by first | omega | (simp; done) | (simp; omega) | (simp at *; omega)))) (fun _ => ?_) : RT _ _ _ _ _ _ 4 _)
            refine (runR (H := (blk b1 25 [.int .i64 c.frame, .int .i64 c.epoch, .slice c.plans.a c.plans.l.length c.plans.c, .slice (some ⟨db, dd, none⟩) c.domains.l.length c.domains.c] :: H)) (z := 0) 3 [1, 2, 4, 5, 76] [(1, .pointer (some ⟨b1, 0, none⟩)), (2, .bool false), (4, .int .i64 (v : Int)), (5, .int .i64 (m : Int)), (76, .bool (decide ((r.l.length : Int) > 20)))] [(⟨tb, to_ + m * 1, none⟩, .slice r.a r.l.length r.c)] (hasC (up ((hk.routes d hdm).cell hC (i := m) (x := r) hr (j := 0) rfl)) has0) (fun _ => by kernel_rfl) (endR ?_) : RT _ _ _ _ _ _ 3 _)
            try rw [← hC]
            refine condR (b := decide ((r.l.length : Int) > 20)) (by kernel_rfl) (fun _ => by kernel_rfl) (fun h5 => ?_) (fun h5 => ?_)
            · skip
              refine seqR (by kernel_rfl) ?_
              refine regionR 1 (by kernel_rfl) (by kernel_rfl) ?_
              refine (run0 (z := 0) 1 [1, 2, 4, 5] [(1, .pointer (some ⟨b1, 0, none⟩)), (2, .bool true), (4, .int .i64 (v : Int)), (5, .int .i64 (m : Int))] (fun _ => by kernel_rfl) (endR ?_) : RT _ _ _ _ _ _ 1 _)
              refine retR (by kernel_rfl) ?_
              refine blockV ?_
              refine thenV ?_
              refine thenV ?_
              refine blockV ?_
              refine blockV ?_
              refine thenV ?_
              refine thenV ?_
              refine blockV ?_
              refine thenV ?_
              refine done0 (.bool true) (fun _ => by kernel_rfl) (fun w hs => ?_) .ret (.inr rfl)
              exact ⟨⟨true, by simp⟩, rfl, hs.tail⟩
            · skip
              refine skipR (by kernel_rfl) ?_
              refine regionR 3 (by kernel_rfl) (by kernel_rfl) ?_
              refine (run0 (z := 0) 3 [1, 2, 4, 5] [(1, .pointer (some ⟨b1, 0, none⟩)), (2, .bool false), (4, .int .i64 (v : Int)), (5, .int .i64 (IntKind.i64.wrap ((m : Int) + 1)))] (fun _ => by kernel_rfl) (endR ?_) : RT _ _ _ _ _ _ 3 _)
              have hrl : r.l.length ≤ 20 := by have := of_decide_eq_false h5; omega
              refine PT.keep (L' := [(1, .pointer (some ⟨b1, 0, none⟩)), (2, .bool false), (4, .int .i64 (v : Int)), (5, .int .i64 (IntKind.i64.wrap ((m : Int) + 1)))]) [1, 2, 4, 5] rfl ?_
              exact againG (k3 - 1) (m + 1) (by rw [hw3]) rfl (by omega) ⟨by omega, by rw [ht3]; intro q hq; rcases List.mem_append.1 hq with hq | hq; exact hal3 q hq; simp only [List.mem_singleton] at hq; subst hq; exact hrl⟩
          · skip
            have hm : m = d.routes.l.length := by have := of_decide_eq_false h4; omega
            rw [hm, List.take_length] at hal3
            try rw [← hB]
            refine exitR 4 (by kernel_rfl) (by kernel_rfl) ?_
            refine thenX ?_
            refine thenX ?_
            refine leaveR ?_
            refine regionR 3 (by kernel_rfl) (by kernel_rfl) ?_
            refine (run0 (z := 0) 3 [1, 2, 4] [(1, .pointer (some ⟨b1, 0, none⟩)), (2, .bool false), (4, .int .i64 (IntKind.i64.wrap ((v : Int) + 1)))] (fun _ => by kernel_rfl) (endR ?_) : RT _ _ _ _ _ _ 3 _)
            refine PT.keep (L' := [(1, .pointer (some ⟨b1, 0, none⟩)), (2, .bool false), (4, .int .i64 (IntKind.i64.wrap ((v : Int) + 1)))]) [1, 2, 4] rfl ?_
            exact againG (k2 - 1) (v + 1) (by rw [hw2]) rfl (by omega) ⟨by omega, by rw [ht]; intro q hq; rcases List.mem_append.1 hq with hq | hq; exact hal2 q hq; simp only [List.mem_singleton] at hq; subst hq; exact ⟨by omega, by omega, hal3⟩⟩
      · skip
        have hv : v = c.domains.l.length := by have := of_decide_eq_false h2; omega
        rw [hv, List.take_length] at hal2
        refine exitR 2 (by kernel_rfl) (by kernel_rfl) ?_
        refine thenX ?_
        refine thenX ?_
        refine leaveR ?_
        refine seqR (by kernel_rfl) ?_
        refine regionR 1 (by kernel_rfl) (by kernel_rfl) ?_
        refine (run0 (z := 0) 1 [2] [(2, .bool false)] (fun _ => by kernel_rfl) (endR ?_) : RT _ _ _ _ _ _ 1 _)
        refine retR (by kernel_rfl) ?_
        refine done0 (.bool false) (fun _ => by kernel_rfl) (fun w hs => ?_) .ret (.inr rfl)
        exact ⟨⟨false, fun _ => ⟨by omega, by omega, hall, fun d hd => (hal2 d hd).1, fun d hd => (hal2 d hd).2.1, fun d hd => (hal2 d hd).2.2⟩⟩, rfl, hs.tail⟩
end Go.Proofs.Ytjjbnmlhbbnhcaa
