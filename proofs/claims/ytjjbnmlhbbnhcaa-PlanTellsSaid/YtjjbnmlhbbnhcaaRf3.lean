/- tontineref1.routes: its walk. Conditions: none. -/
import Derived.Test.YtjjbnmlhbbnhcaaRf2
set_option linter.unusedVariables false
set_option linter.unusedSimpArgs false
namespace Go.Proofs.Ytjjbnmlhbbnhcaa
open Go.RowKit G
def rrisesOk (c : ConfV) (d : DomV) (r : List Int) : Bool := r.all (isDom c) && !((((lbs c d r).length : Int) == 1) || !chainOk (lbs c d r))
def rroutesOk (c : ConfV) (i : Int) (d : DomV) : Bool :=
  if (((((decide ((d.routes.l.length : Int) > 3)) || (decide (d.to < -1))) || (decide (d.to ≥ (c.domains.l.length : Int)))) || (d.to == i)) || ((d.to == -1) && (decide ((d.release.l.length : Int) > 0)))) = true then false else
  if (d.routes.l.all fun r => rrisesOk c d r.l) = false then false else
  if (d.to == -1) = true then true else
  if (d.release.l.all fun x => inb x 0 c.frame) = false then false else
  (inb d.release.l.length 1 4 && labLeq (labAt c d.to) d.lab) && !labEq (labAt c d.to) d.lab
set_option maxHeartbeats 1000000 in
set_option maxRecDepth 100000 in
theorem rroutes_walk (H : List SP) (c : ConfV) (i : Nat) (d : DomV) (hd : c.domains.l[i]? = some d) (hk : KC H c) (hsm : SmallC c) : ∀ w, Sat w H → Calls Try.prog 30 #[.agg #[.int .i64 c.frame, .int .i64 c.epoch, .slice c.plans.a c.plans.l.length c.plans.c, .slice c.domains.a c.domains.l.length c.domains.c], .int .i64 (i : Int)] w (Ret (ι := Unit) (fun _ => .bool (rroutesOk c i d)) fun _ => H) := by
  have hi : i < c.domains.l.length := (List.getElem?_eq_some_iff.1 hd).1
  have hdm : d ∈ c.domains.l := List.mem_of_getElem? hd
  have hnd := hsm.doms
  have hnr := hsm.routes d hdm
  have hnl := hsm.release d hdm
  have hnw : IntKind.i64.wrap ((c.domains.l.length : Int) - 1) = (c.domains.l.length : Int) - 1 := by rw [IntKind.wrap_i64]; omega
  refine enterG (fn := Try.f30) 149 [.agg #[.int .i64 c.frame, .int .i64 c.epoch, .slice c.plans.a c.plans.l.length c.plans.c, .slice c.domains.a c.domains.l.length c.domains.c], .int .i64 (i : Int)] Try.func30 (by kernel_rfl) (by kernel_rfl) (by kernel_rfl) ?_
  refine seqR (by kernel_rfl) ?_
  refine regionR 2 (by kernel_rfl) (by kernel_rfl) ?_
  refine (stepR (z := 1) (newS 25 [.int .i64 c.frame, .int .i64 c.epoch, .slice c.plans.a c.plans.l.length c.plans.c, .slice c.domains.a c.domains.l.length c.domains.c] (some 2) (fun b => .pointer (some ⟨b, 0, none⟩)) (fun _ _ => by kernel_rfl)) (fun b1 => ?_) : RT _ _ _ _ _ _ 2 _)
  refine (run0 (z := 0) 1 [2, 1, 4] [(2, .pointer (some ⟨b1, 0, none⟩)), (1, .int .i64 (i : Int)), (4, .bool false)] (fun _ => by kernel_rfl) (endR ?_) : RT _ _ _ _ _ _ 1 _)
  refine seqR (by kernel_rfl) ?_
  refine regionR 7 (by kernel_rfl) (by kernel_rfl) ?_
  refine (runR (H := (blk b1 25 [.int .i64 c.frame, .int .i64 c.epoch, .slice c.plans.a c.plans.l.length c.plans.c, .slice c.domains.a c.domains.l.length c.domains.c] :: H)) (z := 4) 3 [2, 1, 4, 13, 14] [(2, .pointer (some ⟨b1, 0, none⟩)), (1, .int .i64 (i : Int)), (4, .bool false), (13, .slice c.domains.a c.domains.l.length c.domains.c), (14, .int .i64 (i : Int))] [(⟨b1, 3, none⟩, .slice c.domains.a c.domains.l.length c.domains.c)] (hasC (blkAt (T := 25) (cs := [.int .i64 c.frame, .int .i64 c.epoch, .slice c.plans.a c.plans.l.length c.plans.c, .slice c.domains.a c.domains.l.length c.domains.c]) 0 rfl rfl) has0) (fun _ => by kernel_rfl) ?_ : RT _ _ _ _ _ _ 7 _)
  refine PT.know ((hk.domains).up.isSome (List.ne_nil_of_length_pos (by omega))) ?_
  rintro ⟨db, dd, hB⟩
  try rw [hB]
  refine (stepR (z := 3) (yldS (idxY 23 (.tmp 13) (.tmp 14) db dd c.domains.l.length c.domains.c i 10 46 (i : Int) .i64 (some 15) (fun _ => by kernel_rfl) (by kernel_rfl) (by kernel_rfl) (fun _ => by kernel_rfl) (fun _ => by kernel_rfl) Try.underlying23 (by kernel_rfl) (by first | rfl | assumption | simp) (by first | omega | (simp; done) | (simp; omega) | (simp at *; omega)))) (fun _ => ?_) : RT _ _ _ _ _ _ 4 _)
  refine (runR (H := (blk b1 25 [.int .i64 c.frame, .int .i64 c.epoch, .slice c.plans.a c.plans.l.length c.plans.c, .slice (some ⟨db, dd, none⟩) c.domains.l.length c.domains.c] :: H)) (z := 2) 1 [2, 1, 4, 16] [(2, .pointer (some ⟨b1, 0, none⟩)), (1, .int .i64 (i : Int)), (4, .bool false), (16, .agg #[.int .i64 d.lab.level, .int .u64 d.lab.cats, .slice d.routes.a d.routes.l.length d.routes.c, .slice d.release.a d.release.l.length d.release.c, .int .i64 d.to, .int .i64 d.threads, .int .i64 d.groups, .int .i64 d.ring, .int .i64 d.sends, .int .i64 d.box])] [(⟨db, dd + i * 10, none⟩, .int .i64 d.lab.level), (⟨db, dd + i * 10 + 1, none⟩, .int .u64 d.lab.cats), (⟨db, dd + i * 10 + 2, none⟩, .slice d.routes.a d.routes.l.length d.routes.c), (⟨db, dd + i * 10 + 3, none⟩, .slice d.release.a d.release.l.length d.release.c), (⟨db, dd + i * 10 + 4, none⟩, .int .i64 d.to), (⟨db, dd + i * 10 + 5, none⟩, .int .i64 d.threads), (⟨db, dd + i * 10 + 6, none⟩, .int .i64 d.groups), (⟨db, dd + i * 10 + 7, none⟩, .int .i64 d.ring), (⟨db, dd + i * 10 + 8, none⟩, .int .i64 d.sends), (⟨db, dd + i * 10 + 9, none⟩, .int .i64 d.box)] (hasC (up (hk.domains.cell hB (i := i) (x := d) hd (j := 0) rfl)) (hasC (up (hk.domains.cell hB (i := i) (x := d) hd (j := 1) rfl)) (hasC (up (hk.domains.cell hB (i := i) (x := d) hd (j := 2) rfl)) (hasC (up (hk.domains.cell hB (i := i) (x := d) hd (j := 3) rfl)) (hasC (up (hk.domains.cell hB (i := i) (x := d) hd (j := 4) rfl)) (hasC (up (hk.domains.cell hB (i := i) (x := d) hd (j := 5) rfl)) (hasC (up (hk.domains.cell hB (i := i) (x := d) hd (j := 6) rfl)) (hasC (up (hk.domains.cell hB (i := i) (x := d) hd (j := 7) rfl)) (hasC (up (hk.domains.cell hB (i := i) (x := d) hd (j := 8) rfl)) (hasC (up (hk.domains.cell hB (i := i) (x := d) hd (j := 9) rfl)) has0)))))))))) (fun _ => by kernel_rfl) ?_ : RT _ _ _ _ _ _ 3 _)
  refine (stepR (z := 1) (newS 46 [.int .i64 0, .int .u64 0, .slice none 0 0, .slice none 0 0, .int .i64 0, .int .i64 0, .int .i64 0, .int .i64 0, .int .i64 0, .int .i64 0] (some 5) (fun b => .pointer (some ⟨b, 0, none⟩)) (fun _ _ => by kernel_rfl)) (fun b2 => ?_) : RT _ _ _ _ _ _ 2 _)
  refine (stepR (z := 0) (storeS [(0, .int .i64 d.lab.level), (1, .int .u64 d.lab.cats), (2, .slice d.routes.a d.routes.l.length d.routes.c), (3, .slice d.release.a d.release.l.length d.release.c), (4, .int .i64 d.to), (5, .int .i64 d.threads), (6, .int .i64 d.groups), (7, .int .i64 d.ring), (8, .int .i64 d.sends), (9, .int .i64 d.box)] [.int .i64 d.lab.level, .int .u64 d.lab.cats, .slice d.routes.a d.routes.l.length d.routes.c, .slice d.release.a d.release.l.length d.release.c, .int .i64 d.to, .int .i64 d.threads, .int .i64 d.groups, .int .i64 d.ring, .int .i64 d.sends, .int .i64 d.box] (fun _ => by kernel_rfl) (by kernel_rfl) (by kernel_rfl)) (fun _ => ?_) : RT _ _ _ _ _ _ 1 _)
  refine endR ?_
  refine seqR (by kernel_rfl) ?_
  refine seqR (by kernel_rfl) ?_
  refine regionR 34 (by kernel_rfl) (by kernel_rfl) ?_
  refine (runR (H := (blk b2 46 [.int .i64 d.lab.level, .int .u64 d.lab.cats, .slice d.routes.a d.routes.l.length d.routes.c, .slice d.release.a d.release.l.length d.release.c, .int .i64 d.to, .int .i64 d.threads, .int .i64 d.groups, .int .i64 d.ring, .int .i64 d.sends, .int .i64 d.box] :: blk b1 25 [.int .i64 c.frame, .int .i64 c.epoch, .slice c.plans.a c.plans.l.length c.plans.c, .slice (some ⟨db, dd, none⟩) c.domains.l.length c.domains.c] :: H)) (z := 29) 5 [5, 2, 1, 4, 21] [(5, .pointer (some ⟨b2, 0, none⟩)), (2, .pointer (some ⟨b1, 0, none⟩)), (1, .int .i64 (i : Int)), (4, .bool false), (21, .bool (decide ((d.routes.l.length : Int) > 3)))] [(⟨b2, 2, none⟩, .slice d.routes.a d.routes.l.length d.routes.c)] (hasC (blkAt (T := 46) (cs := [.int .i64 d.lab.level, .int .u64 d.lab.cats, .slice d.routes.a d.routes.l.length d.routes.c, .slice d.release.a d.release.l.length d.release.c, .int .i64 d.to, .int .i64 d.threads, .int .i64 d.groups, .int .i64 d.ring, .int .i64 d.sends, .int .i64 d.box]) 0 rfl rfl) has0) (fun _ => by kernel_rfl) ?_ : RT _ _ _ _ _ _ 34 _)
  refine (segR (ι := Unit) (z := 25) 4 (fun _ => [(5, .pointer (some ⟨b2, 0, none⟩)), (2, .pointer (some ⟨b1, 0, none⟩)), (1, .int .i64 (i : Int)), (4, .bool false), (25, .bool ((decide ((d.routes.l.length : Int) > 3)) || (decide (d.to < (-1)))))]) (fun _ => (blk b2 46 [.int .i64 d.lab.level, .int .u64 d.lab.cats, .slice d.routes.a d.routes.l.length d.routes.c, .slice d.release.a d.release.l.length d.release.c, .int .i64 d.to, .int .i64 d.threads, .int .i64 d.groups, .int .i64 d.ring, .int .i64 d.sends, .int .i64 d.box] :: blk b1 25 [.int .i64 c.frame, .int .i64 c.epoch, .slice c.plans.a c.plans.l.length c.plans.c, .slice (some ⟨db, dd, none⟩) c.domains.l.length c.domains.c] :: H)) ?_ (fun _ => ?_) : RT _ _ _ _ _ _ 29 _)
  · cases hg5 : (decide ((d.routes.l.length : Int) > 3)) with
    | true =>
      refine (run0 (z := 0) 4 [5, 2, 1, 4, 25] [(5, .pointer (some ⟨b2, 0, none⟩)), (2, .pointer (some ⟨b1, 0, none⟩)), (1, .int .i64 (i : Int)), (4, .bool false), (25, .bool true)] (fun _ => by kernel_rfl) (endR ?_) : RT _ _ _ _ _ _ 4 _)
      refine PT.keep (L' := [(5, .pointer (some ⟨b2, 0, none⟩)), (2, .pointer (some ⟨b1, 0, none⟩)), (1, .int .i64 (i : Int)), (4, .bool false), (25, .bool (true || (decide (d.to < (-1)))))]) [5, 2, 1, 4, 25] rfl ?_
      exact midR () rfl rfl
    | false =>
      refine (runR (H := (blk b2 46 [.int .i64 d.lab.level, .int .u64 d.lab.cats, .slice d.routes.a d.routes.l.length d.routes.c, .slice d.release.a d.release.l.length d.release.c, .int .i64 d.to, .int .i64 d.threads, .int .i64 d.groups, .int .i64 d.ring, .int .i64 d.sends, .int .i64 d.box] :: blk b1 25 [.int .i64 c.frame, .int .i64 c.epoch, .slice c.plans.a c.plans.l.length c.plans.c, .slice (some ⟨db, dd, none⟩) c.domains.l.length c.domains.c] :: H)) (z := 0) 4 [5, 2, 1, 4, 25] [(5, .pointer (some ⟨b2, 0, none⟩)), (2, .pointer (some ⟨b1, 0, none⟩)), (1, .int .i64 (i : Int)), (4, .bool false), (25, .bool (decide (d.to < (-1))))] [(⟨b2, 4, none⟩, .int .i64 d.to)] (hasC (blkAt (T := 46) (cs := [.int .i64 d.lab.level, .int .u64 d.lab.cats, .slice d.routes.a d.routes.l.length d.routes.c, .slice d.release.a d.release.l.length d.release.c, .int .i64 d.to, .int .i64 d.threads, .int .i64 d.groups, .int .i64 d.ring, .int .i64 d.sends, .int .i64 d.box]) 0 rfl rfl) has0) (fun _ => by kernel_rfl) (endR ?_) : RT _ _ _ _ _ _ 4 _)
      refine PT.keep (L' := [(5, .pointer (some ⟨b2, 0, none⟩)), (2, .pointer (some ⟨b1, 0, none⟩)), (1, .int .i64 (i : Int)), (4, .bool false), (25, .bool (false || (decide (d.to < (-1)))))]) [5, 2, 1, 4, 25] rfl ?_
      exact midR () rfl rfl
  refine (run0 (z := 24) 1 [5, 2, 1, 4, 26] [(5, .pointer (some ⟨b2, 0, none⟩)), (2, .pointer (some ⟨b1, 0, none⟩)), (1, .int .i64 (i : Int)), (4, .bool false), (26, .bool ((decide ((d.routes.l.length : Int) > 3)) || (decide (d.to < (-1)))))] (fun _ => by kernel_rfl) ?_ : RT _ _ _ _ _ _ 25 _)
  refine (segR (ι := Unit) (z := 17) 7 (fun _ => [(5, .pointer (some ⟨b2, 0, none⟩)), (2, .pointer (some ⟨b1, 0, none⟩)), (1, .int .i64 (i : Int)), (4, .bool false), (33, .bool (((decide ((d.routes.l.length : Int) > 3)) || (decide (d.to < (-1)))) || (decide (d.to ≥ (c.domains.l.length : Int)))))]) (fun _ => (blk b2 46 [.int .i64 d.lab.level, .int .u64 d.lab.cats, .slice d.routes.a d.routes.l.length d.routes.c, .slice d.release.a d.release.l.length d.release.c, .int .i64 d.to, .int .i64 d.threads, .int .i64 d.groups, .int .i64 d.ring, .int .i64 d.sends, .int .i64 d.box] :: blk b1 25 [.int .i64 c.frame, .int .i64 c.epoch, .slice c.plans.a c.plans.l.length c.plans.c, .slice (some ⟨db, dd, none⟩) c.domains.l.length c.domains.c] :: H)) ?_ (fun _ => ?_) : RT _ _ _ _ _ _ 24 _)
  · cases hg10 : ((decide ((d.routes.l.length : Int) > 3)) || (decide (d.to < (-1)))) with
    | true =>
      refine (run0 (z := 0) 7 [5, 2, 1, 4, 33] [(5, .pointer (some ⟨b2, 0, none⟩)), (2, .pointer (some ⟨b1, 0, none⟩)), (1, .int .i64 (i : Int)), (4, .bool false), (33, .bool true)] (fun _ => by kernel_rfl) (endR ?_) : RT _ _ _ _ _ _ 7 _)
      refine PT.keep (L' := [(5, .pointer (some ⟨b2, 0, none⟩)), (2, .pointer (some ⟨b1, 0, none⟩)), (1, .int .i64 (i : Int)), (4, .bool false), (33, .bool (true || (decide (d.to ≥ (c.domains.l.length : Int)))))]) [5, 2, 1, 4, 33] rfl ?_
      exact midR () rfl rfl
    | false =>
      refine (runR (H := (blk b2 46 [.int .i64 d.lab.level, .int .u64 d.lab.cats, .slice d.routes.a d.routes.l.length d.routes.c, .slice d.release.a d.release.l.length d.release.c, .int .i64 d.to, .int .i64 d.threads, .int .i64 d.groups, .int .i64 d.ring, .int .i64 d.sends, .int .i64 d.box] :: blk b1 25 [.int .i64 c.frame, .int .i64 c.epoch, .slice c.plans.a c.plans.l.length c.plans.c, .slice (some ⟨db, dd, none⟩) c.domains.l.length c.domains.c] :: H)) (z := 0) 7 [5, 2, 1, 4, 33] [(5, .pointer (some ⟨b2, 0, none⟩)), (2, .pointer (some ⟨b1, 0, none⟩)), (1, .int .i64 (i : Int)), (4, .bool false), (33, .bool (decide (d.to ≥ (c.domains.l.length : Int))))] [(⟨b2, 4, none⟩, .int .i64 d.to), (⟨b1, 3, none⟩, .slice (some ⟨db, dd, none⟩) c.domains.l.length c.domains.c)] (hasC (blkAt (T := 46) (cs := [.int .i64 d.lab.level, .int .u64 d.lab.cats, .slice d.routes.a d.routes.l.length d.routes.c, .slice d.release.a d.release.l.length d.release.c, .int .i64 d.to, .int .i64 d.threads, .int .i64 d.groups, .int .i64 d.ring, .int .i64 d.sends, .int .i64 d.box]) 0 rfl rfl) (hasC (blkAt (T := 25) (cs := [.int .i64 c.frame, .int .i64 c.epoch, .slice c.plans.a c.plans.l.length c.plans.c, .slice (some ⟨db, dd, none⟩) c.domains.l.length c.domains.c]) 1 rfl rfl) has0)) (fun _ => by kernel_rfl) (endR ?_) : RT _ _ _ _ _ _ 7 _)
      refine PT.keep (L' := [(5, .pointer (some ⟨b2, 0, none⟩)), (2, .pointer (some ⟨b1, 0, none⟩)), (1, .int .i64 (i : Int)), (4, .bool false), (33, .bool (false || (decide (d.to ≥ (c.domains.l.length : Int)))))]) [5, 2, 1, 4, 33] rfl ?_
      exact midR () rfl rfl
  refine (run0 (z := 16) 1 [5, 2, 1, 4, 34] [(5, .pointer (some ⟨b2, 0, none⟩)), (2, .pointer (some ⟨b1, 0, none⟩)), (1, .int .i64 (i : Int)), (4, .bool false), (34, .bool (((decide ((d.routes.l.length : Int) > 3)) || (decide (d.to < (-1)))) || (decide (d.to ≥ (c.domains.l.length : Int)))))] (fun _ => by kernel_rfl) ?_ : RT _ _ _ _ _ _ 17 _)
  refine (segR (ι := Unit) (z := 11) 5 (fun _ => [(5, .pointer (some ⟨b2, 0, none⟩)), (2, .pointer (some ⟨b1, 0, none⟩)), (4, .bool false), (39, .bool ((((decide ((d.routes.l.length : Int) > 3)) || (decide (d.to < (-1)))) || (decide (d.to ≥ (c.domains.l.length : Int)))) || (d.to == (i : Int))))]) (fun _ => (blk b2 46 [.int .i64 d.lab.level, .int .u64 d.lab.cats, .slice d.routes.a d.routes.l.length d.routes.c, .slice d.release.a d.release.l.length d.release.c, .int .i64 d.to, .int .i64 d.threads, .int .i64 d.groups, .int .i64 d.ring, .int .i64 d.sends, .int .i64 d.box] :: blk b1 25 [.int .i64 c.frame, .int .i64 c.epoch, .slice c.plans.a c.plans.l.length c.plans.c, .slice (some ⟨db, dd, none⟩) c.domains.l.length c.domains.c] :: H)) ?_ (fun _ => ?_) : RT _ _ _ _ _ _ 16 _)
  · cases hg18 : (((decide ((d.routes.l.length : Int) > 3)) || (decide (d.to < (-1)))) || (decide (d.to ≥ (c.domains.l.length : Int)))) with
    | true =>
      refine (run0 (z := 0) 5 [5, 2, 4, 39] [(5, .pointer (some ⟨b2, 0, none⟩)), (2, .pointer (some ⟨b1, 0, none⟩)), (4, .bool false), (39, .bool true)] (fun _ => by kernel_rfl) (endR ?_) : RT _ _ _ _ _ _ 5 _)
      refine PT.keep (L' := [(5, .pointer (some ⟨b2, 0, none⟩)), (2, .pointer (some ⟨b1, 0, none⟩)), (4, .bool false), (39, .bool (true || (d.to == (i : Int))))]) [5, 2, 4, 39] rfl ?_
      exact midR () rfl rfl
    | false =>
      refine (runR (H := (blk b2 46 [.int .i64 d.lab.level, .int .u64 d.lab.cats, .slice d.routes.a d.routes.l.length d.routes.c, .slice d.release.a d.release.l.length d.release.c, .int .i64 d.to, .int .i64 d.threads, .int .i64 d.groups, .int .i64 d.ring, .int .i64 d.sends, .int .i64 d.box] :: blk b1 25 [.int .i64 c.frame, .int .i64 c.epoch, .slice c.plans.a c.plans.l.length c.plans.c, .slice (some ⟨db, dd, none⟩) c.domains.l.length c.domains.c] :: H)) (z := 0) 5 [5, 2, 4, 39] [(5, .pointer (some ⟨b2, 0, none⟩)), (2, .pointer (some ⟨b1, 0, none⟩)), (4, .bool false), (39, .bool (d.to == (i : Int)))] [(⟨b2, 4, none⟩, .int .i64 d.to)] (hasC (blkAt (T := 46) (cs := [.int .i64 d.lab.level, .int .u64 d.lab.cats, .slice d.routes.a d.routes.l.length d.routes.c, .slice d.release.a d.release.l.length d.release.c, .int .i64 d.to, .int .i64 d.threads, .int .i64 d.groups, .int .i64 d.ring, .int .i64 d.sends, .int .i64 d.box]) 0 rfl rfl) has0) (fun _ => by kernel_rfl) (endR ?_) : RT _ _ _ _ _ _ 5 _)
      refine PT.keep (L' := [(5, .pointer (some ⟨b2, 0, none⟩)), (2, .pointer (some ⟨b1, 0, none⟩)), (4, .bool false), (39, .bool (false || (d.to == (i : Int))))]) [5, 2, 4, 39] rfl ?_
      exact midR () rfl rfl
  refine (run0 (z := 10) 1 [5, 2, 4, 40] [(5, .pointer (some ⟨b2, 0, none⟩)), (2, .pointer (some ⟨b1, 0, none⟩)), (4, .bool false), (40, .bool ((((decide ((d.routes.l.length : Int) > 3)) || (decide (d.to < (-1)))) || (decide (d.to ≥ (c.domains.l.length : Int)))) || (d.to == (i : Int))))] (fun _ => by kernel_rfl) ?_ : RT _ _ _ _ _ _ 11 _)
  refine (segR (ι := Unit) (z := 0) 10 (fun _ => [(5, .pointer (some ⟨b2, 0, none⟩)), (2, .pointer (some ⟨b1, 0, none⟩)), (4, .bool false), (50, .bool (((((decide ((d.routes.l.length : Int) > 3)) || (decide (d.to < (-1)))) || (decide (d.to ≥ (c.domains.l.length : Int)))) || (d.to == (i : Int))) || ((d.to == (-1)) && (decide ((d.release.l.length : Int) > 0)))))]) (fun _ => (blk b2 46 [.int .i64 d.lab.level, .int .u64 d.lab.cats, .slice d.routes.a d.routes.l.length d.routes.c, .slice d.release.a d.release.l.length d.release.c, .int .i64 d.to, .int .i64 d.threads, .int .i64 d.groups, .int .i64 d.ring, .int .i64 d.sends, .int .i64 d.box] :: blk b1 25 [.int .i64 c.frame, .int .i64 c.epoch, .slice c.plans.a c.plans.l.length c.plans.c, .slice (some ⟨db, dd, none⟩) c.domains.l.length c.domains.c] :: H)) ?_ (fun _ => ?_) : RT _ _ _ _ _ _ 10 _)
  · cases hg24 : ((((decide ((d.routes.l.length : Int) > 3)) || (decide (d.to < (-1)))) || (decide (d.to ≥ (c.domains.l.length : Int)))) || (d.to == (i : Int))) with
    | true =>
      refine (run0 (z := 0) 10 [5, 2, 4, 50] [(5, .pointer (some ⟨b2, 0, none⟩)), (2, .pointer (some ⟨b1, 0, none⟩)), (4, .bool false), (50, .bool true)] (fun _ => by kernel_rfl) (endR ?_) : RT _ _ _ _ _ _ 10 _)
      refine PT.keep (L' := [(5, .pointer (some ⟨b2, 0, none⟩)), (2, .pointer (some ⟨b1, 0, none⟩)), (4, .bool false), (50, .bool (true || ((d.to == (-1)) && (decide ((d.release.l.length : Int) > 0)))))]) [5, 2, 4, 50] rfl ?_
      exact midR () rfl rfl
    | false =>
      refine (runR (H := (blk b2 46 [.int .i64 d.lab.level, .int .u64 d.lab.cats, .slice d.routes.a d.routes.l.length d.routes.c, .slice d.release.a d.release.l.length d.release.c, .int .i64 d.to, .int .i64 d.threads, .int .i64 d.groups, .int .i64 d.ring, .int .i64 d.sends, .int .i64 d.box] :: blk b1 25 [.int .i64 c.frame, .int .i64 c.epoch, .slice c.plans.a c.plans.l.length c.plans.c, .slice (some ⟨db, dd, none⟩) c.domains.l.length c.domains.c] :: H)) (z := 6) 4 [5, 2, 4, 40, 44] [(5, .pointer (some ⟨b2, 0, none⟩)), (2, .pointer (some ⟨b1, 0, none⟩)), (4, .bool false), (40, .bool false), (44, .bool (d.to == (-1)))] [(⟨b2, 4, none⟩, .int .i64 d.to)] (hasC (blkAt (T := 46) (cs := [.int .i64 d.lab.level, .int .u64 d.lab.cats, .slice d.routes.a d.routes.l.length d.routes.c, .slice d.release.a d.release.l.length d.release.c, .int .i64 d.to, .int .i64 d.threads, .int .i64 d.groups, .int .i64 d.ring, .int .i64 d.sends, .int .i64 d.box]) 0 rfl rfl) has0) (fun _ => by kernel_rfl) ?_ : RT _ _ _ _ _ _ 10 _)
      refine (segR (ι := Unit) (z := 1) 5 (fun _ => [(5, .pointer (some ⟨b2, 0, none⟩)), (2, .pointer (some ⟨b1, 0, none⟩)), (4, .bool false), (40, .bool false), (49, .bool ((d.to == (-1)) && (decide ((d.release.l.length : Int) > 0))))]) (fun _ => (blk b2 46 [.int .i64 d.lab.level, .int .u64 d.lab.cats, .slice d.routes.a d.routes.l.length d.routes.c, .slice d.release.a d.release.l.length d.release.c, .int .i64 d.to, .int .i64 d.threads, .int .i64 d.groups, .int .i64 d.ring, .int .i64 d.sends, .int .i64 d.box] :: blk b1 25 [.int .i64 c.frame, .int .i64 c.epoch, .slice c.plans.a c.plans.l.length c.plans.c, .slice (some ⟨db, dd, none⟩) c.domains.l.length c.domains.c] :: H)) ?_ (fun _ => ?_) : RT _ _ _ _ _ _ 6 _)
      · cases hg28 : (d.to == (-1)) with
        | true =>
          refine (runR (H := (blk b2 46 [.int .i64 d.lab.level, .int .u64 d.lab.cats, .slice d.routes.a d.routes.l.length d.routes.c, .slice d.release.a d.release.l.length d.release.c, .int .i64 d.to, .int .i64 d.threads, .int .i64 d.groups, .int .i64 d.ring, .int .i64 d.sends, .int .i64 d.box] :: blk b1 25 [.int .i64 c.frame, .int .i64 c.epoch, .slice c.plans.a c.plans.l.length c.plans.c, .slice (some ⟨db, dd, none⟩) c.domains.l.length c.domains.c] :: H)) (z := 0) 5 [5, 2, 4, 40, 49] [(5, .pointer (some ⟨b2, 0, none⟩)), (2, .pointer (some ⟨b1, 0, none⟩)), (4, .bool false), (40, .bool false), (49, .bool (decide ((d.release.l.length : Int) > 0)))] [(⟨b2, 3, none⟩, .slice d.release.a d.release.l.length d.release.c)] (hasC (blkAt (T := 46) (cs := [.int .i64 d.lab.level, .int .u64 d.lab.cats, .slice d.routes.a d.routes.l.length d.routes.c, .slice d.release.a d.release.l.length d.release.c, .int .i64 d.to, .int .i64 d.threads, .int .i64 d.groups, .int .i64 d.ring, .int .i64 d.sends, .int .i64 d.box]) 0 rfl rfl) has0) (fun _ => by kernel_rfl) (endR ?_) : RT _ _ _ _ _ _ 5 _)
          refine PT.keep (L' := [(5, .pointer (some ⟨b2, 0, none⟩)), (2, .pointer (some ⟨b1, 0, none⟩)), (4, .bool false), (40, .bool false), (49, .bool (true && (decide ((d.release.l.length : Int) > 0))))]) [5, 2, 4, 40, 49] rfl ?_
          exact midR () rfl rfl
        | false =>
          refine (run0 (z := 0) 5 [5, 2, 4, 40, 49] [(5, .pointer (some ⟨b2, 0, none⟩)), (2, .pointer (some ⟨b1, 0, none⟩)), (4, .bool false), (40, .bool false), (49, .bool false)] (fun _ => by kernel_rfl) (endR ?_) : RT _ _ _ _ _ _ 5 _)
          refine PT.keep (L' := [(5, .pointer (some ⟨b2, 0, none⟩)), (2, .pointer (some ⟨b1, 0, none⟩)), (4, .bool false), (40, .bool false), (49, .bool (false && (decide ((d.release.l.length : Int) > 0))))]) [5, 2, 4, 40, 49] rfl ?_
          exact midR () rfl rfl
      refine (run0 (z := 0) 1 [5, 2, 4, 50] [(5, .pointer (some ⟨b2, 0, none⟩)), (2, .pointer (some ⟨b1, 0, none⟩)), (4, .bool false), (50, .bool ((d.to == (-1)) && (decide ((d.release.l.length : Int) > 0))))] (fun _ => by kernel_rfl) (endR ?_) : RT _ _ _ _ _ _ 1 _)
      refine PT.keep (L' := [(5, .pointer (some ⟨b2, 0, none⟩)), (2, .pointer (some ⟨b1, 0, none⟩)), (4, .bool false), (50, .bool (false || ((d.to == (-1)) && (decide ((d.release.l.length : Int) > 0)))))]) [5, 2, 4, 50] rfl ?_
      exact midR () rfl rfl
  refine endR ?_
  try rw [← hB]
  refine condR (b := ((((decide ((d.routes.l.length : Int) > 3)) || (decide (d.to < (-1)))) || (decide (d.to ≥ (c.domains.l.length : Int)))) || (d.to == (i : Int))) || ((d.to == (-1)) && (decide ((d.release.l.length : Int) > 0)))) (by kernel_rfl) (fun _ => by kernel_rfl) (fun hb => ?_) (fun hb => ?_)
  · skip
    refine seqR (by kernel_rfl) ?_
    refine regionR 1 (by kernel_rfl) (by kernel_rfl) ?_
    refine (run0 (z := 0) 1 [5, 2, 4] [(5, .pointer (some ⟨b2, 0, none⟩)), (2, .pointer (some ⟨b1, 0, none⟩)), (4, .bool false)] (fun _ => by kernel_rfl) (endR ?_) : RT _ _ _ _ _ _ 1 _)
    refine retR (by kernel_rfl) ?_
    refine thenV ?_
    refine done0 (.bool false) (fun _ => by kernel_rfl) (fun w hs => ?_) .ret (.inr rfl)
    exact ⟨(), by rw [rroutesOk, if_pos hb], hs.tail.tail⟩
  · skip
    have hb1 : ¬ (((((decide ((d.routes.l.length : Int) > 3)) || (decide (d.to < -1))) || (decide (d.to ≥ (c.domains.l.length : Int)))) || (d.to == (i : Int))) || ((d.to == -1) && (decide ((d.release.l.length : Int) > 0)))) = true := by rw [hb]; simp
    refine skipR (by kernel_rfl) ?_
    refine seqR (by kernel_rfl) ?_
    refine seqR (by kernel_rfl) ?_
    refine regionR 1 (by kernel_rfl) (by kernel_rfl) ?_
    refine (run0 (z := 0) 1 [5, 2, 4, 6] [(5, .pointer (some ⟨b2, 0, none⟩)), (2, .pointer (some ⟨b1, 0, none⟩)), (4, .bool false), (6, .int .i64 0)] (fun _ => by kernel_rfl) (endR ?_) : RT _ _ _ _ _ _ 1 _)
    refine blockR 0 (by kernel_rfl) (by kernel_rfl) ?_
    refine PT.keep (L' := [(2, .pointer (some ⟨b1, 0, none⟩)), (4, .bool false), (5, .pointer (some ⟨b2, 0, none⟩)), (6, .int .i64 0)]) [2, 4, 5, 6] rfl ?_
    refine loopG (fun (u : Nat) => [(2, .pointer (some ⟨b1, 0, none⟩)), (4, .bool false), (5, .pointer (some ⟨b2, 0, none⟩)), (6, .int .i64 (u : Int))]) (fun (u : Nat) => (blk b2 46 [.int .i64 d.lab.level, .int .u64 d.lab.cats, .slice d.routes.a d.routes.l.length d.routes.c, .slice d.release.a d.release.l.length d.release.c, .int .i64 d.to, .int .i64 d.threads, .int .i64 d.groups, .int .i64 d.ring, .int .i64 d.sends, .int .i64 d.box] :: blk b1 25 [.int .i64 c.frame, .int .i64 c.epoch, .slice c.plans.a c.plans.l.length c.plans.c, .slice c.domains.a c.domains.l.length c.domains.c] :: H)) (fun k (u : Nat) => k + u = d.routes.l.length ∧ ((d.routes.l.take u).all fun r => rrisesOk c d r.l) = true) d.routes.l.length 0 (by kernel_rfl) ⟨by omega, rfl⟩ ?_
    rintro k u ⟨hku, hall⟩
    have hw : IntKind.i64.wrap ((u : Int) + 1) = ((u + 1 : Nat) : Int) := by rw [IntKind.wrap_i64]; omega
    refine seqR (by kernel_rfl) ?_
    refine seqR (by kernel_rfl) ?_
    refine regionR 5 (by kernel_rfl) (by kernel_rfl) ?_
    refine (runR (H := (blk b2 46 [.int .i64 d.lab.level, .int .u64 d.lab.cats, .slice d.routes.a d.routes.l.length d.routes.c, .slice d.release.a d.release.l.length d.release.c, .int .i64 d.to, .int .i64 d.threads, .int .i64 d.groups, .int .i64 d.ring, .int .i64 d.sends, .int .i64 d.box] :: blk b1 25 [.int .i64 c.frame, .int .i64 c.epoch, .slice c.plans.a c.plans.l.length c.plans.c, .slice c.domains.a c.domains.l.length c.domains.c] :: H)) (z := 0) 5 [2, 4, 5, 6, 55] [(2, .pointer (some ⟨b1, 0, none⟩)), (4, .bool false), (5, .pointer (some ⟨b2, 0, none⟩)), (6, .int .i64 (u : Int)), (55, .bool (decide ((u : Int) < (d.routes.l.length : Int))))] [(⟨b2, 2, none⟩, .slice d.routes.a d.routes.l.length d.routes.c)] (hasC (blkAt (T := 46) (cs := [.int .i64 d.lab.level, .int .u64 d.lab.cats, .slice d.routes.a d.routes.l.length d.routes.c, .slice d.release.a d.release.l.length d.release.c, .int .i64 d.to, .int .i64 d.threads, .int .i64 d.groups, .int .i64 d.ring, .int .i64 d.sends, .int .i64 d.box]) 0 rfl rfl) has0) (fun _ => by kernel_rfl) (endR ?_) : RT _ _ _ _ _ _ 5 _)
    refine condR (b := decide ((u : Int) < (d.routes.l.length : Int))) (by kernel_rfl) (fun _ => by kernel_rfl) (fun h => ?_) (fun h => ?_)
    · skip
      have hu : u < d.routes.l.length := by have := of_decide_eq_true h; omega
      obtain ⟨r, hr⟩ : ∃ r, d.routes.l[u]? = some r := ⟨_, by simp [hu]; rfl⟩
      have hrm : r ∈ d.routes.l := List.mem_of_getElem? hr
      have hrl := hsm.route d hdm r hrm
      have ht1 : (d.routes.l.take (u + 1)) = d.routes.l.take u ++ [r] := by rw [List.take_add_one, hr]; rfl
      have hbad : rrisesOk c d r.l = false → rroutesOk c i d = false := by
        intro h1
        have h0 : (d.routes.l.all fun r => rrisesOk c d r.l) = false := by
          rw [← Bool.not_eq_true]
          intro h2
          have := List.all_eq_true.1 h2 r hrm
          rw [h1] at this
          simp at this
        rw [rroutesOk, if_neg hb1, if_pos h0]
      refine skipR (by kernel_rfl) ?_
      refine seqR (by kernel_rfl) ?_
      refine blockR 1 (by kernel_rfl) (by kernel_rfl) ?_
      refine seqR (by kernel_rfl) ?_
      refine regionR 4 (by kernel_rfl) (by kernel_rfl) ?_
      refine (runR (H := (blk b2 46 [.int .i64 d.lab.level, .int .u64 d.lab.cats, .slice d.routes.a d.routes.l.length d.routes.c, .slice d.release.a d.release.l.length d.release.c, .int .i64 d.to, .int .i64 d.threads, .int .i64 d.groups, .int .i64 d.ring, .int .i64 d.sends, .int .i64 d.box] :: blk b1 25 [.int .i64 c.frame, .int .i64 c.epoch, .slice c.plans.a c.plans.l.length c.plans.c, .slice c.domains.a c.domains.l.length c.domains.c] :: H)) (z := 2) 2 [2, 4, 5, 6, 59] [(2, .pointer (some ⟨b1, 0, none⟩)), (4, .bool false), (5, .pointer (some ⟨b2, 0, none⟩)), (6, .int .i64 (u : Int)), (59, .agg #[.int .i64 d.lab.level, .int .u64 d.lab.cats])] [(⟨b2, 0, none⟩, .int .i64 d.lab.level), (⟨b2, 1, none⟩, .int .u64 d.lab.cats)] (hasC (blkAt (T := 46) (cs := [.int .i64 d.lab.level, .int .u64 d.lab.cats, .slice d.routes.a d.routes.l.length d.routes.c, .slice d.release.a d.release.l.length d.release.c, .int .i64 d.to, .int .i64 d.threads, .int .i64 d.groups, .int .i64 d.ring, .int .i64 d.sends, .int .i64 d.box]) 0 rfl rfl) (hasC (blkAt (T := 46) (cs := [.int .i64 d.lab.level, .int .u64 d.lab.cats, .slice d.routes.a d.routes.l.length d.routes.c, .slice d.release.a d.release.l.length d.release.c, .int .i64 d.to, .int .i64 d.threads, .int .i64 d.groups, .int .i64 d.ring, .int .i64 d.sends, .int .i64 d.box]) 0 rfl rfl) has0)) (fun _ => by kernel_rfl) ?_ : RT _ _ _ _ _ _ 4 _)
      refine (stepR (z := 1) (newS 44 [.int .i64 d.lab.level, .int .u64 d.lab.cats] (some 60) (fun b => .slice (some ⟨b, 0, none⟩) 1 1) (fun _ _ => by kernel_rfl)) (fun b3 => ?_) : RT _ _ _ _ _ _ 2 _)
      refine (run0 (z := 0) 1 [2, 4, 5, 6, 7] [(2, .pointer (some ⟨b1, 0, none⟩)), (4, .bool false), (5, .pointer (some ⟨b2, 0, none⟩)), (6, .int .i64 (u : Int)), (7, .slice (some ⟨b3, 0, none⟩) 1 1)] (fun _ => by kernel_rfl) (endR ?_) : RT _ _ _ _ _ _ 1 _)
      refine seqR (by kernel_rfl) ?_
      refine seqR (by kernel_rfl) ?_
      refine regionR 1 (by kernel_rfl) (by kernel_rfl) ?_
      refine (run0 (z := 0) 1 [2, 4, 5, 6, 7, 8] [(2, .pointer (some ⟨b1, 0, none⟩)), (4, .bool false), (5, .pointer (some ⟨b2, 0, none⟩)), (6, .int .i64 (u : Int)), (7, .slice (some ⟨b3, 0, none⟩) 1 1), (8, .int .i64 0)] (fun _ => by kernel_rfl) (endR ?_) : RT _ _ _ _ _ _ 1 _)
      refine blockR 2 (by kernel_rfl) (by kernel_rfl) ?_
      refine PT.blkRow (E := labE) (x := d.lab) ?_
      refine PT.keep (L' := [(2, .pointer (some ⟨b1, 0, none⟩)), (4, .bool false), (5, .pointer (some ⟨b2, 0, none⟩)), (6, .int .i64 (u : Int)), (7, .slice (some ⟨b3, 0, none⟩) 1 1), (8, .int .i64 0)]) [2, 4, 5, 6, 7, 8] rfl ?_
      refine loopG (fun (x : (Option Addr × Nat) × Nat) => [(2, .pointer (some ⟨b1, 0, none⟩)), (4, .bool false), (5, .pointer (some ⟨b2, 0, none⟩)), (6, .int .i64 (u : Int)), (7, .slice x.1.1 ((lbs c d (r.l.take x.2)).length) x.1.2), (8, .int .i64 (x.2 : Int))]) (fun (x : (Option Addr × Nat) × Nat) => (row labE 44 (.slice x.1.1 (lbs c d (r.l.take x.2)).length x.1.2) (lbs c d (r.l.take x.2)) :: blk b2 46 [.int .i64 d.lab.level, .int .u64 d.lab.cats, .slice d.routes.a d.routes.l.length d.routes.c, .slice d.release.a d.release.l.length d.release.c, .int .i64 d.to, .int .i64 d.threads, .int .i64 d.groups, .int .i64 d.ring, .int .i64 d.sends, .int .i64 d.box] :: blk b1 25 [.int .i64 c.frame, .int .i64 c.epoch, .slice c.plans.a c.plans.l.length c.plans.c, .slice c.domains.a c.domains.l.length c.domains.c] :: H)) (fun k (x : (Option Addr × Nat) × Nat) => k + x.2 = r.l.length ∧ (r.l.take x.2).all (isDom c) = true) r.l.length ((some ⟨b3, 0, none⟩, 1), 0) (by kernel_rfl) ⟨by simp, rfl⟩ ?_
      rintro k2 ⟨⟨A, cap⟩, v⟩ ⟨hkv, hal2⟩
      dsimp only at hkv hal2 ⊢
      have hw2 : IntKind.i64.wrap ((v : Int) + 1) = ((v + 1 : Nat) : Int) := by rw [IntKind.wrap_i64]; omega
      refine seqR (by kernel_rfl) ?_
      refine seqR (by kernel_rfl) ?_
      refine regionR 8 (by kernel_rfl) (by kernel_rfl) ?_
      refine (runR (H := (row labE 44 (.slice A (lbs c d (r.l.take v)).length cap) (lbs c d (r.l.take v)) :: blk b2 46 [.int .i64 d.lab.level, .int .u64 d.lab.cats, .slice d.routes.a d.routes.l.length d.routes.c, .slice d.release.a d.release.l.length d.release.c, .int .i64 d.to, .int .i64 d.threads, .int .i64 d.groups, .int .i64 d.ring, .int .i64 d.sends, .int .i64 d.box] :: blk b1 25 [.int .i64 c.frame, .int .i64 c.epoch, .slice c.plans.a c.plans.l.length c.plans.c, .slice c.domains.a c.domains.l.length c.domains.c] :: H)) (z := 4) 4 [2, 4, 5, 6, 7, 8, 61, 63, 64] [(2, .pointer (some ⟨b1, 0, none⟩)), (4, .bool false), (5, .pointer (some ⟨b2, 0, none⟩)), (6, .int .i64 (u : Int)), (7, .slice A ((lbs c d (r.l.take v)).length) cap), (8, .int .i64 (v : Int)), (61, .int .i64 (v : Int)), (63, .slice d.routes.a d.routes.l.length d.routes.c), (64, .int .i64 (u : Int))] [(⟨b2, 2, none⟩, .slice d.routes.a d.routes.l.length d.routes.c)] (hasC (blkAt (T := 46) (cs := [.int .i64 d.lab.level, .int .u64 d.lab.cats, .slice d.routes.a d.routes.l.length d.routes.c, .slice d.release.a d.release.l.length d.release.c, .int .i64 d.to, .int .i64 d.threads, .int .i64 d.groups, .int .i64 d.ring, .int .i64 d.sends, .int .i64 d.box]) 1 rfl rfl) has0) (fun _ => by kernel_rfl) ?_ : RT _ _ _ _ _ _ 8 _)
      refine PT.know (((hk.routes d hdm)).up.up.up.isSome (List.ne_nil_of_length_pos (by omega))) ?_
      rintro ⟨sb, so, hA⟩
      try rw [hA]
      refine (stepR (z := 3) (yldS (idxY 22 (.tmp 63) (.tmp 64) sb so d.routes.l.length d.routes.c u 1 26 (u : Int) .i64 (some 65) (fun _ => by kernel_rfl) (by kernel_rfl) (by kernel_rfl) (fun _ => by kernel_rfl) (fun _ => by kernel_rfl) Try.underlying22 (by kernel_rfl) (by first | rfl | assumption | simp) (by first | omega | (simp; done) | (simp; omega) | (simp at *; omega)))) (fun _ => ?_) : RT _ _ _ _ _ _ 4 _)
      refine (runR (H := (row labE 44 (.slice A (lbs c d (r.l.take v)).length cap) (lbs c d (r.l.take v)) :: blk b2 46 [.int .i64 d.lab.level, .int .u64 d.lab.cats, .slice (some ⟨sb, so, none⟩) d.routes.l.length d.routes.c, .slice d.release.a d.release.l.length d.release.c, .int .i64 d.to, .int .i64 d.threads, .int .i64 d.groups, .int .i64 d.ring, .int .i64 d.sends, .int .i64 d.box] :: blk b1 25 [.int .i64 c.frame, .int .i64 c.epoch, .slice c.plans.a c.plans.l.length c.plans.c, .slice c.domains.a c.domains.l.length c.domains.c] :: H)) (z := 0) 3 [2, 4, 5, 6, 7, 8, 68] [(2, .pointer (some ⟨b1, 0, none⟩)), (4, .bool false), (5, .pointer (some ⟨b2, 0, none⟩)), (6, .int .i64 (u : Int)), (7, .slice A ((lbs c d (r.l.take v)).length) cap), (8, .int .i64 (v : Int)), (68, .bool (decide ((v : Int) < (r.l.length : Int))))] [(⟨sb, so + u * 1, none⟩, .slice r.a r.l.length r.c)] (hasC (up (up (up ((hk.routes d hdm).cell hA (i := u) (x := r) hr (j := 0) rfl)))) has0) (fun _ => by kernel_rfl) (endR ?_) : RT _ _ _ _ _ _ 3 _)
      refine condR (b := decide ((v : Int) < (r.l.length : Int))) (by kernel_rfl) (fun _ => by kernel_rfl) (fun h2 => ?_) (fun h2 => ?_)
      · skip
        have hv : v < r.l.length := by have := of_decide_eq_true h2; omega
        obtain ⟨y, hy⟩ : ∃ y, r.l[v]? = some y := ⟨_, by simp [hv]; rfl⟩
        have hym : y ∈ r.l := List.mem_of_getElem? hy
        have ht : r.l.take (v + 1) = r.l.take v ++ [y] := by rw [List.take_add_one, hy]; rfl
        refine PT.know (((hk.route d hdm r hrm)).up.up.up.isSome (List.ne_nil_of_length_pos (by omega))) ?_
        rintro ⟨tb, to_, hC⟩
        try rw [hC]
        refine skipR (by kernel_rfl) ?_
        refine seqR (by kernel_rfl) ?_
        refine blockR 3 (by kernel_rfl) (by kernel_rfl) ?_
        refine seqR (by kernel_rfl) ?_
        refine regionR 9 (by kernel_rfl) (by kernel_rfl) ?_
        refine (runR (H := (row labE 44 (.slice A (lbs c d (r.l.take v)).length cap) (lbs c d (r.l.take v)) :: blk b2 46 [.int .i64 d.lab.level, .int .u64 d.lab.cats, .slice (some ⟨sb, so, none⟩) d.routes.l.length d.routes.c, .slice d.release.a d.release.l.length d.release.c, .int .i64 d.to, .int .i64 d.threads, .int .i64 d.groups, .int .i64 d.ring, .int .i64 d.sends, .int .i64 d.box] :: blk b1 25 [.int .i64 c.frame, .int .i64 c.epoch, .slice c.plans.a c.plans.l.length c.plans.c, .slice c.domains.a c.domains.l.length c.domains.c] :: H)) (z := 6) 3 [2, 4, 5, 6, 7, 8, 72, 73] [(2, .pointer (some ⟨b1, 0, none⟩)), (4, .bool false), (5, .pointer (some ⟨b2, 0, none⟩)), (6, .int .i64 (u : Int)), (7, .slice A ((lbs c d (r.l.take v)).length) cap), (8, .int .i64 (v : Int)), (72, .slice (some ⟨sb, so, none⟩) d.routes.l.length d.routes.c), (73, .int .i64 (u : Int))] [(⟨b2, 2, none⟩, .slice (some ⟨sb, so, none⟩) d.routes.l.length d.routes.c)] (hasC (blkAt (T := 46) (cs := [.int .i64 d.lab.level, .int .u64 d.lab.cats, .slice (some ⟨sb, so, none⟩) d.routes.l.length d.routes.c, .slice d.release.a d.release.l.length d.release.c, .int .i64 d.to, .int .i64 d.threads, .int .i64 d.groups, .int .i64 d.ring, .int .i64 d.sends, .int .i64 d.box]) 1 rfl rfl) has0) (fun _ => by kernel_rfl) ?_ : RT _ _ _ _ _ _ 9 _)
        refine (stepR (z := 5) (yldS (idxY 22 (.tmp 72) (.tmp 73) sb so d.routes.l.length d.routes.c u 1 26 (u : Int) .i64 (some 74) (fun _ => by kernel_rfl) (by kernel_rfl) (by kernel_rfl) (fun _ => by kernel_rfl) (fun _ => by kernel_rfl) Try.underlying22 (by kernel_rfl) (by first | rfl | assumption | simp) (by first | omega | (simp; done) | (simp; omega) | (simp at *; omega)))) (fun _ => ?_) : RT _ _ _ _ _ _ 6 _)
        refine (runR (H := (row labE 44 (.slice A (lbs c d (r.l.take v)).length cap) (lbs c d (r.l.take v)) :: blk b2 46 [.int .i64 d.lab.level, .int .u64 d.lab.cats, .slice (some ⟨sb, so, none⟩) d.routes.l.length d.routes.c, .slice d.release.a d.release.l.length d.release.c, .int .i64 d.to, .int .i64 d.threads, .int .i64 d.groups, .int .i64 d.ring, .int .i64 d.sends, .int .i64 d.box] :: blk b1 25 [.int .i64 c.frame, .int .i64 c.epoch, .slice c.plans.a c.plans.l.length c.plans.c, .slice c.domains.a c.domains.l.length c.domains.c] :: H)) (z := 3) 2 [2, 4, 5, 6, 7, 8, 75, 76] [(2, .pointer (some ⟨b1, 0, none⟩)), (4, .bool false), (5, .pointer (some ⟨b2, 0, none⟩)), (6, .int .i64 (u : Int)), (7, .slice A ((lbs c d (r.l.take v)).length) cap), (8, .int .i64 (v : Int)), (75, .slice (some ⟨tb, to_, none⟩) r.l.length r.c), (76, .int .i64 (v : Int))] [(⟨sb, so + u * 1, none⟩, .slice (some ⟨tb, to_, none⟩) r.l.length r.c)] (hasC (up (up (up ((hk.routes d hdm).cell_sl hA hr hC)))) has0) (fun _ => by kernel_rfl) ?_ : RT _ _ _ _ _ _ 5 _)
        refine (stepR (z := 2) (yldS (idxY 26 (.tmp 75) (.tmp 76) tb to_ r.l.length r.c v 1 3 (v : Int) .i64 (some 77) (fun _ => by kernel_rfl) (by kernel_rfl) (by kernel_rfl) (fun _ => by kernel_rfl) (fun _ => by kernel_rfl) Try.underlying26 (by kernel_rfl) (by first | rfl | assumption | simp) (by first | omega | (simp; done) | (simp; omega) | (simp at *; omega)))) (fun _ => ?_) : RT _ _ _ _ _ _ 3 _)
        refine (runR (H := (row labE 44 (.slice A (lbs c d (r.l.take v)).length cap) (lbs c d (r.l.take v)) :: blk b2 46 [.int .i64 d.lab.level, .int .u64 d.lab.cats, .slice (some ⟨sb, so, none⟩) d.routes.l.length d.routes.c, .slice d.release.a d.release.l.length d.release.c, .int .i64 d.to, .int .i64 d.threads, .int .i64 d.groups, .int .i64 d.ring, .int .i64 d.sends, .int .i64 d.box] :: blk b1 25 [.int .i64 c.frame, .int .i64 c.epoch, .slice c.plans.a c.plans.l.length c.plans.c, .slice c.domains.a c.domains.l.length c.domains.c] :: H)) (z := 0) 2 [2, 4, 5, 6, 7, 8, 9] [(2, .pointer (some ⟨b1, 0, none⟩)), (4, .bool false), (5, .pointer (some ⟨b2, 0, none⟩)), (6, .int .i64 (u : Int)), (7, .slice A ((lbs c d (r.l.take v)).length) cap), (8, .int .i64 (v : Int)), (9, .int .i64 y)] [(⟨tb, to_ + v * 1, none⟩, .int .i64 y)] (hasC (up (up (up ((hk.route d hdm r hrm).cell hC (i := v) (x := y) hy (j := 0) rfl)))) has0) (fun _ => by kernel_rfl) (endR ?_) : RT _ _ _ _ _ _ 2 _)
        refine seqR (by kernel_rfl) ?_
        refine seqR (by kernel_rfl) ?_
        refine regionR 11 (by kernel_rfl) (by kernel_rfl) ?_
        refine (runR (H := (row labE 44 (.slice A (lbs c d (r.l.take v)).length cap) (lbs c d (r.l.take v)) :: blk b2 46 [.int .i64 d.lab.level, .int .u64 d.lab.cats, .slice (some ⟨sb, so, none⟩) d.routes.l.length d.routes.c, .slice d.release.a d.release.l.length d.release.c, .int .i64 d.to, .int .i64 d.threads, .int .i64 d.groups, .int .i64 d.ring, .int .i64 d.sends, .int .i64 d.box] :: blk b1 25 [.int .i64 c.frame, .int .i64 c.epoch, .slice c.plans.a c.plans.l.length c.plans.c, .slice c.domains.a c.domains.l.length c.domains.c] :: H)) (z := 6) 5 [2, 4, 5, 6, 7, 8, 9, 79, 83] [(2, .pointer (some ⟨b1, 0, none⟩)), (4, .bool false), (5, .pointer (some ⟨b2, 0, none⟩)), (6, .int .i64 (u : Int)), (7, .slice A ((lbs c d (r.l.take v)).length) cap), (8, .int .i64 (v : Int)), (9, .int .i64 y), (79, .int .i64 y), (83, .int .i64 (IntKind.i64.wrap ((c.domains.l.length : Int) - 1)))] [(⟨b1, 3, none⟩, .slice c.domains.a c.domains.l.length c.domains.c)] (hasC (blkAt (T := 25) (cs := [.int .i64 c.frame, .int .i64 c.epoch, .slice c.plans.a c.plans.l.length c.plans.c, .slice c.domains.a c.domains.l.length c.domains.c]) 2 rfl rfl) has0) (fun _ => by kernel_rfl) ?_ : RT _ _ _ _ _ _ 11 _)
        refine (stepR (z := 5) (callS 27 [.int .i64 y, .int .i64 0, .int .i64 (IntKind.i64.wrap ((c.domains.l.length : Int) - 1))] (some 84) (fun _ => .bool (inb y 0 (IntKind.i64.wrap ((c.domains.l.length : Int) - 1)))) (fun (_ : Unit) => (row labE 44 (.slice A (lbs c d (r.l.take v)).length cap) (lbs c d (r.l.take v)) :: blk b2 46 [.int .i64 d.lab.level, .int .u64 d.lab.cats, .slice (some ⟨sb, so, none⟩) d.routes.l.length d.routes.c, .slice d.release.a d.release.l.length d.release.c, .int .i64 d.to, .int .i64 d.threads, .int .i64 d.groups, .int .i64 d.ring, .int .i64 d.sends, .int .i64 d.box] :: blk b1 25 [.int .i64 c.frame, .int .i64 c.epoch, .slice c.plans.a c.plans.l.length c.plans.c, .slice c.domains.a c.domains.l.length c.domains.c] :: H)) (fun _ => by kernel_rfl) (rwithin_walk _ y 0 (IntKind.i64.wrap ((c.domains.l.length : Int) - 1)))) (fun _ => ?_) : RT _ _ _ _ _ _ 6 _)
        refine (run0 (z := 3) 2 [2, 4, 5, 6, 7, 8, 9, 86] [(2, .pointer (some ⟨b1, 0, none⟩)), (4, .bool false), (5, .pointer (some ⟨b2, 0, none⟩)), (6, .int .i64 (u : Int)), (7, .slice A ((lbs c d (r.l.take v)).length) cap), (8, .int .i64 (v : Int)), (9, .int .i64 y), (86, .bool (!(inb y 0 (IntKind.i64.wrap ((c.domains.l.length : Int) - 1)))))] (fun _ => by kernel_rfl) ?_ : RT _ _ _ _ _ _ 5 _)
        refine (segR (ι := Unit) (z := 0) 3 (fun _ => [(2, .pointer (some ⟨b1, 0, none⟩)), (4, .bool false), (5, .pointer (some ⟨b2, 0, none⟩)), (6, .int .i64 (u : Int)), (7, .slice A ((lbs c d (r.l.take v)).length) cap), (8, .int .i64 (v : Int)), (9, .int .i64 y), (89, .bool ((!(inb y 0 (IntKind.i64.wrap ((c.domains.l.length : Int) - 1)))) || (decide ((v : Int) > 300))))]) (fun _ => (row labE 44 (.slice A (lbs c d (r.l.take v)).length cap) (lbs c d (r.l.take v)) :: blk b2 46 [.int .i64 d.lab.level, .int .u64 d.lab.cats, .slice (some ⟨sb, so, none⟩) d.routes.l.length d.routes.c, .slice d.release.a d.release.l.length d.release.c, .int .i64 d.to, .int .i64 d.threads, .int .i64 d.groups, .int .i64 d.ring, .int .i64 d.sends, .int .i64 d.box] :: blk b1 25 [.int .i64 c.frame, .int .i64 c.epoch, .slice c.plans.a c.plans.l.length c.plans.c, .slice c.domains.a c.domains.l.length c.domains.c] :: H)) ?_ (fun _ => ?_) : RT _ _ _ _ _ _ 3 _)
        · cases hg8 : (!(inb y 0 (IntKind.i64.wrap ((c.domains.l.length : Int) - 1)))) with
          | true =>
            refine (run0 (z := 0) 3 [2, 4, 5, 6, 7, 8, 9, 89] [(2, .pointer (some ⟨b1, 0, none⟩)), (4, .bool false), (5, .pointer (some ⟨b2, 0, none⟩)), (6, .int .i64 (u : Int)), (7, .slice A ((lbs c d (r.l.take v)).length) cap), (8, .int .i64 (v : Int)), (9, .int .i64 y), (89, .bool true)] (fun _ => by kernel_rfl) (endR ?_) : RT _ _ _ _ _ _ 3 _)
            refine PT.keep (L' := [(2, .pointer (some ⟨b1, 0, none⟩)), (4, .bool false), (5, .pointer (some ⟨b2, 0, none⟩)), (6, .int .i64 (u : Int)), (7, .slice A ((lbs c d (r.l.take v)).length) cap), (8, .int .i64 (v : Int)), (9, .int .i64 y), (89, .bool (true || (decide ((v : Int) > 300))))]) [2, 4, 5, 6, 7, 8, 9, 89] rfl ?_
            exact midR () rfl rfl
          | false =>
            refine (run0 (z := 0) 3 [2, 4, 5, 6, 7, 8, 9, 89] [(2, .pointer (some ⟨b1, 0, none⟩)), (4, .bool false), (5, .pointer (some ⟨b2, 0, none⟩)), (6, .int .i64 (u : Int)), (7, .slice A ((lbs c d (r.l.take v)).length) cap), (8, .int .i64 (v : Int)), (9, .int .i64 y), (89, .bool (decide ((v : Int) > 300)))] (fun _ => by kernel_rfl) (endR ?_) : RT _ _ _ _ _ _ 3 _)
            refine PT.keep (L' := [(2, .pointer (some ⟨b1, 0, none⟩)), (4, .bool false), (5, .pointer (some ⟨b2, 0, none⟩)), (6, .int .i64 (u : Int)), (7, .slice A ((lbs c d (r.l.take v)).length) cap), (8, .int .i64 (v : Int)), (9, .int .i64 y), (89, .bool (false || (decide ((v : Int) > 300))))]) [2, 4, 5, 6, 7, 8, 9, 89] rfl ?_
            exact midR () rfl rfl
        refine endR ?_
        refine condR (b := (!(inb y 0 (IntKind.i64.wrap ((c.domains.l.length : Int) - 1)))) || (decide ((v : Int) > 300))) (by kernel_rfl) (fun _ => by kernel_rfl) (fun h3 => ?_) (fun h3 => ?_)
        · skip
          refine seqR (by kernel_rfl) ?_
          refine regionR 1 (by kernel_rfl) (by kernel_rfl) ?_
          refine (run0 (z := 0) 1 [2, 4, 5, 6, 7, 8, 9] [(2, .pointer (some ⟨b1, 0, none⟩)), (4, .bool false), (5, .pointer (some ⟨b2, 0, none⟩)), (6, .int .i64 (u : Int)), (7, .slice A ((lbs c d (r.l.take v)).length) cap), (8, .int .i64 (v : Int)), (9, .int .i64 y)] (fun _ => by kernel_rfl) (endR ?_) : RT _ _ _ _ _ _ 1 _)
          refine retR (by kernel_rfl) ?_
          refine thenV ?_
          refine blockV ?_
          refine thenV ?_
          refine thenV ?_
          refine blockV ?_
          refine thenV ?_
          refine blockV ?_
          refine thenV ?_
          refine thenV ?_
          refine blockV ?_
          refine thenV ?_
          have hpb : rrisesOk c d r.l = false := by
            have h0 : r.l.all (isDom c) = false := by
              rw [← Bool.not_eq_true]
              intro h1
              have h4 : isDom c y = true := List.all_eq_true.1 h1 y hym
              rw [Bool.or_eq_true] at h3
              rcases h3 with h3 | h3
              · rw [show inb y 0 (IntKind.i64.wrap ((c.domains.l.length : Int) - 1)) = true from h4] at h3; simp at h3
              · have := of_decide_eq_true h3; omega
            rw [rrisesOk, h0, Bool.false_and]
          refine done0 (.bool false) (fun _ => by kernel_rfl) (fun w hs => ?_) .ret (.inr rfl)
          exact ⟨(), by rw [hbad hpb], hs.tail.tail.tail⟩
        · skip
          have hin : inb y 0 (IntKind.i64.wrap ((c.domains.l.length : Int) - 1)) = true := by simp only [Bool.or_eq_false_iff, Bool.not_eq_false'] at h3; exact h3.1
          have hyd : isDom c y = true := hin
          have hin' := hin
          simp only [inb, hnw, Bool.and_eq_true, decide_eq_true_eq] at hin'
          obtain ⟨m, hm⟩ : ∃ m : Nat, y = (m : Int) := ⟨y.toNat, by omega⟩
          subst hm
          have hmn : m < c.domains.l.length := by omega
          obtain ⟨e, he⟩ : ∃ e, c.domains.l[m]? = some e := ⟨_, by simp [hmn]; rfl⟩
          refine PT.know ((hk.domains).up.up.up.isSome (List.ne_nil_of_length_pos (by omega))) ?_
          rintro ⟨eb, eo, hD⟩
          try rw [hD]
          refine skipR (by kernel_rfl) ?_
          refine regionR 10 (by kernel_rfl) (by kernel_rfl) ?_
          refine (runR (H := (row labE 44 (.slice A (lbs c d (r.l.take v)).length cap) (lbs c d (r.l.take v)) :: blk b2 46 [.int .i64 d.lab.level, .int .u64 d.lab.cats, .slice (some ⟨sb, so, none⟩) d.routes.l.length d.routes.c, .slice d.release.a d.release.l.length d.release.c, .int .i64 d.to, .int .i64 d.threads, .int .i64 d.groups, .int .i64 d.ring, .int .i64 d.sends, .int .i64 d.box] :: blk b1 25 [.int .i64 c.frame, .int .i64 c.epoch, .slice c.plans.a c.plans.l.length c.plans.c, .slice (some ⟨eb, eo, none⟩) c.domains.l.length c.domains.c] :: H)) (z := 6) 4 [2, 4, 5, 6, 7, 8, 90, 92, 93] [(2, .pointer (some ⟨b1, 0, none⟩)), (4, .bool false), (5, .pointer (some ⟨b2, 0, none⟩)), (6, .int .i64 (u : Int)), (7, .slice A ((lbs c d (r.l.take v)).length) cap), (8, .int .i64 (v : Int)), (90, .slice A ((lbs c d (r.l.take v)).length) cap), (92, .slice (some ⟨eb, eo, none⟩) c.domains.l.length c.domains.c), (93, .int .i64 (m : Int))] [(⟨b1, 3, none⟩, .slice (some ⟨eb, eo, none⟩) c.domains.l.length c.domains.c)] (hasC (blkAt (T := 25) (cs := [.int .i64 c.frame, .int .i64 c.epoch, .slice c.plans.a c.plans.l.length c.plans.c, .slice (some ⟨eb, eo, none⟩) c.domains.l.length c.domains.c]) 2 rfl rfl) has0) (fun _ => by kernel_rfl) ?_ : RT _ _ _ _ _ _ 10 _)
          refine (stepR (z := 5) (yldS (idxY 23 (.tmp 92) (.tmp 93) eb eo c.domains.l.length c.domains.c m 10 46 (m : Int) .i64 (some 94) (fun _ => by kernel_rfl) (by kernel_rfl) (by kernel_rfl) (fun _ => by kernel_rfl) (fun _ => by kernel_rfl) Try.underlying23 (by kernel_rfl) (by first | rfl | assumption | simp) (by first | omega | (simp; done) | (simp; omega) | (simp at *; omega)))) (fun _ => ?_) : RT _ _ _ _ _ _ 6 _)
          refine (runR (H := (row labE 44 (.slice A (lbs c d (r.l.take v)).length cap) (lbs c d (r.l.take v)) :: blk b2 46 [.int .i64 d.lab.level, .int .u64 d.lab.cats, .slice (some ⟨sb, so, none⟩) d.routes.l.length d.routes.c, .slice d.release.a d.release.l.length d.release.c, .int .i64 d.to, .int .i64 d.threads, .int .i64 d.groups, .int .i64 d.ring, .int .i64 d.sends, .int .i64 d.box] :: blk b1 25 [.int .i64 c.frame, .int .i64 c.epoch, .slice c.plans.a c.plans.l.length c.plans.c, .slice (some ⟨eb, eo, none⟩) c.domains.l.length c.domains.c] :: H)) (z := 3) 2 [2, 4, 5, 6, 7, 8, 90, 96] [(2, .pointer (some ⟨b1, 0, none⟩)), (4, .bool false), (5, .pointer (some ⟨b2, 0, none⟩)), (6, .int .i64 (u : Int)), (7, .slice A ((lbs c d (r.l.take v)).length) cap), (8, .int .i64 (v : Int)), (90, .slice A ((lbs c d (r.l.take v)).length) cap), (96, .agg #[.int .i64 e.lab.level, .int .u64 e.lab.cats])] [(⟨eb, eo + m * 10, none⟩, .int .i64 e.lab.level), (⟨eb, eo + m * 10 + 1, none⟩, .int .u64 e.lab.cats)] (hasC (up (up (up (hk.domains.cell hD (i := m) (x := e) he (j := 0) rfl)))) (hasC (up (up (up (hk.domains.cell hD (i := m) (x := e) he (j := 1) rfl)))) has0)) (fun _ => by kernel_rfl) ?_ : RT _ _ _ _ _ _ 5 _)
          refine (stepR (z := 2) (newS 44 [.int .i64 e.lab.level, .int .u64 e.lab.cats] (some 97) (fun b => .slice (some ⟨b, 0, none⟩) 1 1) (fun _ _ => by kernel_rfl)) (fun b4 => ?_) : RT _ _ _ _ _ _ 3 _)
          refine RT.pick 1 rfl ?_
          refine (stepR (z := 1) (appS (E := labE) 67 (.tmp 90) (.tmp 97) A cap (lbs c d (r.l.take v)) [e.lab] (.slice (some ⟨b4, 0, none⟩) 1 1) (some 98) (fun _ => by kernel_rfl) (by kernel_rfl) (by kernel_rfl) (fun _ => by kernel_rfl) (fun _ => by kernel_rfl) Try.underlying67 (labE_ety) (blkRd 1 rfl) (by simp only [lbs, List.length_cons, List.length_map, List.length_take, List.length_nil]; omega)) (fun r5 => ?_) : RT _ _ _ (row labE 44 (.slice A (lbs c d (r.l.take v)).length cap) (lbs c d (r.l.take v)) :: blk b4 44 [.int .i64 e.lab.level, .int .u64 e.lab.cats] :: blk b2 46 [.int .i64 d.lab.level, .int .u64 d.lab.cats, .slice (some ⟨sb, so, none⟩) d.routes.l.length d.routes.c, .slice d.release.a d.release.l.length d.release.c, .int .i64 d.to, .int .i64 d.threads, .int .i64 d.groups, .int .i64 d.ring, .int .i64 d.sends, .int .i64 d.box] :: blk b1 25 [.int .i64 c.frame, .int .i64 c.epoch, .slice c.plans.a c.plans.l.length c.plans.c, .slice (some ⟨eb, eo, none⟩) c.domains.l.length c.domains.c] :: H) _ _ 2 _)
          refine (run0 (z := 0) 1 [2, 4, 5, 6, 7, 8] [(2, .pointer (some ⟨b1, 0, none⟩)), (4, .bool false), (5, .pointer (some ⟨b2, 0, none⟩)), (6, .int .i64 (u : Int)), (7, .slice r5.1 (((lbs c d (r.l.take v)) ++ [e.lab]).length) r5.2), (8, .int .i64 (v : Int))] (fun _ => by kernel_rfl) (endR ?_) : RT _ _ _ _ _ _ 1 _)
          refine regionR 3 (by kernel_rfl) (by kernel_rfl) ?_
          refine (run0 (z := 0) 3 [2, 4, 5, 6, 7, 8] [(2, .pointer (some ⟨b1, 0, none⟩)), (4, .bool false), (5, .pointer (some ⟨b2, 0, none⟩)), (6, .int .i64 (u : Int)), (7, .slice r5.1 (((lbs c d (r.l.take v)) ++ [e.lab]).length) r5.2), (8, .int .i64 (IntKind.i64.wrap ((v : Int) + 1)))] (fun _ => by kernel_rfl) (endR ?_) : RT _ _ _ _ _ _ 3 _)
          have hlb : lbs c d (r.l.take v) ++ [e.lab] = lbs c d (r.l.take (v + 1)) := by rw [ht]; simp [lbs, labAt, he]
          rw [hlb, hw2]
          try rw [← hD]
          try rw [← hC]
          try rw [← hA]
          refine PT.pick 1 rfl ?_
          refine PT.drop ?_
          refine PT.keep (L' := [(2, .pointer (some ⟨b1, 0, none⟩)), (4, .bool false), (5, .pointer (some ⟨b2, 0, none⟩)), (6, .int .i64 (u : Int)), (7, .slice r5.1 ((lbs c d (r.l.take (v + 1))).length) r5.2), (8, .int .i64 ((v + 1 : Nat) : Int))]) [2, 4, 5, 6, 7, 8] rfl ?_
          exact againG (k2 - 1) (r5, v + 1) rfl rfl (by omega) ⟨by simp only; omega, by simp only [ht, List.all_append, hal2, List.all_cons, hyd, List.all_nil, Bool.and_self]⟩
      · skip
        have hv : v = r.l.length := by have := of_decide_eq_false h2; omega
        rw [hv, List.take_length] at hal2
        rw [hv, List.take_length]
        try rw [← hA]
        refine exitR 2 (by kernel_rfl) (by kernel_rfl) ?_
        refine thenX ?_
        refine thenX ?_
        refine leaveR ?_
        refine seqR (by kernel_rfl) ?_
        refine regionR 8 (by kernel_rfl) (by kernel_rfl) ?_
        refine (run0 (z := 4) 4 [2, 4, 5, 6, 7, 102] [(2, .pointer (some ⟨b1, 0, none⟩)), (4, .bool false), (5, .pointer (some ⟨b2, 0, none⟩)), (6, .int .i64 (u : Int)), (7, .slice A ((lbs c d (r.l)).length) cap), (102, .bool (((lbs c d (r.l)).length : Int) == 1))] (fun _ => by kernel_rfl) ?_ : RT _ _ _ _ _ _ 8 _)
        refine (segR (ι := Unit) (z := 0) 4 (fun _ => [(2, .pointer (some ⟨b1, 0, none⟩)), (4, .bool false), (5, .pointer (some ⟨b2, 0, none⟩)), (6, .int .i64 (u : Int)), (106, .bool ((((lbs c d (r.l)).length : Int) == 1) || (!(chainOk (lbs c d r.l)))))]) (fun _ => (row labE 44 (.slice A (lbs c d (r.l)).length cap) (lbs c d (r.l)) :: blk b2 46 [.int .i64 d.lab.level, .int .u64 d.lab.cats, .slice d.routes.a d.routes.l.length d.routes.c, .slice d.release.a d.release.l.length d.release.c, .int .i64 d.to, .int .i64 d.threads, .int .i64 d.groups, .int .i64 d.ring, .int .i64 d.sends, .int .i64 d.box] :: blk b1 25 [.int .i64 c.frame, .int .i64 c.epoch, .slice c.plans.a c.plans.l.length c.plans.c, .slice c.domains.a c.domains.l.length c.domains.c] :: H)) ?_ (fun _ => ?_) : RT _ _ _ _ _ _ 4 _)
        · cases hg4 : (((lbs c d (r.l)).length : Int) == 1) with
          | true =>
            refine (run0 (z := 0) 4 [2, 4, 5, 6, 106] [(2, .pointer (some ⟨b1, 0, none⟩)), (4, .bool false), (5, .pointer (some ⟨b2, 0, none⟩)), (6, .int .i64 (u : Int)), (106, .bool true)] (fun _ => by kernel_rfl) (endR ?_) : RT _ _ _ _ _ _ 4 _)
            refine PT.keep (L' := [(2, .pointer (some ⟨b1, 0, none⟩)), (4, .bool false), (5, .pointer (some ⟨b2, 0, none⟩)), (6, .int .i64 (u : Int)), (106, .bool (true || (!(chainOk (lbs c d r.l)))))]) [2, 4, 5, 6, 106] rfl ?_
            exact midR () rfl rfl
          | false =>
            refine (run0 (z := 3) 1 [2, 4, 5, 6, 102, 103] [(2, .pointer (some ⟨b1, 0, none⟩)), (4, .bool false), (5, .pointer (some ⟨b2, 0, none⟩)), (6, .int .i64 (u : Int)), (102, .bool false), (103, .slice A ((lbs c d (r.l)).length) cap)] (fun _ => by kernel_rfl) ?_ : RT _ _ _ _ _ _ 4 _)
            refine (stepR (z := 2) (callS 44 [.slice A ((lbs c d (r.l)).length) cap] (some 104) (fun _ => .bool (chainOk (lbs c d r.l))) (fun _ => (row labE 44 (.slice A (lbs c d (r.l)).length cap) (lbs c d (r.l)) :: blk b2 46 [.int .i64 d.lab.level, .int .u64 d.lab.cats, .slice d.routes.a d.routes.l.length d.routes.c, .slice d.release.a d.release.l.length d.release.c, .int .i64 d.to, .int .i64 d.threads, .int .i64 d.groups, .int .i64 d.ring, .int .i64 d.sends, .int .i64 d.box] :: blk b1 25 [.int .i64 c.frame, .int .i64 c.epoch, .slice c.plans.a c.plans.l.length c.plans.c, .slice c.domains.a c.domains.l.length c.domains.c] :: H)) (fun _ => by kernel_rfl) (rchain_walk (row labE 44 (.slice A (lbs c d (r.l)).length cap) (lbs c d (r.l)) :: blk b2 46 [.int .i64 d.lab.level, .int .u64 d.lab.cats, .slice d.routes.a d.routes.l.length d.routes.c, .slice d.release.a d.release.l.length d.release.c, .int .i64 d.to, .int .i64 d.threads, .int .i64 d.groups, .int .i64 d.ring, .int .i64 d.sends, .int .i64 d.box] :: blk b1 25 [.int .i64 c.frame, .int .i64 c.epoch, .slice c.plans.a c.plans.l.length c.plans.c, .slice c.domains.a c.domains.l.length c.domains.c] :: H) ⟨A, cap, lbs c d r.l⟩ rowKR (by simp only [lbs, List.length_cons, List.length_map]; omega))) (fun _ => ?_) : RT _ _ _ _ _ _ 3 _)
            refine (run0 (z := 0) 2 [2, 4, 5, 6, 106] [(2, .pointer (some ⟨b1, 0, none⟩)), (4, .bool false), (5, .pointer (some ⟨b2, 0, none⟩)), (6, .int .i64 (u : Int)), (106, .bool (!(chainOk (lbs c d r.l))))] (fun _ => by kernel_rfl) (endR ?_) : RT _ _ _ _ _ _ 2 _)
            refine PT.keep (L' := [(2, .pointer (some ⟨b1, 0, none⟩)), (4, .bool false), (5, .pointer (some ⟨b2, 0, none⟩)), (6, .int .i64 (u : Int)), (106, .bool (false || (!(chainOk (lbs c d r.l)))))]) [2, 4, 5, 6, 106] rfl ?_
            exact midR () rfl rfl
        refine endR ?_
        refine condR (b := (((lbs c d (r.l)).length : Int) == 1) || (!(chainOk (lbs c d r.l)))) (by kernel_rfl) (fun _ => by kernel_rfl) (fun h3 => ?_) (fun h3 => ?_)
        · skip
          refine seqR (by kernel_rfl) ?_
          refine regionR 1 (by kernel_rfl) (by kernel_rfl) ?_
          refine (run0 (z := 0) 1 [2, 4, 5, 6] [(2, .pointer (some ⟨b1, 0, none⟩)), (4, .bool false), (5, .pointer (some ⟨b2, 0, none⟩)), (6, .int .i64 (u : Int))] (fun _ => by kernel_rfl) (endR ?_) : RT _ _ _ _ _ _ 1 _)
          refine retR (by kernel_rfl) ?_
          refine blockV ?_
          refine thenV ?_
          refine thenV ?_
          refine blockV ?_
          refine thenV ?_
          have hpb : rrisesOk c d r.l = false := by rw [rrisesOk, show ((((lbs c d r.l).length : Int) == 1) || !chainOk (lbs c d r.l)) = true from h3]; simp
          refine done0 (.bool false) (fun _ => by kernel_rfl) (fun w hs => ?_) .ret (.inr rfl)
          exact ⟨(), by rw [hbad hpb], hs.tail.tail.tail⟩
        · skip
          refine skipR (by kernel_rfl) ?_
          refine regionR 3 (by kernel_rfl) (by kernel_rfl) ?_
          refine (run0 (z := 0) 3 [2, 4, 5, 6] [(2, .pointer (some ⟨b1, 0, none⟩)), (4, .bool false), (5, .pointer (some ⟨b2, 0, none⟩)), (6, .int .i64 (IntKind.i64.wrap ((u : Int) + 1)))] (fun _ => by kernel_rfl) (endR ?_) : RT _ _ _ _ _ _ 3 _)
          have hok : rrisesOk c d r.l = true := by rw [rrisesOk, hal2, show ((((lbs c d r.l).length : Int) == 1) || !chainOk (lbs c d r.l)) = false from h3]; rfl
          refine PT.drop ?_
          refine PT.keep (L' := [(2, .pointer (some ⟨b1, 0, none⟩)), (4, .bool false), (5, .pointer (some ⟨b2, 0, none⟩)), (6, .int .i64 (IntKind.i64.wrap ((u : Int) + 1)))]) [2, 4, 5, 6] rfl ?_
          exact againG (k - 1) (u + 1) (by rw [hw]) rfl (by omega) ⟨by omega, by rw [ht1, List.all_append, hall]; simp only [List.all_cons, List.all_nil, hok, Bool.and_self]⟩
    · skip
      have hu : u = d.routes.l.length := by have := of_decide_eq_false h; omega
      rw [hu, List.take_length] at hall
      refine exitR 0 (by kernel_rfl) (by kernel_rfl) ?_
      refine thenX ?_
      refine thenX ?_
      refine leaveR ?_
      refine seqR (by kernel_rfl) ?_
      refine seqR (by kernel_rfl) ?_
      refine regionR 3 (by kernel_rfl) (by kernel_rfl) ?_
      refine (runR (H := (blk b2 46 [.int .i64 d.lab.level, .int .u64 d.lab.cats, .slice d.routes.a d.routes.l.length d.routes.c, .slice d.release.a d.release.l.length d.release.c, .int .i64 d.to, .int .i64 d.threads, .int .i64 d.groups, .int .i64 d.ring, .int .i64 d.sends, .int .i64 d.box] :: blk b1 25 [.int .i64 c.frame, .int .i64 c.epoch, .slice c.plans.a c.plans.l.length c.plans.c, .slice c.domains.a c.domains.l.length c.domains.c] :: H)) (z := 0) 3 [2, 4, 5, 109] [(2, .pointer (some ⟨b1, 0, none⟩)), (4, .bool false), (5, .pointer (some ⟨b2, 0, none⟩)), (109, .bool (d.to == (-1)))] [(⟨b2, 4, none⟩, .int .i64 d.to)] (hasC (blkAt (T := 46) (cs := [.int .i64 d.lab.level, .int .u64 d.lab.cats, .slice d.routes.a d.routes.l.length d.routes.c, .slice d.release.a d.release.l.length d.release.c, .int .i64 d.to, .int .i64 d.threads, .int .i64 d.groups, .int .i64 d.ring, .int .i64 d.sends, .int .i64 d.box]) 0 rfl rfl) has0) (fun _ => by kernel_rfl) (endR ?_) : RT _ _ _ _ _ _ 3 _)
      refine condR (b := d.to == (-1)) (by kernel_rfl) (fun _ => by kernel_rfl) (fun h2 => ?_) (fun h2 => ?_)
      · skip
        refine seqR (by kernel_rfl) ?_
        refine regionR 1 (by kernel_rfl) (by kernel_rfl) ?_
        refine (run0 (z := 0) 1 [2, 4, 5] [(2, .pointer (some ⟨b1, 0, none⟩)), (4, .bool true), (5, .pointer (some ⟨b2, 0, none⟩))] (fun _ => by kernel_rfl) (endR ?_) : RT _ _ _ _ _ _ 1 _)
        refine retR (by kernel_rfl) ?_
        refine thenV ?_
        refine done0 (.bool true) (fun _ => by kernel_rfl) (fun w hs => ?_) .ret (.inr rfl)
        exact ⟨(), by rw [rroutesOk, if_neg hb1, if_neg (by rw [hall]; simp), if_pos h2], hs.tail.tail⟩
      · skip
        have h2' : ¬ (d.to == -1) = true := by rw [show (d.to == -1) = false from h2]; simp
        have hb2 := hb1
        simp only [Bool.or_eq_true, Bool.and_eq_true, decide_eq_true_eq, not_or, beq_iff_eq, not_and] at hb2
        have h2n : d.to ≠ -1 := by simpa using h2'
        refine skipR (by kernel_rfl) ?_
        refine seqR (by kernel_rfl) ?_
        refine seqR (by kernel_rfl) ?_
        refine regionR 1 (by kernel_rfl) (by kernel_rfl) ?_
        refine (run0 (z := 0) 1 [2, 4, 5, 10] [(2, .pointer (some ⟨b1, 0, none⟩)), (4, .bool false), (5, .pointer (some ⟨b2, 0, none⟩)), (10, .int .i64 0)] (fun _ => by kernel_rfl) (endR ?_) : RT _ _ _ _ _ _ 1 _)
        refine blockR 4 (by kernel_rfl) (by kernel_rfl) ?_
        refine PT.keep (L' := [(2, .pointer (some ⟨b1, 0, none⟩)), (4, .bool false), (5, .pointer (some ⟨b2, 0, none⟩)), (10, .int .i64 0)]) [2, 4, 5, 10] rfl ?_
        refine loopG (fun (v : Nat) => [(2, .pointer (some ⟨b1, 0, none⟩)), (4, .bool false), (5, .pointer (some ⟨b2, 0, none⟩)), (10, .int .i64 (v : Int))]) (fun (v : Nat) => (blk b2 46 [.int .i64 d.lab.level, .int .u64 d.lab.cats, .slice d.routes.a d.routes.l.length d.routes.c, .slice d.release.a d.release.l.length d.release.c, .int .i64 d.to, .int .i64 d.threads, .int .i64 d.groups, .int .i64 d.ring, .int .i64 d.sends, .int .i64 d.box] :: blk b1 25 [.int .i64 c.frame, .int .i64 c.epoch, .slice c.plans.a c.plans.l.length c.plans.c, .slice c.domains.a c.domains.l.length c.domains.c] :: H)) (fun k (v : Nat) => k + v = d.release.l.length ∧ ((d.release.l.take v).all fun x => inb x 0 c.frame) = true) d.release.l.length 0 (by kernel_rfl) ⟨by omega, rfl⟩ ?_
        rintro k2 v ⟨hkv, hal2⟩
        have hw2 : IntKind.i64.wrap ((v : Int) + 1) = ((v + 1 : Nat) : Int) := by rw [IntKind.wrap_i64]; omega
        refine seqR (by kernel_rfl) ?_
        refine seqR (by kernel_rfl) ?_
        refine regionR 5 (by kernel_rfl) (by kernel_rfl) ?_
        refine (runR (H := (blk b2 46 [.int .i64 d.lab.level, .int .u64 d.lab.cats, .slice d.routes.a d.routes.l.length d.routes.c, .slice d.release.a d.release.l.length d.release.c, .int .i64 d.to, .int .i64 d.threads, .int .i64 d.groups, .int .i64 d.ring, .int .i64 d.sends, .int .i64 d.box] :: blk b1 25 [.int .i64 c.frame, .int .i64 c.epoch, .slice c.plans.a c.plans.l.length c.plans.c, .slice c.domains.a c.domains.l.length c.domains.c] :: H)) (z := 0) 5 [2, 4, 5, 10, 114] [(2, .pointer (some ⟨b1, 0, none⟩)), (4, .bool false), (5, .pointer (some ⟨b2, 0, none⟩)), (10, .int .i64 (v : Int)), (114, .bool (decide ((v : Int) < (d.release.l.length : Int))))] [(⟨b2, 3, none⟩, .slice d.release.a d.release.l.length d.release.c)] (hasC (blkAt (T := 46) (cs := [.int .i64 d.lab.level, .int .u64 d.lab.cats, .slice d.routes.a d.routes.l.length d.routes.c, .slice d.release.a d.release.l.length d.release.c, .int .i64 d.to, .int .i64 d.threads, .int .i64 d.groups, .int .i64 d.ring, .int .i64 d.sends, .int .i64 d.box]) 0 rfl rfl) has0) (fun _ => by kernel_rfl) (endR ?_) : RT _ _ _ _ _ _ 5 _)
        refine condR (b := decide ((v : Int) < (d.release.l.length : Int))) (by kernel_rfl) (fun _ => by kernel_rfl) (fun h3 => ?_) (fun h3 => ?_)
        · skip
          have hv : v < d.release.l.length := by have := of_decide_eq_true h3; omega
          obtain ⟨y, hy⟩ : ∃ y, d.release.l[v]? = some y := ⟨_, by simp [hv]; rfl⟩
          have hym : y ∈ d.release.l := List.mem_of_getElem? hy
          have ht : d.release.l.take (v + 1) = d.release.l.take v ++ [y] := by rw [List.take_add_one, hy]; rfl
          refine PT.know (((hk.release d hdm)).up.up.isSome (List.ne_nil_of_length_pos (by omega))) ?_
          rintro ⟨sb, so, hA⟩
          try rw [hA]
          refine skipR (by kernel_rfl) ?_
          refine seqR (by kernel_rfl) ?_
          refine blockR 5 (by kernel_rfl) (by kernel_rfl) ?_
          refine seqR (by kernel_rfl) ?_
          refine drawR (fun w => Sat w (blk b2 46 [.int .i64 d.lab.level, .int .u64 d.lab.cats, .slice d.routes.a d.routes.l.length d.routes.c, .slice (some ⟨sb, so, none⟩) d.release.l.length d.release.c, .int .i64 d.to, .int .i64 d.threads, .int .i64 d.groups, .int .i64 d.ring, .int .i64 d.sends, .int .i64 d.box] :: blk b1 25 [.int .i64 c.frame, .int .i64 c.epoch, .slice c.plans.a c.plans.l.length c.plans.c, .slice c.domains.a c.domains.l.length c.domains.c] :: H)) [] 9 (by kernel_rfl) (by kernel_rfl) (by kernel_rfl) (fun _ h => by first | exact h | exact h.tail | exact h.tail.tail | exact h.tail.tail.tail | exact h.tail.tail.tail.tail) ?_
          refine takesR [0, 1, 2, 5, 6] [2, 4, 5, 10, 118, 119, 123] 4 [true, true, true, false, false, true, true, false, false] [(2, .pointer (some ⟨b1, 0, none⟩)), (4, .bool false), (5, .pointer (some ⟨b2, 0, none⟩)), (10, .int .i64 (v : Int)), (118, .slice (some ⟨sb, so, none⟩) d.release.l.length d.release.c), (119, .int .i64 (v : Int)), (123, .int .i64 c.frame)] [(⟨b2, 3, none⟩, .slice (some ⟨sb, so, none⟩) d.release.l.length d.release.c), (⟨b1, 0, none⟩, .int .i64 c.frame)] rfl (fun _ d _ _ _ h => by cases d <;> exact h) (fun _ h => by first | exact h | exact h.tail | exact h.tail.tail | exact h.tail.tail.tail | exact h.tail.tail.tail.tail) (hasC (blkAt (T := 46) (cs := [.int .i64 d.lab.level, .int .u64 d.lab.cats, .slice d.routes.a d.routes.l.length d.routes.c, .slice (some ⟨sb, so, none⟩) d.release.l.length d.release.c, .int .i64 d.to, .int .i64 d.threads, .int .i64 d.groups, .int .i64 d.ring, .int .i64 d.sends, .int .i64 d.box]) 0 rfl rfl) (hasC (blkAt (T := 25) (cs := [.int .i64 c.frame, .int .i64 c.epoch, .slice c.plans.a c.plans.l.length c.plans.c, .slice c.domains.a c.domains.l.length c.domains.c]) 1 rfl rfl) has0)) (fun _ => by kernel_rfl) ?_
          refine takeR1 3 3 [true, true, true, true, false, true, true, false, false] rfl rfl (by kernel_rfl) (fun _ d _ _ _ h => by cases d <;> exact h) (fun _ h => by first | exact h | exact h.tail | exact h.tail.tail | exact h.tail.tail.tail | exact h.tail.tail.tail.tail) (idxY 26 (.tmp 118) (.tmp 119) sb so d.release.l.length d.release.c v 1 3 (v : Int) .i64 (some 120) (fun _ => by kernel_rfl) (by kernel_rfl) (by kernel_rfl) (fun _ => by kernel_rfl) (fun _ => by kernel_rfl) Try.underlying26 (by kernel_rfl) (by first | rfl | assumption | simp) (by first | omega | (simp; done) | (simp; omega) | (simp at *; omega))) ?_
          refine takesR [4] [2, 4, 5, 10, 123, 121] 2 [true, true, true, true, true, true, true, false, false] [(2, .pointer (some ⟨b1, 0, none⟩)), (4, .bool false), (5, .pointer (some ⟨b2, 0, none⟩)), (10, .int .i64 (v : Int)), (123, .int .i64 c.frame), (121, .int .i64 y)] [(⟨sb, so + v * 1, none⟩, .int .i64 y)] rfl (fun _ d _ _ _ h => by cases d <;> exact h) (fun _ h => by first | exact h | exact h.tail | exact h.tail.tail | exact h.tail.tail.tail | exact h.tail.tail.tail.tail) (hasC (up (up ((hk.release d hdm).cell hA (i := v) (x := y) hy (j := 0) rfl))) has0) (fun _ => by kernel_rfl) ?_
          refine oneR 7 1 [true, true, true, true, true, true, true, true, false] rfl rfl (by kernel_rfl) (callS 27 [.int .i64 y, .int .i64 0, .int .i64 c.frame] (some 124) (fun _ => .bool (inb y 0 c.frame)) (fun (_ : Unit) => (blk b2 46 [.int .i64 d.lab.level, .int .u64 d.lab.cats, .slice d.routes.a d.routes.l.length d.routes.c, .slice (some ⟨sb, so, none⟩) d.release.l.length d.release.c, .int .i64 d.to, .int .i64 d.threads, .int .i64 d.groups, .int .i64 d.ring, .int .i64 d.sends, .int .i64 d.box] :: blk b1 25 [.int .i64 c.frame, .int .i64 c.epoch, .slice c.plans.a c.plans.l.length c.plans.c, .slice c.domains.a c.domains.l.length c.domains.c] :: H)) (fun _ => by kernel_rfl) (rwithin_walk _ y 0 c.frame)) (fun _ _ h _ => by first | exact h | exact h.tail | exact h.tail.tail | exact h.tail.tail.tail | exact h.tail.tail.tail.tail) (fun _ => ?_)
          refine takesR [8] [2, 4, 5, 10, 125] 0 [true, true, true, true, true, true, true, true, true] [(2, .pointer (some ⟨b1, 0, none⟩)), (4, .bool false), (5, .pointer (some ⟨b2, 0, none⟩)), (10, .int .i64 (v : Int)), (125, .bool (!(inb y 0 c.frame)))] [] rfl (fun _ d _ _ _ h => by cases d <;> exact h) (fun _ h => by first | exact h | exact h.tail | exact h.tail.tail | exact h.tail.tail.tail | exact h.tail.tail.tail.tail) has0 (fun _ => by kernel_rfl) ?_
          refine drawnR (by kernel_rfl) ?_
          try rw [← hA]
          refine condR (b := !(inb y 0 c.frame)) (by kernel_rfl) (fun _ => by kernel_rfl) (fun h4 => ?_) (fun h4 => ?_)
          · skip
            refine seqR (by kernel_rfl) ?_
            refine regionR 1 (by kernel_rfl) (by kernel_rfl) ?_
            refine (run0 (z := 0) 1 [2, 4, 5, 10] [(2, .pointer (some ⟨b1, 0, none⟩)), (4, .bool false), (5, .pointer (some ⟨b2, 0, none⟩)), (10, .int .i64 (v : Int))] (fun _ => by kernel_rfl) (endR ?_) : RT _ _ _ _ _ _ 1 _)
            refine retR (by kernel_rfl) ?_
            refine blockV ?_
            refine thenV ?_
            refine thenV ?_
            refine blockV ?_
            refine thenV ?_
            have h0 : (d.release.l.all fun x => inb x 0 c.frame) = false := by
              rw [← Bool.not_eq_true]
              intro h1
              have := List.all_eq_true.1 h1 y hym
              rw [this] at h4
              simp at h4
            refine done0 (.bool false) (fun _ => by kernel_rfl) (fun w hs => ?_) .ret (.inr rfl)
            exact ⟨(), by rw [rroutesOk, if_neg hb1, if_neg (by rw [hall]; simp), if_neg h2', if_pos h0], hs.tail.tail⟩
          · skip
            refine skipR (by kernel_rfl) ?_
            refine regionR 3 (by kernel_rfl) (by kernel_rfl) ?_
            refine (run0 (z := 0) 3 [2, 4, 5, 10] [(2, .pointer (some ⟨b1, 0, none⟩)), (4, .bool false), (5, .pointer (some ⟨b2, 0, none⟩)), (10, .int .i64 (IntKind.i64.wrap ((v : Int) + 1)))] (fun _ => by kernel_rfl) (endR ?_) : RT _ _ _ _ _ _ 3 _)
            have h4' : inb y 0 c.frame = true := by simpa using h4
            refine PT.keep (L' := [(2, .pointer (some ⟨b1, 0, none⟩)), (4, .bool false), (5, .pointer (some ⟨b2, 0, none⟩)), (10, .int .i64 (IntKind.i64.wrap ((v : Int) + 1)))]) [2, 4, 5, 10] rfl ?_
            exact againG (k2 - 1) (v + 1) (by rw [hw2]) rfl (by omega) ⟨by omega, by rw [ht, List.all_append, hal2]; simp only [List.all_cons, List.all_nil, h4', Bool.and_self]⟩
        · skip
          have hv : v = d.release.l.length := by have := of_decide_eq_false h3; omega
          rw [hv, List.take_length] at hal2
          obtain ⟨m, hm⟩ : ∃ m : Nat, d.to = (m : Int) := ⟨d.to.toNat, by omega⟩
          have hmn : m < c.domains.l.length := by omega
          obtain ⟨e, he⟩ : ∃ e, c.domains.l[m]? = some e := ⟨_, by simp [hmn]; rfl⟩
          have hla : labAt c d.to = e.lab := by simp [labAt, hm, he]
          refine PT.know ((hk.domains).up.up.isSome (List.ne_nil_of_length_pos (by omega))) ?_
          rintro ⟨eb, eo, hD⟩
          try rw [hD]
          refine exitR 4 (by kernel_rfl) (by kernel_rfl) ?_
          refine thenX ?_
          refine thenX ?_
          refine leaveR ?_
          refine seqR (by kernel_rfl) ?_
          refine regionR 9 (by kernel_rfl) (by kernel_rfl) ?_
          refine (runR (H := (blk b2 46 [.int .i64 d.lab.level, .int .u64 d.lab.cats, .slice d.routes.a d.routes.l.length d.routes.c, .slice d.release.a d.release.l.length d.release.c, .int .i64 d.to, .int .i64 d.threads, .int .i64 d.groups, .int .i64 d.ring, .int .i64 d.sends, .int .i64 d.box] :: blk b1 25 [.int .i64 c.frame, .int .i64 c.epoch, .slice c.plans.a c.plans.l.length c.plans.c, .slice (some ⟨eb, eo, none⟩) c.domains.l.length c.domains.c] :: H)) (z := 5) 4 [4, 5, 127, 129] [(4, .bool false), (5, .pointer (some ⟨b2, 0, none⟩)), (127, .slice (some ⟨eb, eo, none⟩) c.domains.l.length c.domains.c), (129, .int .i64 d.to)] [(⟨b1, 3, none⟩, .slice (some ⟨eb, eo, none⟩) c.domains.l.length c.domains.c), (⟨b2, 4, none⟩, .int .i64 d.to)] (hasC (blkAt (T := 25) (cs := [.int .i64 c.frame, .int .i64 c.epoch, .slice c.plans.a c.plans.l.length c.plans.c, .slice (some ⟨eb, eo, none⟩) c.domains.l.length c.domains.c]) 1 rfl rfl) (hasC (blkAt (T := 46) (cs := [.int .i64 d.lab.level, .int .u64 d.lab.cats, .slice d.routes.a d.routes.l.length d.routes.c, .slice d.release.a d.release.l.length d.release.c, .int .i64 d.to, .int .i64 d.threads, .int .i64 d.groups, .int .i64 d.ring, .int .i64 d.sends, .int .i64 d.box]) 0 rfl rfl) has0)) (fun _ => by kernel_rfl) ?_ : RT _ _ _ _ _ _ 9 _)
          refine (stepR (z := 4) (yldS (idxY 23 (.tmp 127) (.tmp 129) eb eo c.domains.l.length c.domains.c m 10 46 d.to .i64 (some 130) (fun _ => by kernel_rfl) (by kernel_rfl) (by kernel_rfl) (fun _ => by kernel_rfl) (fun _ => by kernel_rfl) Try.underlying23 (by kernel_rfl) (by first | rfl | assumption | simp) (by omega))) (fun _ => ?_) : RT _ _ _ _ _ _ 5 _)
          refine (runR (H := (blk b2 46 [.int .i64 d.lab.level, .int .u64 d.lab.cats, .slice d.routes.a d.routes.l.length d.routes.c, .slice d.release.a d.release.l.length d.release.c, .int .i64 d.to, .int .i64 d.threads, .int .i64 d.groups, .int .i64 d.ring, .int .i64 d.sends, .int .i64 d.box] :: blk b1 25 [.int .i64 c.frame, .int .i64 c.epoch, .slice c.plans.a c.plans.l.length c.plans.c, .slice (some ⟨eb, eo, none⟩) c.domains.l.length c.domains.c] :: H)) (z := 2) 2 [4, 5, 132] [(4, .bool false), (5, .pointer (some ⟨b2, 0, none⟩)), (132, .agg #[.int .i64 e.lab.level, .int .u64 e.lab.cats])] [(⟨eb, eo + m * 10, none⟩, .int .i64 e.lab.level), (⟨eb, eo + m * 10 + 1, none⟩, .int .u64 e.lab.cats)] (hasC (up (up (hk.domains.cell hD (i := m) (x := e) he (j := 0) rfl))) (hasC (up (up (hk.domains.cell hD (i := m) (x := e) he (j := 1) rfl))) has0)) (fun _ => by kernel_rfl) ?_ : RT _ _ _ _ _ _ 4 _)
          refine (stepR (z := 1) (newS 44 [.int .i64 0, .int .u64 0] (some 11) (fun b => .pointer (some ⟨b, 0, none⟩)) (fun _ _ => by kernel_rfl)) (fun b3 => ?_) : RT _ _ _ _ _ _ 2 _)
          refine (stepR (z := 0) (storeS [(0, .int .i64 e.lab.level), (1, .int .u64 e.lab.cats)] [.int .i64 e.lab.level, .int .u64 e.lab.cats] (fun _ => by kernel_rfl) (by kernel_rfl) (by kernel_rfl)) (fun _ => ?_) : RT _ _ _ _ _ _ 1 _)
          refine endR ?_
          refine seqR (by kernel_rfl) ?_
          refine regionR 17 (by kernel_rfl) (by kernel_rfl) ?_
          refine (runR (H := (blk b3 44 [.int .i64 e.lab.level, .int .u64 e.lab.cats] :: blk b2 46 [.int .i64 d.lab.level, .int .u64 d.lab.cats, .slice d.routes.a d.routes.l.length d.routes.c, .slice d.release.a d.release.l.length d.release.c, .int .i64 d.to, .int .i64 d.threads, .int .i64 d.groups, .int .i64 d.ring, .int .i64 d.sends, .int .i64 d.box] :: blk b1 25 [.int .i64 c.frame, .int .i64 c.epoch, .slice c.plans.a c.plans.l.length c.plans.c, .slice (some ⟨eb, eo, none⟩) c.domains.l.length c.domains.c] :: H)) (z := 14) 3 [11, 4, 5, 135] [(11, .pointer (some ⟨b3, 0, none⟩)), (4, .bool false), (5, .pointer (some ⟨b2, 0, none⟩)), (135, .int .i64 (d.release.l.length : Int))] [(⟨b2, 3, none⟩, .slice d.release.a d.release.l.length d.release.c)] (hasC (blkAt (T := 46) (cs := [.int .i64 d.lab.level, .int .u64 d.lab.cats, .slice d.routes.a d.routes.l.length d.routes.c, .slice d.release.a d.release.l.length d.release.c, .int .i64 d.to, .int .i64 d.threads, .int .i64 d.groups, .int .i64 d.ring, .int .i64 d.sends, .int .i64 d.box]) 1 rfl rfl) has0) (fun _ => by kernel_rfl) ?_ : RT _ _ _ _ _ _ 17 _)
          refine (stepR (z := 13) (callS 27 [.int .i64 (d.release.l.length : Int), .int .i64 1, .int .i64 4] (some 136) (fun _ => .bool (inb (d.release.l.length : Int) 1 4)) (fun (_ : Unit) => (blk b3 44 [.int .i64 e.lab.level, .int .u64 e.lab.cats] :: blk b2 46 [.int .i64 d.lab.level, .int .u64 d.lab.cats, .slice d.routes.a d.routes.l.length d.routes.c, .slice d.release.a d.release.l.length d.release.c, .int .i64 d.to, .int .i64 d.threads, .int .i64 d.groups, .int .i64 d.ring, .int .i64 d.sends, .int .i64 d.box] :: blk b1 25 [.int .i64 c.frame, .int .i64 c.epoch, .slice c.plans.a c.plans.l.length c.plans.c, .slice (some ⟨eb, eo, none⟩) c.domains.l.length c.domains.c] :: H)) (fun _ => by kernel_rfl) (rwithin_walk _ (d.release.l.length : Int) 1 4)) (fun _ => ?_) : RT _ _ _ _ _ _ 14 _)
          refine (run0 (z := 12) 1 [11, 4, 5, 137] [(11, .pointer (some ⟨b3, 0, none⟩)), (4, .bool false), (5, .pointer (some ⟨b2, 0, none⟩)), (137, .bool (inb (d.release.l.length : Int) 1 4))] (fun _ => by kernel_rfl) ?_ : RT _ _ _ _ _ _ 13 _)
          refine (segR (ι := Unit) (z := 7) 5 (fun _ => [(11, .pointer (some ⟨b3, 0, none⟩)), (4, .bool false), (5, .pointer (some ⟨b2, 0, none⟩)), (142, .bool ((inb (d.release.l.length : Int) 1 4) && (labLeq e.lab d.lab)))]) (fun _ => (blk b3 44 [.int .i64 e.lab.level, .int .u64 e.lab.cats] :: blk b2 46 [.int .i64 d.lab.level, .int .u64 d.lab.cats, .slice d.routes.a d.routes.l.length d.routes.c, .slice d.release.a d.release.l.length d.release.c, .int .i64 d.to, .int .i64 d.threads, .int .i64 d.groups, .int .i64 d.ring, .int .i64 d.sends, .int .i64 d.box] :: blk b1 25 [.int .i64 c.frame, .int .i64 c.epoch, .slice c.plans.a c.plans.l.length c.plans.c, .slice (some ⟨eb, eo, none⟩) c.domains.l.length c.domains.c] :: H)) ?_ (fun _ => ?_) : RT _ _ _ _ _ _ 12 _)
          · cases hg5 : (inb (d.release.l.length : Int) 1 4) with
            | true =>
              refine (runR (H := (blk b3 44 [.int .i64 e.lab.level, .int .u64 e.lab.cats] :: blk b2 46 [.int .i64 d.lab.level, .int .u64 d.lab.cats, .slice d.routes.a d.routes.l.length d.routes.c, .slice d.release.a d.release.l.length d.release.c, .int .i64 d.to, .int .i64 d.threads, .int .i64 d.groups, .int .i64 d.ring, .int .i64 d.sends, .int .i64 d.box] :: blk b1 25 [.int .i64 c.frame, .int .i64 c.epoch, .slice c.plans.a c.plans.l.length c.plans.c, .slice (some ⟨eb, eo, none⟩) c.domains.l.length c.domains.c] :: H)) (z := 2) 3 [11, 4, 5, 137, 138, 140] [(11, .pointer (some ⟨b3, 0, none⟩)), (4, .bool false), (5, .pointer (some ⟨b2, 0, none⟩)), (137, .bool true), (138, .agg #[.int .i64 e.lab.level, .int .u64 e.lab.cats]), (140, .agg #[.int .i64 d.lab.level, .int .u64 d.lab.cats])] [(⟨b3, 0, none⟩, .int .i64 e.lab.level), (⟨b3, 1, none⟩, .int .u64 e.lab.cats), (⟨b2, 0, none⟩, .int .i64 d.lab.level), (⟨b2, 1, none⟩, .int .u64 d.lab.cats)] (hasC (blkAt (T := 44) (cs := [.int .i64 e.lab.level, .int .u64 e.lab.cats]) 0 rfl rfl) (hasC (blkAt (T := 44) (cs := [.int .i64 e.lab.level, .int .u64 e.lab.cats]) 0 rfl rfl) (hasC (blkAt (T := 46) (cs := [.int .i64 d.lab.level, .int .u64 d.lab.cats, .slice d.routes.a d.routes.l.length d.routes.c, .slice d.release.a d.release.l.length d.release.c, .int .i64 d.to, .int .i64 d.threads, .int .i64 d.groups, .int .i64 d.ring, .int .i64 d.sends, .int .i64 d.box]) 1 rfl rfl) (hasC (blkAt (T := 46) (cs := [.int .i64 d.lab.level, .int .u64 d.lab.cats, .slice d.routes.a d.routes.l.length d.routes.c, .slice d.release.a d.release.l.length d.release.c, .int .i64 d.to, .int .i64 d.threads, .int .i64 d.groups, .int .i64 d.ring, .int .i64 d.sends, .int .i64 d.box]) 1 rfl rfl) has0)))) (fun _ => by kernel_rfl) ?_ : RT _ _ _ _ _ _ 5 _)
              refine (stepR (z := 1) (callS 45 [.agg #[.int .i64 e.lab.level, .int .u64 e.lab.cats], .agg #[.int .i64 d.lab.level, .int .u64 d.lab.cats]] (some 141) (fun _ => .bool (labLeq e.lab d.lab)) (fun (_ : Unit) => (blk b3 44 [.int .i64 e.lab.level, .int .u64 e.lab.cats] :: blk b2 46 [.int .i64 d.lab.level, .int .u64 d.lab.cats, .slice d.routes.a d.routes.l.length d.routes.c, .slice d.release.a d.release.l.length d.release.c, .int .i64 d.to, .int .i64 d.threads, .int .i64 d.groups, .int .i64 d.ring, .int .i64 d.sends, .int .i64 d.box] :: blk b1 25 [.int .i64 c.frame, .int .i64 c.epoch, .slice c.plans.a c.plans.l.length c.plans.c, .slice (some ⟨eb, eo, none⟩) c.domains.l.length c.domains.c] :: H)) (fun _ => by kernel_rfl) (rlabLeq_walk _ e.lab d.lab)) (fun _ => ?_) : RT _ _ _ _ _ _ 2 _)
              refine (run0 (z := 0) 1 [11, 4, 5, 142] [(11, .pointer (some ⟨b3, 0, none⟩)), (4, .bool false), (5, .pointer (some ⟨b2, 0, none⟩)), (142, .bool (labLeq e.lab d.lab))] (fun _ => by kernel_rfl) (endR ?_) : RT _ _ _ _ _ _ 1 _)
              refine PT.keep (L' := [(11, .pointer (some ⟨b3, 0, none⟩)), (4, .bool false), (5, .pointer (some ⟨b2, 0, none⟩)), (142, .bool (true && (labLeq e.lab d.lab)))]) [11, 4, 5, 142] rfl ?_
              exact midR () rfl rfl
            | false =>
              refine (run0 (z := 0) 5 [11, 4, 5, 142] [(11, .pointer (some ⟨b3, 0, none⟩)), (4, .bool false), (5, .pointer (some ⟨b2, 0, none⟩)), (142, .bool false)] (fun _ => by kernel_rfl) (endR ?_) : RT _ _ _ _ _ _ 5 _)
              refine PT.keep (L' := [(11, .pointer (some ⟨b3, 0, none⟩)), (4, .bool false), (5, .pointer (some ⟨b2, 0, none⟩)), (142, .bool (false && (labLeq e.lab d.lab)))]) [11, 4, 5, 142] rfl ?_
              exact midR () rfl rfl
          refine (run0 (z := 6) 1 [11, 4, 5, 143] [(11, .pointer (some ⟨b3, 0, none⟩)), (4, .bool false), (5, .pointer (some ⟨b2, 0, none⟩)), (143, .bool ((inb (d.release.l.length : Int) 1 4) && (labLeq e.lab d.lab)))] (fun _ => by kernel_rfl) ?_ : RT _ _ _ _ _ _ 7 _)
          refine (segR (ι := Unit) (z := 1) 5 (fun _ => [(4, .bool false), (148, .bool (((inb (d.release.l.length : Int) 1 4) && (labLeq e.lab d.lab)) && (!labEq e.lab d.lab)))]) (fun _ => (blk b3 44 [.int .i64 e.lab.level, .int .u64 e.lab.cats] :: blk b2 46 [.int .i64 d.lab.level, .int .u64 d.lab.cats, .slice d.routes.a d.routes.l.length d.routes.c, .slice d.release.a d.release.l.length d.release.c, .int .i64 d.to, .int .i64 d.threads, .int .i64 d.groups, .int .i64 d.ring, .int .i64 d.sends, .int .i64 d.box] :: blk b1 25 [.int .i64 c.frame, .int .i64 c.epoch, .slice c.plans.a c.plans.l.length c.plans.c, .slice (some ⟨eb, eo, none⟩) c.domains.l.length c.domains.c] :: H)) ?_ (fun _ => ?_) : RT _ _ _ _ _ _ 6 _)
          · cases hg11 : ((inb (d.release.l.length : Int) 1 4) && (labLeq e.lab d.lab)) with
            | true =>
              refine (runR (H := (blk b3 44 [.int .i64 e.lab.level, .int .u64 e.lab.cats] :: blk b2 46 [.int .i64 d.lab.level, .int .u64 d.lab.cats, .slice d.routes.a d.routes.l.length d.routes.c, .slice d.release.a d.release.l.length d.release.c, .int .i64 d.to, .int .i64 d.threads, .int .i64 d.groups, .int .i64 d.ring, .int .i64 d.sends, .int .i64 d.box] :: blk b1 25 [.int .i64 c.frame, .int .i64 c.epoch, .slice c.plans.a c.plans.l.length c.plans.c, .slice (some ⟨eb, eo, none⟩) c.domains.l.length c.domains.c] :: H)) (z := 2) 3 [4, 143, 144, 146] [(4, .bool false), (143, .bool true), (144, .agg #[.int .i64 e.lab.level, .int .u64 e.lab.cats]), (146, .agg #[.int .i64 d.lab.level, .int .u64 d.lab.cats])] [(⟨b3, 0, none⟩, .int .i64 e.lab.level), (⟨b3, 1, none⟩, .int .u64 e.lab.cats), (⟨b2, 0, none⟩, .int .i64 d.lab.level), (⟨b2, 1, none⟩, .int .u64 d.lab.cats)] (hasC (blkAt (T := 44) (cs := [.int .i64 e.lab.level, .int .u64 e.lab.cats]) 0 rfl rfl) (hasC (blkAt (T := 44) (cs := [.int .i64 e.lab.level, .int .u64 e.lab.cats]) 0 rfl rfl) (hasC (blkAt (T := 46) (cs := [.int .i64 d.lab.level, .int .u64 d.lab.cats, .slice d.routes.a d.routes.l.length d.routes.c, .slice d.release.a d.release.l.length d.release.c, .int .i64 d.to, .int .i64 d.threads, .int .i64 d.groups, .int .i64 d.ring, .int .i64 d.sends, .int .i64 d.box]) 1 rfl rfl) (hasC (blkAt (T := 46) (cs := [.int .i64 d.lab.level, .int .u64 d.lab.cats, .slice d.routes.a d.routes.l.length d.routes.c, .slice d.release.a d.release.l.length d.release.c, .int .i64 d.to, .int .i64 d.threads, .int .i64 d.groups, .int .i64 d.ring, .int .i64 d.sends, .int .i64 d.box]) 1 rfl rfl) has0)))) (fun _ => by kernel_rfl) ?_ : RT _ _ _ _ _ _ 5 _)
              refine (stepR (z := 1) (yldS (binY .neq 44 44 (.tmp 144) (.tmp 146) (.agg #[.int .i64 e.lab.level, .int .u64 e.lab.cats]) (.agg #[.int .i64 d.lab.level, .int .u64 d.lab.cats]) (.bool (!labEq e.lab d.lab)) (some 147) (fun _ => by kernel_rfl) (by kernel_rfl) (by kernel_rfl) (fun _ => by kernel_rfl) (fun _ => by kernel_rfl) (lab_neq e.lab d.lab _ _))) (fun _ => ?_) : RT _ _ _ _ _ _ 2 _)
              refine (run0 (z := 0) 1 [4, 148] [(4, .bool false), (148, .bool (!labEq e.lab d.lab))] (fun _ => by kernel_rfl) (endR ?_) : RT _ _ _ _ _ _ 1 _)
              refine PT.keep (L' := [(4, .bool false), (148, .bool (true && (!labEq e.lab d.lab)))]) [4, 148] rfl ?_
              exact midR () rfl rfl
            | false =>
              refine (run0 (z := 0) 5 [4, 148] [(4, .bool false), (148, .bool false)] (fun _ => by kernel_rfl) (endR ?_) : RT _ _ _ _ _ _ 5 _)
              refine PT.keep (L' := [(4, .bool false), (148, .bool (false && (!labEq e.lab d.lab)))]) [4, 148] rfl ?_
              exact midR () rfl rfl
          refine (run0 (z := 0) 1 [4] [(4, .bool (((inb (d.release.l.length : Int) 1 4) && (labLeq e.lab d.lab)) && (!labEq e.lab d.lab)))] (fun _ => by kernel_rfl) (endR ?_) : RT _ _ _ _ _ _ 1 _)
          refine retR (by kernel_rfl) ?_
          refine done0 (.bool (((inb (d.release.l.length : Int) 1 4) && (labLeq e.lab d.lab)) && (!labEq e.lab d.lab))) (fun _ => by kernel_rfl) (fun w hs => ?_) .ret (.inr rfl)
          exact ⟨(), by rw [rroutesOk, if_neg hb1, if_neg (by rw [hall]; simp), if_neg h2', if_neg (by rw [hal2]; simp), hla], hs.tail.tail.tail⟩
end Go.Proofs.Ytjjbnmlhbbnhcaa
