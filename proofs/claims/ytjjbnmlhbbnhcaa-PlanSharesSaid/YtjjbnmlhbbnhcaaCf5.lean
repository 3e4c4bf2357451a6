/- conf.routes, conf.Is, conf.Ticks: their walks. Conditions: none. -/
import Derived.Test.YtjjbnmlhbbnhcaaCf4
set_option linter.unusedVariables false
set_option linter.unusedSimpArgs false
namespace Go.Proofs.Ytjjbnmlhbbnhcaa
open Go.RowKit G
def routesOk (c : ConfV) (i : Int) (d : DomV) : Bool := (d.routes.l.all fun r => risesOk c d r.l) && (decide ((d.routes.l.length : Int) ≤ 3) && fallsOk c i d)
/-- A configuration that is no more than one looks at. -/
structure SmallC (c : ConfV) : Prop where
  doms : c.domains.l.length ≤ 10
  plans : c.plans.l.length ≤ 10
  plan : ∀ p ∈ c.plans.l, p.l.length ≤ 20
  routes : ∀ d ∈ c.domains.l, d.routes.l.length ≤ 10
  release : ∀ d ∈ c.domains.l, d.release.l.length ≤ 10
  route : ∀ d ∈ c.domains.l, ∀ r ∈ d.routes.l, r.l.length ≤ 20
set_option maxRecDepth 100000 in
theorem routes_walk (H : List SP) (c : ConfV) (i : Nat) (d : DomV) (hd : c.domains.l[i]? = some d) (hk : KC H c) (hsm : SmallC c) : ∀ w, Sat w H → Calls Try.prog 36 #[.agg #[.int .i64 c.frame, .int .i64 c.epoch, .slice c.plans.a c.plans.l.length c.plans.c, .slice c.domains.a c.domains.l.length c.domains.c], .int .i64 (i : Int)] w (Ret (ι := Unit) (fun _ => .bool (routesOk c i d)) fun _ => H) := by
  have hi : i < c.domains.l.length := (List.getElem?_eq_some_iff.1 hd).1
  have hdm : d ∈ c.domains.l := List.mem_of_getElem? hd
  have hnd := hsm.doms
  have hnr := hsm.routes d hdm
  refine enterG (fn := Try.f36) 35 [.agg #[.int .i64 c.frame, .int .i64 c.epoch, .slice c.plans.a c.plans.l.length c.plans.c, .slice c.domains.a c.domains.l.length c.domains.c], .int .i64 (i : Int)] Try.func36 (by kernel_rfl) (by kernel_rfl) (by kernel_rfl) ?_
  refine seqR (by kernel_rfl) ?_
  refine regionR 2 (by kernel_rfl) (by kernel_rfl) ?_
  refine (stepR (z := 1) (newS 25 [.int .i64 c.frame, .int .i64 c.epoch, .slice c.plans.a c.plans.l.length c.plans.c, .slice c.domains.a c.domains.l.length c.domains.c] (some 2) (fun b => .pointer (some ⟨b, 0, none⟩)) (fun _ _ => by kernel_rfl)) (fun b1 => ?_) : RT _ _ _ _ _ _ 2 _)
  refine (run0 (z := 0) 1 [2, 1, 4] [(2, .pointer (some ⟨b1, 0, none⟩)), (1, .int .i64 (i : Int)), (4, .bool false)] (fun _ => by kernel_rfl) (endR ?_) : RT _ _ _ _ _ _ 1 _)
  refine seqR (by kernel_rfl) ?_
  refine regionR 7 (by kernel_rfl) (by kernel_rfl) ?_
  refine (runR (H := (blk b1 25 [.int .i64 c.frame, .int .i64 c.epoch, .slice c.plans.a c.plans.l.length c.plans.c, .slice c.domains.a c.domains.l.length c.domains.c] :: H)) (z := 4) 3 [2, 1, 4, 9, 10] [(2, .pointer (some ⟨b1, 0, none⟩)), (1, .int .i64 (i : Int)), (4, .bool false), (9, .slice c.domains.a c.domains.l.length c.domains.c), (10, .int .i64 (i : Int))] [(⟨b1, 3, none⟩, .slice c.domains.a c.domains.l.length c.domains.c)] (hasC (blkAt (T := 25) (cs := [.int .i64 c.frame, .int .i64 c.epoch, .slice c.plans.a c.plans.l.length c.plans.c, .slice c.domains.a c.domains.l.length c.domains.c]) 0 rfl rfl) has0) (fun _ => by kernel_rfl) ?_ : RT _ _ _ _ _ _ 7 _)
  refine PT.know (hk.domains.up.isSome (by intro h0; rw [h0] at hi; simp at hi)) ?_
  rintro ⟨db, dd, hB⟩
  rw [hB]
  refine (stepR (z := 3) (yldS (idxY 23 (.tmp 9) (.tmp 10) db dd c.domains.l.length c.domains.c i 10 46 (i : Int) .i64 (some 11) (fun _ => by kernel_rfl) (by kernel_rfl) (by kernel_rfl) (fun _ => by kernel_rfl) (fun _ => by kernel_rfl) Try.underlying23 (by kernel_rfl) (by first | rfl | assumption | simp) (by first | omega | (simp; done) | (simp; omega) | (simp at *; omega)))) (fun _ => ?_) : RT _ _ _ _ _ _ 4 _)
  refine (runR (H := (blk b1 25 [.int .i64 c.frame, .int .i64 c.epoch, .slice c.plans.a c.plans.l.length c.plans.c, .slice (some ⟨db, dd, none⟩) c.domains.l.length c.domains.c] :: H)) (z := 2) 1 [2, 1, 4, 12] [(2, .pointer (some ⟨b1, 0, none⟩)), (1, .int .i64 (i : Int)), (4, .bool false), (12, .agg #[.int .i64 d.lab.level, .int .u64 d.lab.cats, .slice d.routes.a d.routes.l.length d.routes.c, .slice d.release.a d.release.l.length d.release.c, .int .i64 d.to, .int .i64 d.threads, .int .i64 d.groups, .int .i64 d.ring, .int .i64 d.sends, .int .i64 d.box])] [(⟨db, dd + i * 10, none⟩, .int .i64 d.lab.level), (⟨db, dd + i * 10 + 1, none⟩, .int .u64 d.lab.cats), (⟨db, dd + i * 10 + 2, none⟩, .slice d.routes.a d.routes.l.length d.routes.c), (⟨db, dd + i * 10 + 3, none⟩, .slice d.release.a d.release.l.length d.release.c), (⟨db, dd + i * 10 + 4, none⟩, .int .i64 d.to), (⟨db, dd + i * 10 + 5, none⟩, .int .i64 d.threads), (⟨db, dd + i * 10 + 6, none⟩, .int .i64 d.groups), (⟨db, dd + i * 10 + 7, none⟩, .int .i64 d.ring), (⟨db, dd + i * 10 + 8, none⟩, .int .i64 d.sends), (⟨db, dd + i * 10 + 9, none⟩, .int .i64 d.box)] (hasC (up (hk.domains.cell hB (i := i) (x := d) hd (j := 0) rfl)) (hasC (up (hk.domains.cell hB (i := i) (x := d) hd (j := 1) rfl)) (hasC (up (hk.domains.cell hB (i := i) (x := d) hd (j := 2) rfl)) (hasC (up (hk.domains.cell hB (i := i) (x := d) hd (j := 3) rfl)) (hasC (up (hk.domains.cell hB (i := i) (x := d) hd (j := 4) rfl)) (hasC (up (hk.domains.cell hB (i := i) (x := d) hd (j := 5) rfl)) (hasC (up (hk.domains.cell hB (i := i) (x := d) hd (j := 6) rfl)) (hasC (up (hk.domains.cell hB (i := i) (x := d) hd (j := 7) rfl)) (hasC (up (hk.domains.cell hB (i := i) (x := d) hd (j := 8) rfl)) (hasC (up (hk.domains.cell hB (i := i) (x := d) hd (j := 9) rfl)) has0)))))))))) (fun _ => by kernel_rfl) ?_ : RT _ _ _ _ _ _ 3 _)
  refine (stepR (z := 1) (newS 46 [.int .i64 0, .int .u64 0, .slice none 0 0, .slice none 0 0, .int .i64 0, .int .i64 0, .int .i64 0, .int .i64 0, .int .i64 0, .int .i64 0] (some 5) (fun b => .pointer (some ⟨b, 0, none⟩)) (fun _ _ => by kernel_rfl)) (fun b2 => ?_) : RT _ _ _ _ _ _ 2 _)
  refine (stepR (z := 0) (storeS [(0, .int .i64 d.lab.level), (1, .int .u64 d.lab.cats), (2, .slice d.routes.a d.routes.l.length d.routes.c), (3, .slice d.release.a d.release.l.length d.release.c), (4, .int .i64 d.to), (5, .int .i64 d.threads), (6, .int .i64 d.groups), (7, .int .i64 d.ring), (8, .int .i64 d.sends), (9, .int .i64 d.box)] [.int .i64 d.lab.level, .int .u64 d.lab.cats, .slice d.routes.a d.routes.l.length d.routes.c, .slice d.release.a d.release.l.length d.release.c, .int .i64 d.to, .int .i64 d.threads, .int .i64 d.groups, .int .i64 d.ring, .int .i64 d.sends, .int .i64 d.box] (fun _ => by kernel_rfl) (by kernel_rfl) (by kernel_rfl)) (fun _ => ?_) : RT _ _ _ _ _ _ 1 _)
  refine endR ?_
  refine seqR (by kernel_rfl) ?_
  refine seqR (by kernel_rfl) ?_
  refine regionR 4 (by kernel_rfl) (by kernel_rfl) ?_
  refine (runR (H := (blk b2 46 [.int .i64 d.lab.level, .int .u64 d.lab.cats, .slice d.routes.a d.routes.l.length d.routes.c, .slice d.release.a d.release.l.length d.release.c, .int .i64 d.to, .int .i64 d.threads, .int .i64 d.groups, .int .i64 d.ring, .int .i64 d.sends, .int .i64 d.box] :: blk b1 25 [.int .i64 c.frame, .int .i64 c.epoch, .slice c.plans.a c.plans.l.length c.plans.c, .slice (some ⟨db, dd, none⟩) c.domains.l.length c.domains.c] :: H)) (z := 0) 4 [5, 2, 1, 4, 14, 15, 16] [(5, .pointer (some ⟨b2, 0, none⟩)), (2, .pointer (some ⟨b1, 0, none⟩)), (1, .int .i64 (i : Int)), (4, .bool false), (14, .slice d.routes.a d.routes.l.length d.routes.c), (15, .int .i64 (d.routes.l.length : Int)), (16, .int .i64 0)] [(⟨b2, 2, none⟩, .slice d.routes.a d.routes.l.length d.routes.c)] (hasC (blkAt (T := 46) (cs := [.int .i64 d.lab.level, .int .u64 d.lab.cats, .slice d.routes.a d.routes.l.length d.routes.c, .slice d.release.a d.release.l.length d.release.c, .int .i64 d.to, .int .i64 d.threads, .int .i64 d.groups, .int .i64 d.ring, .int .i64 d.sends, .int .i64 d.box]) 0 rfl rfl) has0) (fun _ => by kernel_rfl) (endR ?_) : RT _ _ _ _ _ _ 4 _)
  refine blockR 0 (by kernel_rfl) (by kernel_rfl) ?_
  rw [← hB]
  refine PT.keep (L' := [(1, .int .i64 (i : Int)), (2, .pointer (some ⟨b1, 0, none⟩)), (4, .bool false), (5, .pointer (some ⟨b2, 0, none⟩)), (14, .slice d.routes.a d.routes.l.length d.routes.c), (15, .int .i64 (d.routes.l.length : Int)), (16, .int .i64 0)]) [1, 2, 4, 5, 14, 15, 16] rfl ?_
  refine loopG (fun (j : Nat) => [(1, .int .i64 (i : Int)), (2, .pointer (some ⟨b1, 0, none⟩)), (4, .bool false), (5, .pointer (some ⟨b2, 0, none⟩)), (14, .slice d.routes.a d.routes.l.length d.routes.c), (15, .int .i64 (d.routes.l.length : Int)), (16, .int .i64 (j : Int))]) (fun (j : Nat) => (blk b2 46 [.int .i64 d.lab.level, .int .u64 d.lab.cats, .slice d.routes.a d.routes.l.length d.routes.c, .slice d.release.a d.release.l.length d.release.c, .int .i64 d.to, .int .i64 d.threads, .int .i64 d.groups, .int .i64 d.ring, .int .i64 d.sends, .int .i64 d.box] :: blk b1 25 [.int .i64 c.frame, .int .i64 c.epoch, .slice c.plans.a c.plans.l.length c.plans.c, .slice c.domains.a c.domains.l.length c.domains.c] :: H)) (fun k (j : Nat) => k + j = d.routes.l.length ∧ ((d.routes.l.take j).all fun r => risesOk c d r.l) = true) d.routes.l.length 0 (by kernel_rfl) ⟨by omega, rfl⟩ ?_
  rintro k j ⟨hkj, hall⟩
  have hw : IntKind.i64.wrap ((j : Int) + 1) = ((j + 1 : Nat) : Int) := by rw [IntKind.wrap_i64]; omega
  refine seqR (by kernel_rfl) ?_
  refine regionR 1 (by kernel_rfl) (by kernel_rfl) ?_
  refine (run0 (z := 0) 1 [1, 2, 4, 5, 14, 15, 16, 17] [(1, .int .i64 (i : Int)), (2, .pointer (some ⟨b1, 0, none⟩)), (4, .bool false), (5, .pointer (some ⟨b2, 0, none⟩)), (14, .slice d.routes.a d.routes.l.length d.routes.c), (15, .int .i64 (d.routes.l.length : Int)), (16, .int .i64 (j : Int)), (17, .bool (decide ((j : Int) < (d.routes.l.length : Int))))] (fun _ => by kernel_rfl) (endR ?_) : RT _ _ _ _ _ _ 1 _)
  refine seqR (by kernel_rfl) ?_
  refine condR (b := decide ((j : Int) < (d.routes.l.length : Int))) (by kernel_rfl) (fun _ => by kernel_rfl) (fun h => ?_) (fun h => ?_)
  · skip
    have hj : j < d.routes.l.length := by have := of_decide_eq_true h; omega
    obtain ⟨r, hr⟩ : ∃ r, d.routes.l[j]? = some r := ⟨_, by simp [hj]; rfl⟩
    have hrm : r ∈ d.routes.l := List.mem_of_getElem? hr
    have hrl := hsm.route d hdm r hrm
    have ht : (d.routes.l.take (j + 1)) = d.routes.l.take j ++ [r] := by rw [List.take_add_one, hr]; rfl
    refine PT.know ((hk.routes d hdm).up.up.isSome (by intro h0; rw [h0] at hj; simp at hj)) ?_
    rintro ⟨sb, so, hA⟩
    rw [hA]
    refine skipR (by kernel_rfl) ?_
    refine seqR (by kernel_rfl) ?_
    refine blockR 1 (by kernel_rfl) (by kernel_rfl) ?_
    refine seqR (by kernel_rfl) ?_
    refine regionR 3 (by kernel_rfl) (by kernel_rfl) ?_
    refine (stepR (z := 2) (yldS (idxY 22 (.tmp 14) (.tmp 16) sb so d.routes.l.length d.routes.c j 1 26 (j : Int) .i64 (some 18) (fun _ => by kernel_rfl) (by kernel_rfl) (by kernel_rfl) (fun _ => by kernel_rfl) (fun _ => by kernel_rfl) Try.underlying22 (by kernel_rfl) (by first | rfl | assumption | simp) (by first | omega | (simp; done) | (simp; omega) | (simp at *; omega)))) (fun _ => ?_) : RT _ _ _ _ _ _ 3 _)
    refine (runR (H := (blk b2 46 [.int .i64 d.lab.level, .int .u64 d.lab.cats, .slice (some ⟨sb, so, none⟩) d.routes.l.length d.routes.c, .slice d.release.a d.release.l.length d.release.c, .int .i64 d.to, .int .i64 d.threads, .int .i64 d.groups, .int .i64 d.ring, .int .i64 d.sends, .int .i64 d.box] :: blk b1 25 [.int .i64 c.frame, .int .i64 c.epoch, .slice c.plans.a c.plans.l.length c.plans.c, .slice c.domains.a c.domains.l.length c.domains.c] :: H)) (z := 0) 2 [1, 2, 4, 5, 14, 15, 16, 7] [(1, .int .i64 (i : Int)), (2, .pointer (some ⟨b1, 0, none⟩)), (4, .bool false), (5, .pointer (some ⟨b2, 0, none⟩)), (14, .slice (some ⟨sb, so, none⟩) d.routes.l.length d.routes.c), (15, .int .i64 (d.routes.l.length : Int)), (16, .int .i64 (j : Int)), (7, .slice r.a r.l.length r.c)] [(⟨sb, so + j * 1, none⟩, .slice r.a r.l.length r.c)] (hasC (up (up ((hk.routes d hdm).cell hA (i := j) (x := r) hr (j := 0) rfl))) has0) (fun _ => by kernel_rfl) (endR ?_) : RT _ _ _ _ _ _ 2 _)
    refine seqR (by kernel_rfl) ?_
    refine regionR 5 (by kernel_rfl) (by kernel_rfl) ?_
    refine (runR (H := (blk b2 46 [.int .i64 d.lab.level, .int .u64 d.lab.cats, .slice (some ⟨sb, so, none⟩) d.routes.l.length d.routes.c, .slice d.release.a d.release.l.length d.release.c, .int .i64 d.to, .int .i64 d.threads, .int .i64 d.groups, .int .i64 d.ring, .int .i64 d.sends, .int .i64 d.box] :: blk b1 25 [.int .i64 c.frame, .int .i64 c.epoch, .slice c.plans.a c.plans.l.length c.plans.c, .slice c.domains.a c.domains.l.length c.domains.c] :: H)) (z := 2) 3 [1, 2, 4, 5, 14, 15, 16, 20, 21, 22] [(1, .int .i64 (i : Int)), (2, .pointer (some ⟨b1, 0, none⟩)), (4, .bool false), (5, .pointer (some ⟨b2, 0, none⟩)), (14, .slice (some ⟨sb, so, none⟩) d.routes.l.length d.routes.c), (15, .int .i64 (d.routes.l.length : Int)), (16, .int .i64 (j : Int)), (20, .agg #[.int .i64 c.frame, .int .i64 c.epoch, .slice c.plans.a c.plans.l.length c.plans.c, .slice c.domains.a c.domains.l.length c.domains.c]), (21, .agg #[.int .i64 d.lab.level, .int .u64 d.lab.cats, .slice (some ⟨sb, so, none⟩) d.routes.l.length d.routes.c, .slice d.release.a d.release.l.length d.release.c, .int .i64 d.to, .int .i64 d.threads, .int .i64 d.groups, .int .i64 d.ring, .int .i64 d.sends, .int .i64 d.box]), (22, .slice r.a r.l.length r.c)] [(⟨b1, 0, none⟩, .int .i64 c.frame), (⟨b1, 1, none⟩, .int .i64 c.epoch), (⟨b1, 2, none⟩, .slice c.plans.a c.plans.l.length c.plans.c), (⟨b1, 3, none⟩, .slice c.domains.a c.domains.l.length c.domains.c), (⟨b2, 0, none⟩, .int .i64 d.lab.level), (⟨b2, 1, none⟩, .int .u64 d.lab.cats), (⟨b2, 2, none⟩, .slice (some ⟨sb, so, none⟩) d.routes.l.length d.routes.c), (⟨b2, 3, none⟩, .slice d.release.a d.release.l.length d.release.c), (⟨b2, 4, none⟩, .int .i64 d.to), (⟨b2, 5, none⟩, .int .i64 d.threads), (⟨b2, 6, none⟩, .int .i64 d.groups), (⟨b2, 7, none⟩, .int .i64 d.ring), (⟨b2, 8, none⟩, .int .i64 d.sends), (⟨b2, 9, none⟩, .int .i64 d.box)] (hasC (blkAt (T := 25) (cs := [.int .i64 c.frame, .int .i64 c.epoch, .slice c.plans.a c.plans.l.length c.plans.c, .slice c.domains.a c.domains.l.length c.domains.c]) 1 rfl rfl) (hasC (blkAt (T := 25) (cs := [.int .i64 c.frame, .int .i64 c.epoch, .slice c.plans.a c.plans.l.length c.plans.c, .slice c.domains.a c.domains.l.length c.domains.c]) 1 rfl rfl) (hasC (blkAt (T := 25) (cs := [.int .i64 c.frame, .int .i64 c.epoch, .slice c.plans.a c.plans.l.length c.plans.c, .slice c.domains.a c.domains.l.length c.domains.c]) 1 rfl rfl) (hasC (blkAt (T := 25) (cs := [.int .i64 c.frame, .int .i64 c.epoch, .slice c.plans.a c.plans.l.length c.plans.c, .slice c.domains.a c.domains.l.length c.domains.c]) 1 rfl rfl) (hasC (blkAt (T := 46) (cs := [.int .i64 d.lab.level, .int .u64 d.lab.cats, .slice (some ⟨sb, so, none⟩) d.routes.l.length d.routes.c, .slice d.release.a d.release.l.length d.release.c, .int .i64 d.to, .int .i64 d.threads, .int .i64 d.groups, .int .i64 d.ring, .int .i64 d.sends, .int .i64 d.box]) 0 rfl rfl) (hasC (blkAt (T := 46) (cs := [.int .i64 d.lab.level, .int .u64 d.lab.cats, .slice (some ⟨sb, so, none⟩) d.routes.l.length d.routes.c, .slice d.release.a d.release.l.length d.release.c, .int .i64 d.to, .int .i64 d.threads, .int .i64 d.groups, .int .i64 d.ring, .int .i64 d.sends, .int .i64 d.box]) 0 rfl rfl) (hasC (blkAt (T := 46) (cs := [.int .i64 d.lab.level, .int .u64 d.lab.cats, .slice (some ⟨sb, so, none⟩) d.routes.l.length d.routes.c, .slice d.release.a d.release.l.length d.release.c, .int .i64 d.to, .int .i64 d.threads, .int .i64 d.groups, .int .i64 d.ring, .int .i64 d.sends, .int .i64 d.box]) 0 rfl rfl) (hasC (blkAt (T := 46) (cs := [.int .i64 d.lab.level, .int .u64 d.lab.cats, .slice (some ⟨sb, so, none⟩) d.routes.l.length d.routes.c, .slice d.release.a d.release.l.length d.release.c, .int .i64 d.to, .int .i64 d.threads, .int .i64 d.groups, .int .i64 d.ring, .int .i64 d.sends, .int .i64 d.box]) 0 rfl rfl) (hasC (blkAt (T := 46) (cs := [.int .i64 d.lab.level, .int .u64 d.lab.cats, .slice (some ⟨sb, so, none⟩) d.routes.l.length d.routes.c, .slice d.release.a d.release.l.length d.release.c, .int .i64 d.to, .int .i64 d.threads, .int .i64 d.groups, .int .i64 d.ring, .int .i64 d.sends, .int .i64 d.box]) 0 rfl rfl) (hasC (blkAt (T := 46) (cs := [.int .i64 d.lab.level, .int .u64 d.lab.cats, .slice (some ⟨sb, so, none⟩) d.routes.l.length d.routes.c, .slice d.release.a d.release.l.length d.release.c, .int .i64 d.to, .int .i64 d.threads, .int .i64 d.groups, .int .i64 d.ring, .int .i64 d.sends, .int .i64 d.box]) 0 rfl rfl) (hasC (blkAt (T := 46) (cs := [.int .i64 d.lab.level, .int .u64 d.lab.cats, .slice (some ⟨sb, so, none⟩) d.routes.l.length d.routes.c, .slice d.release.a d.release.l.length d.release.c, .int .i64 d.to, .int .i64 d.threads, .int .i64 d.groups, .int .i64 d.ring, .int .i64 d.sends, .int .i64 d.box]) 0 rfl rfl) (hasC (blkAt (T := 46) (cs := [.int .i64 d.lab.level, .int .u64 d.lab.cats, .slice (some ⟨sb, so, none⟩) d.routes.l.length d.routes.c, .slice d.release.a d.release.l.length d.release.c, .int .i64 d.to, .int .i64 d.threads, .int .i64 d.groups, .int .i64 d.ring, .int .i64 d.sends, .int .i64 d.box]) 0 rfl rfl) (hasC (blkAt (T := 46) (cs := [.int .i64 d.lab.level, .int .u64 d.lab.cats, .slice (some ⟨sb, so, none⟩) d.routes.l.length d.routes.c, .slice d.release.a d.release.l.length d.release.c, .int .i64 d.to, .int .i64 d.threads, .int .i64 d.groups, .int .i64 d.ring, .int .i64 d.sends, .int .i64 d.box]) 0 rfl rfl) (hasC (blkAt (T := 46) (cs := [.int .i64 d.lab.level, .int .u64 d.lab.cats, .slice (some ⟨sb, so, none⟩) d.routes.l.length d.routes.c, .slice d.release.a d.release.l.length d.release.c, .int .i64 d.to, .int .i64 d.threads, .int .i64 d.groups, .int .i64 d.ring, .int .i64 d.sends, .int .i64 d.box]) 0 rfl rfl) has0)))))))))))))) (fun _ => by kernel_rfl) ?_ : RT _ _ _ _ _ _ 5 _)
    rw [← hA]
    refine (stepR (z := 1) (callS 50 [.agg #[.int .i64 c.frame, .int .i64 c.epoch, .slice c.plans.a c.plans.l.length c.plans.c, .slice c.domains.a c.domains.l.length c.domains.c], .agg #[.int .i64 d.lab.level, .int .u64 d.lab.cats, .slice d.routes.a d.routes.l.length d.routes.c, .slice d.release.a d.release.l.length d.release.c, .int .i64 d.to, .int .i64 d.threads, .int .i64 d.groups, .int .i64 d.ring, .int .i64 d.sends, .int .i64 d.box], .slice r.a r.l.length r.c] (some 23) (fun _ => .bool (risesOk c d r.l)) (fun _ => (blk b2 46 [.int .i64 d.lab.level, .int .u64 d.lab.cats, .slice d.routes.a d.routes.l.length d.routes.c, .slice d.release.a d.release.l.length d.release.c, .int .i64 d.to, .int .i64 d.threads, .int .i64 d.groups, .int .i64 d.ring, .int .i64 d.sends, .int .i64 d.box] :: blk b1 25 [.int .i64 c.frame, .int .i64 c.epoch, .slice c.plans.a c.plans.l.length c.plans.c, .slice c.domains.a c.domains.l.length c.domains.c] :: H)) (fun _ => by kernel_rfl) (rises_walk _ c d r hk.up.up (hk.route d hdm r hrm).up.up (by omega) (by omega) (by omega))) (fun _ => ?_) : RT _ _ _ _ _ _ 2 _)
    refine (run0 (z := 0) 1 [1, 2, 4, 5, 14, 15, 16, 24] [(1, .int .i64 (i : Int)), (2, .pointer (some ⟨b1, 0, none⟩)), (4, .bool false), (5, .pointer (some ⟨b2, 0, none⟩)), (14, .slice d.routes.a d.routes.l.length d.routes.c), (15, .int .i64 (d.routes.l.length : Int)), (16, .int .i64 (j : Int)), (24, .bool (!(risesOk c d r.l)))] (fun _ => by kernel_rfl) (endR ?_) : RT _ _ _ _ _ _ 1 _)
    refine condR (b := !(risesOk c d r.l)) (by kernel_rfl) (fun _ => by kernel_rfl) (fun hb => ?_) (fun hb => ?_)
    · skip
      refine seqR (by kernel_rfl) ?_
      refine regionR 1 (by kernel_rfl) (by kernel_rfl) ?_
      refine (run0 (z := 0) 1 [1, 2, 4, 5, 14, 15, 16] [(1, .int .i64 (i : Int)), (2, .pointer (some ⟨b1, 0, none⟩)), (4, .bool false), (5, .pointer (some ⟨b2, 0, none⟩)), (14, .slice d.routes.a d.routes.l.length d.routes.c), (15, .int .i64 (d.routes.l.length : Int)), (16, .int .i64 (j : Int))] (fun _ => by kernel_rfl) (endR ?_) : RT _ _ _ _ _ _ 1 _)
      refine retR (by kernel_rfl) ?_
      refine blockV ?_
      refine thenV ?_
      refine thenV ?_
      refine blockV ?_
      refine thenV ?_
      have h0 : (d.routes.l.all fun r => risesOk c d r.l) = false := by
        rw [← Bool.not_eq_true]
        intro h1
        have := List.all_eq_true.1 h1 r hrm
        rw [this] at hb
        simp at hb
      refine done0 (.bool false) (fun _ => by kernel_rfl) (fun w hs => ?_) .ret (.inr rfl)
      exact ⟨(), by simp only [routesOk, h0, Bool.false_and], hs.tail.tail⟩
    · skip
      refine skipR (by kernel_rfl) ?_
      refine regionR 2 (by kernel_rfl) (by kernel_rfl) ?_
      refine (run0 (z := 0) 2 [1, 2, 4, 5, 14, 15, 16] [(1, .int .i64 (i : Int)), (2, .pointer (some ⟨b1, 0, none⟩)), (4, .bool false), (5, .pointer (some ⟨b2, 0, none⟩)), (14, .slice d.routes.a d.routes.l.length d.routes.c), (15, .int .i64 (d.routes.l.length : Int)), (16, .int .i64 (IntKind.i64.wrap ((j : Int) + 1)))] (fun _ => by kernel_rfl) (endR ?_) : RT _ _ _ _ _ _ 2 _)
      have hb' : risesOk c d r.l = true := by simpa using hb
      refine PT.keep (L' := [(1, .int .i64 (i : Int)), (2, .pointer (some ⟨b1, 0, none⟩)), (4, .bool false), (5, .pointer (some ⟨b2, 0, none⟩)), (14, .slice d.routes.a d.routes.l.length d.routes.c), (15, .int .i64 (d.routes.l.length : Int)), (16, .int .i64 (IntKind.i64.wrap ((j : Int) + 1)))]) [1, 2, 4, 5, 14, 15, 16] rfl ?_
      exact againG (k - 1) (j + 1) (by rw [hw]) rfl (by omega) ⟨by omega, by rw [ht, List.all_append, hall]; simp only [List.all_cons, List.all_nil, hb', Bool.and_self]⟩
  · skip
    have hj : j = d.routes.l.length := by have := of_decide_eq_false h; omega
    rw [hj, List.take_length] at hall
    refine exitR 0 (by kernel_rfl) (by kernel_rfl) ?_
    refine thenX ?_
    refine thenX ?_
    refine leaveR ?_
    refine seqR (by kernel_rfl) ?_
    refine regionR 10 (by kernel_rfl) (by kernel_rfl) ?_
    refine (runR (H := (blk b2 46 [.int .i64 d.lab.level, .int .u64 d.lab.cats, .slice d.routes.a d.routes.l.length d.routes.c, .slice d.release.a d.release.l.length d.release.c, .int .i64 d.to, .int .i64 d.threads, .int .i64 d.groups, .int .i64 d.ring, .int .i64 d.sends, .int .i64 d.box] :: blk b1 25 [.int .i64 c.frame, .int .i64 c.epoch, .slice c.plans.a c.plans.l.length c.plans.c, .slice c.domains.a c.domains.l.length c.domains.c] :: H)) (z := 5) 5 [1, 2, 4, 30] [(1, .int .i64 (i : Int)), (2, .pointer (some ⟨b1, 0, none⟩)), (4, .bool false), (30, .bool (decide ((d.routes.l.length : Int) ≤ 3)))] [(⟨b2, 2, none⟩, .slice d.routes.a d.routes.l.length d.routes.c)] (hasC (blkAt (T := 46) (cs := [.int .i64 d.lab.level, .int .u64 d.lab.cats, .slice d.routes.a d.routes.l.length d.routes.c, .slice d.release.a d.release.l.length d.release.c, .int .i64 d.to, .int .i64 d.threads, .int .i64 d.groups, .int .i64 d.ring, .int .i64 d.sends, .int .i64 d.box]) 0 rfl rfl) has0) (fun _ => by kernel_rfl) ?_ : RT _ _ _ _ _ _ 10 _)
    refine (segR (ι := Unit) (z := 1) 4 (fun _ => [(4, .bool false), (34, .bool ((decide ((d.routes.l.length : Int) ≤ 3)) && (fallsOk c (i : Int) d)))]) (fun _ => (blk b2 46 [.int .i64 d.lab.level, .int .u64 d.lab.cats, .slice d.routes.a d.routes.l.length d.routes.c, .slice d.release.a d.release.l.length d.release.c, .int .i64 d.to, .int .i64 d.threads, .int .i64 d.groups, .int .i64 d.ring, .int .i64 d.sends, .int .i64 d.box] :: blk b1 25 [.int .i64 c.frame, .int .i64 c.epoch, .slice c.plans.a c.plans.l.length c.plans.c, .slice c.domains.a c.domains.l.length c.domains.c] :: H)) ?_ (fun _ => ?_) : RT _ _ _ _ _ _ 5 _)
    · cases hg5 : (decide ((d.routes.l.length : Int) ≤ 3)) with
      | true =>
        refine (runR (H := (blk b2 46 [.int .i64 d.lab.level, .int .u64 d.lab.cats, .slice d.routes.a d.routes.l.length d.routes.c, .slice d.release.a d.release.l.length d.release.c, .int .i64 d.to, .int .i64 d.threads, .int .i64 d.groups, .int .i64 d.ring, .int .i64 d.sends, .int .i64 d.box] :: blk b1 25 [.int .i64 c.frame, .int .i64 c.epoch, .slice c.plans.a c.plans.l.length c.plans.c, .slice c.domains.a c.domains.l.length c.domains.c] :: H)) (z := 2) 2 [4, 30, 31, 32] [(4, .bool false), (30, .bool true), (31, .agg #[.int .i64 c.frame, .int .i64 c.epoch, .slice c.plans.a c.plans.l.length c.plans.c, .slice c.domains.a c.domains.l.length c.domains.c]), (32, .int .i64 (i : Int))] [(⟨b1, 0, none⟩, .int .i64 c.frame), (⟨b1, 1, none⟩, .int .i64 c.epoch), (⟨b1, 2, none⟩, .slice c.plans.a c.plans.l.length c.plans.c), (⟨b1, 3, none⟩, .slice c.domains.a c.domains.l.length c.domains.c)] (hasC (blkAt (T := 25) (cs := [.int .i64 c.frame, .int .i64 c.epoch, .slice c.plans.a c.plans.l.length c.plans.c, .slice c.domains.a c.domains.l.length c.domains.c]) 1 rfl rfl) (hasC (blkAt (T := 25) (cs := [.int .i64 c.frame, .int .i64 c.epoch, .slice c.plans.a c.plans.l.length c.plans.c, .slice c.domains.a c.domains.l.length c.domains.c]) 1 rfl rfl) (hasC (blkAt (T := 25) (cs := [.int .i64 c.frame, .int .i64 c.epoch, .slice c.plans.a c.plans.l.length c.plans.c, .slice c.domains.a c.domains.l.length c.domains.c]) 1 rfl rfl) (hasC (blkAt (T := 25) (cs := [.int .i64 c.frame, .int .i64 c.epoch, .slice c.plans.a c.plans.l.length c.plans.c, .slice c.domains.a c.domains.l.length c.domains.c]) 1 rfl rfl) has0)))) (fun _ => by kernel_rfl) ?_ : RT _ _ _ _ _ _ 4 _)
        refine (stepR (z := 1) (callS 51 [.agg #[.int .i64 c.frame, .int .i64 c.epoch, .slice c.plans.a c.plans.l.length c.plans.c, .slice c.domains.a c.domains.l.length c.domains.c], .int .i64 (i : Int)] (some 33) (fun _ => .bool (fallsOk c (i : Int) d)) (fun _ => (blk b2 46 [.int .i64 d.lab.level, .int .u64 d.lab.cats, .slice d.routes.a d.routes.l.length d.routes.c, .slice d.release.a d.release.l.length d.release.c, .int .i64 d.to, .int .i64 d.threads, .int .i64 d.groups, .int .i64 d.ring, .int .i64 d.sends, .int .i64 d.box] :: blk b1 25 [.int .i64 c.frame, .int .i64 c.epoch, .slice c.plans.a c.plans.l.length c.plans.c, .slice c.domains.a c.domains.l.length c.domains.c] :: H)) (fun _ => by kernel_rfl) (falls_walk _ c i d hd hk.up.up (by omega))) (fun _ => ?_) : RT _ _ _ _ _ _ 2 _)
        refine (run0 (z := 0) 1 [4, 34] [(4, .bool false), (34, .bool (fallsOk c (i : Int) d))] (fun _ => by kernel_rfl) (endR ?_) : RT _ _ _ _ _ _ 1 _)
        refine PT.keep (L' := [(4, .bool false), (34, .bool (true && (fallsOk c (i : Int) d)))]) [4, 34] rfl ?_
        exact midR () rfl rfl
      | false =>
        refine (run0 (z := 0) 4 [4, 34] [(4, .bool false), (34, .bool false)] (fun _ => by kernel_rfl) (endR ?_) : RT _ _ _ _ _ _ 4 _)
        refine PT.keep (L' := [(4, .bool false), (34, .bool (false && (fallsOk c (i : Int) d)))]) [4, 34] rfl ?_
        exact midR () rfl rfl
    refine (run0 (z := 0) 1 [4] [(4, .bool ((decide ((d.routes.l.length : Int) ≤ 3)) && (fallsOk c (i : Int) d)))] (fun _ => by kernel_rfl) (endR ?_) : RT _ _ _ _ _ _ 1 _)
    refine retR (by kernel_rfl) ?_
    refine done0 (.bool ((decide ((d.routes.l.length : Int) ≤ 3)) && (fallsOk c (i : Int) d))) (fun _ => by kernel_rfl) (fun w hs => ?_) .ret (.inr rfl)
    exact ⟨(), by simp only [routesOk, hall, Bool.true_and], hs.tail.tail⟩
def routesAt (c : ConfV) (i : Nat) : Bool := match c.domains.l[i]? with | some d => routesOk c i d | none => true
def quotasAll (c : ConfV) : Bool := c.domains.l.all quotasOk
def routesAll (c : ConfV) : Bool := (List.range c.domains.l.length).all (routesAt c)
/-- What a configuration lacks: 0 is nothing. -/
def confErr (c : ConfV) : Int := if formF c c.domains.l = false then 10 else if sharesOk c = false then 18 else if quotasAll c = false then 19 else if routesAll c = false then 17 else 0
def errV (e : Int) : Value := if e = 0 then .nilIface else .iface 56 (.int .i64 e)
set_option maxRecDepth 100000 in
theorem is_walk (H : List SP) (c : ConfV) (hk : KC H c) (hsm : SmallC c) : ∀ w, Sat w H → Calls Try.prog 21 #[.agg #[.int .i64 c.frame, .int .i64 c.epoch, .slice c.plans.a c.plans.l.length c.plans.c, .slice c.domains.a c.domains.l.length c.domains.c]] w (Ret (ι := Unit) (fun _ => errV (confErr c)) fun _ => H) := by
  have hnd := hsm.doms
  refine enterG (fn := Try.f21) 40 [.agg #[.int .i64 c.frame, .int .i64 c.epoch, .slice c.plans.a c.plans.l.length c.plans.c, .slice c.domains.a c.domains.l.length c.domains.c]] Try.func21 (by kernel_rfl) (by kernel_rfl) (by kernel_rfl) ?_
  refine seqR (by kernel_rfl) ?_
  refine regionR 2 (by kernel_rfl) (by kernel_rfl) ?_
  refine (stepR (z := 1) (newS 25 [.int .i64 c.frame, .int .i64 c.epoch, .slice c.plans.a c.plans.l.length c.plans.c, .slice c.domains.a c.domains.l.length c.domains.c] (some 1) (fun b => .pointer (some ⟨b, 0, none⟩)) (fun _ _ => by kernel_rfl)) (fun b1 => ?_) : RT _ _ _ _ _ _ 2 _)
  refine (run0 (z := 0) 1 [1, 2] [(1, .pointer (some ⟨b1, 0, none⟩)), (2, .nilIface)] (fun _ => by kernel_rfl) (endR ?_) : RT _ _ _ _ _ _ 1 _)
  refine seqR (by kernel_rfl) ?_
  refine blockR 0 (by kernel_rfl) (by kernel_rfl) ?_
  refine seqR (by kernel_rfl) ?_
  refine regionR 4 (by kernel_rfl) (by kernel_rfl) ?_
  refine (runR (H := (blk b1 25 [.int .i64 c.frame, .int .i64 c.epoch, .slice c.plans.a c.plans.l.length c.plans.c, .slice c.domains.a c.domains.l.length c.domains.c] :: H)) (z := 3) 1 [1, 2, 7] [(1, .pointer (some ⟨b1, 0, none⟩)), (2, .nilIface), (7, .agg #[.int .i64 c.frame, .int .i64 c.epoch, .slice c.plans.a c.plans.l.length c.plans.c, .slice c.domains.a c.domains.l.length c.domains.c])] [(⟨b1, 0, none⟩, .int .i64 c.frame), (⟨b1, 1, none⟩, .int .i64 c.epoch), (⟨b1, 2, none⟩, .slice c.plans.a c.plans.l.length c.plans.c), (⟨b1, 3, none⟩, .slice c.domains.a c.domains.l.length c.domains.c)] (hasC (blkAt (T := 25) (cs := [.int .i64 c.frame, .int .i64 c.epoch, .slice c.plans.a c.plans.l.length c.plans.c, .slice c.domains.a c.domains.l.length c.domains.c]) 0 rfl rfl) (hasC (blkAt (T := 25) (cs := [.int .i64 c.frame, .int .i64 c.epoch, .slice c.plans.a c.plans.l.length c.plans.c, .slice c.domains.a c.domains.l.length c.domains.c]) 0 rfl rfl) (hasC (blkAt (T := 25) (cs := [.int .i64 c.frame, .int .i64 c.epoch, .slice c.plans.a c.plans.l.length c.plans.c, .slice c.domains.a c.domains.l.length c.domains.c]) 0 rfl rfl) (hasC (blkAt (T := 25) (cs := [.int .i64 c.frame, .int .i64 c.epoch, .slice c.plans.a c.plans.l.length c.plans.c, .slice c.domains.a c.domains.l.length c.domains.c]) 0 rfl rfl) has0)))) (fun _ => by kernel_rfl) ?_ : RT _ _ _ _ _ _ 4 _)
  refine (stepR (z := 2) (callS 33 [.agg #[.int .i64 c.frame, .int .i64 c.epoch, .slice c.plans.a c.plans.l.length c.plans.c, .slice c.domains.a c.domains.l.length c.domains.c]] (some 8) (fun _ => .bool (formF c c.domains.l)) (fun _ => (blk b1 25 [.int .i64 c.frame, .int .i64 c.epoch, .slice c.plans.a c.plans.l.length c.plans.c, .slice c.domains.a c.domains.l.length c.domains.c] :: H)) (fun _ => by kernel_rfl) (form_walk _ c hk.up (by omega))) (fun _ => ?_) : RT _ _ _ _ _ _ 3 _)
  refine (run0 (z := 0) 2 [1, 2, 6] [(1, .pointer (some ⟨b1, 0, none⟩)), (2, .nilIface), (6, .bool (!(formF c c.domains.l)))] (fun _ => by kernel_rfl) (endR ?_) : RT _ _ _ _ _ _ 2 _)
  cases hf : (formF c c.domains.l) with
  | true =>
    have hn0 : 0 < c.domains.l.length := by
      have h1 : ∀ (l : List DomV) (b : Bool), l.foldl (fun ok d => ok && labIs d.lab) b = true → b = true := by
        intro l
        induction l with
        | nil => intro b h; exact h
        | cons x l ih => intro b h; have := ih _ h; simp only [Bool.and_eq_true] at this; exact this.1
      have h2 := h1 _ _ hf
      simp only [inb, Bool.and_eq_true, decide_eq_true_eq] at h2
      omega
    refine condR (b := false) (by kernel_rfl) (fun _ => by kernel_rfl) (fun h => by cases h) (fun _ => ?_)
    refine seqR (by kernel_rfl) ?_
    refine regionR 4 (by kernel_rfl) (by kernel_rfl) ?_
    refine (runR (H := (blk b1 25 [.int .i64 c.frame, .int .i64 c.epoch, .slice c.plans.a c.plans.l.length c.plans.c, .slice c.domains.a c.domains.l.length c.domains.c] :: H)) (z := 3) 1 [1, 2, 12] [(1, .pointer (some ⟨b1, 0, none⟩)), (2, .nilIface), (12, .agg #[.int .i64 c.frame, .int .i64 c.epoch, .slice c.plans.a c.plans.l.length c.plans.c, .slice c.domains.a c.domains.l.length c.domains.c])] [(⟨b1, 0, none⟩, .int .i64 c.frame), (⟨b1, 1, none⟩, .int .i64 c.epoch), (⟨b1, 2, none⟩, .slice c.plans.a c.plans.l.length c.plans.c), (⟨b1, 3, none⟩, .slice c.domains.a c.domains.l.length c.domains.c)] (hasC (blkAt (T := 25) (cs := [.int .i64 c.frame, .int .i64 c.epoch, .slice c.plans.a c.plans.l.length c.plans.c, .slice c.domains.a c.domains.l.length c.domains.c]) 0 rfl rfl) (hasC (blkAt (T := 25) (cs := [.int .i64 c.frame, .int .i64 c.epoch, .slice c.plans.a c.plans.l.length c.plans.c, .slice c.domains.a c.domains.l.length c.domains.c]) 0 rfl rfl) (hasC (blkAt (T := 25) (cs := [.int .i64 c.frame, .int .i64 c.epoch, .slice c.plans.a c.plans.l.length c.plans.c, .slice c.domains.a c.domains.l.length c.domains.c]) 0 rfl rfl) (hasC (blkAt (T := 25) (cs := [.int .i64 c.frame, .int .i64 c.epoch, .slice c.plans.a c.plans.l.length c.plans.c, .slice c.domains.a c.domains.l.length c.domains.c]) 0 rfl rfl) has0)))) (fun _ => by kernel_rfl) ?_ : RT _ _ _ _ _ _ 4 _)
    refine (stepR (z := 2) (callS 34 [.agg #[.int .i64 c.frame, .int .i64 c.epoch, .slice c.plans.a c.plans.l.length c.plans.c, .slice c.domains.a c.domains.l.length c.domains.c]] (some 13) (fun _ => .bool (sharesOk c)) (fun _ => (blk b1 25 [.int .i64 c.frame, .int .i64 c.epoch, .slice c.plans.a c.plans.l.length c.plans.c, .slice c.domains.a c.domains.l.length c.domains.c] :: H)) (fun _ => by kernel_rfl) (shares_walk _ c hk.up hn0 (by omega))) (fun _ => ?_) : RT _ _ _ _ _ _ 3 _)
    refine (run0 (z := 0) 2 [1, 2, 11] [(1, .pointer (some ⟨b1, 0, none⟩)), (2, .nilIface), (11, .bool (!(sharesOk c)))] (fun _ => by kernel_rfl) (endR ?_) : RT _ _ _ _ _ _ 2 _)
    cases hsh : (sharesOk c) with
    | true =>
      refine condR (b := false) (by kernel_rfl) (fun _ => by kernel_rfl) (fun h => by cases h) (fun _ => ?_)
      refine skipR (by kernel_rfl) ?_
      refine seqR (by kernel_rfl) ?_
      refine seqR (by kernel_rfl) ?_
      refine regionR 4 (by kernel_rfl) (by kernel_rfl) ?_
      refine (runR (H := (blk b1 25 [.int .i64 c.frame, .int .i64 c.epoch, .slice c.plans.a c.plans.l.length c.plans.c, .slice c.domains.a c.domains.l.length c.domains.c] :: H)) (z := 0) 4 [1, 2, 17, 18, 19] [(1, .pointer (some ⟨b1, 0, none⟩)), (2, .nilIface), (17, .slice c.domains.a c.domains.l.length c.domains.c), (18, .int .i64 (c.domains.l.length : Int)), (19, .int .i64 0)] [(⟨b1, 3, none⟩, .slice c.domains.a c.domains.l.length c.domains.c)] (hasC (blkAt (T := 25) (cs := [.int .i64 c.frame, .int .i64 c.epoch, .slice c.plans.a c.plans.l.length c.plans.c, .slice c.domains.a c.domains.l.length c.domains.c]) 0 rfl rfl) has0) (fun _ => by kernel_rfl) (endR ?_) : RT _ _ _ _ _ _ 4 _)
      refine blockR 1 (by kernel_rfl) (by kernel_rfl) ?_
      refine PT.keep (L' := [(1, .pointer (some ⟨b1, 0, none⟩)), (2, .nilIface), (17, .slice c.domains.a c.domains.l.length c.domains.c), (18, .int .i64 (c.domains.l.length : Int)), (19, .int .i64 0)]) [1, 2, 17, 18, 19] rfl ?_
      refine loopG (fun (i : Nat) => [(1, .pointer (some ⟨b1, 0, none⟩)), (2, .nilIface), (17, .slice c.domains.a c.domains.l.length c.domains.c), (18, .int .i64 (c.domains.l.length : Int)), (19, .int .i64 (i : Int))]) (fun (i : Nat) => (blk b1 25 [.int .i64 c.frame, .int .i64 c.epoch, .slice c.plans.a c.plans.l.length c.plans.c, .slice c.domains.a c.domains.l.length c.domains.c] :: H)) (fun k (i : Nat) => k + i = c.domains.l.length ∧ ((c.domains.l.take i).all quotasOk) = true) c.domains.l.length 0 (by kernel_rfl) ⟨by omega, rfl⟩ ?_
      rintro k i ⟨hki, hall⟩
      have hw : IntKind.i64.wrap ((i : Int) + 1) = ((i + 1 : Nat) : Int) := by rw [IntKind.wrap_i64]; omega
      refine seqR (by kernel_rfl) ?_
      refine regionR 1 (by kernel_rfl) (by kernel_rfl) ?_
      refine (run0 (z := 0) 1 [1, 2, 17, 18, 19, 20] [(1, .pointer (some ⟨b1, 0, none⟩)), (2, .nilIface), (17, .slice c.domains.a c.domains.l.length c.domains.c), (18, .int .i64 (c.domains.l.length : Int)), (19, .int .i64 (i : Int)), (20, .bool (decide ((i : Int) < (c.domains.l.length : Int))))] (fun _ => by kernel_rfl) (endR ?_) : RT _ _ _ _ _ _ 1 _)
      refine seqR (by kernel_rfl) ?_
      refine condR (b := decide ((i : Int) < (c.domains.l.length : Int))) (by kernel_rfl) (fun _ => by kernel_rfl) (fun h => ?_) (fun h => ?_)
      · skip
        have hi : i < c.domains.l.length := by have := of_decide_eq_true h; omega
        obtain ⟨d, hd⟩ : ∃ d, c.domains.l[i]? = some d := ⟨_, by simp [hi]; rfl⟩
        have hdm : d ∈ c.domains.l := List.mem_of_getElem? hd
        have ht : (c.domains.l.take (i + 1)) = c.domains.l.take i ++ [d] := by rw [List.take_add_one, hd]; rfl
        refine PT.know (hk.domains.up.isSome (by intro h0; rw [h0] at hi; simp at hi)) ?_
        rintro ⟨db, dd, hB⟩
        rw [hB]
        refine skipR (by kernel_rfl) ?_
        refine seqR (by kernel_rfl) ?_
        refine blockR 2 (by kernel_rfl) (by kernel_rfl) ?_
        refine seqR (by kernel_rfl) ?_
        refine regionR 4 (by kernel_rfl) (by kernel_rfl) ?_
        refine (stepR (z := 3) (yldS (idxY 23 (.tmp 17) (.tmp 19) db dd c.domains.l.length c.domains.c i 10 46 (i : Int) .i64 (some 21) (fun _ => by kernel_rfl) (by kernel_rfl) (by kernel_rfl) (fun _ => by kernel_rfl) (fun _ => by kernel_rfl) Try.underlying23 (by kernel_rfl) (by first | rfl | assumption | simp) (by first | omega | (simp; done) | (simp; omega) | (simp at *; omega)))) (fun _ => ?_) : RT _ _ _ _ _ _ 4 _)
        refine (runR (H := (blk b1 25 [.int .i64 c.frame, .int .i64 c.epoch, .slice c.plans.a c.plans.l.length c.plans.c, .slice (some ⟨db, dd, none⟩) c.domains.l.length c.domains.c] :: H)) (z := 2) 1 [1, 2, 17, 18, 19, 22] [(1, .pointer (some ⟨b1, 0, none⟩)), (2, .nilIface), (17, .slice (some ⟨db, dd, none⟩) c.domains.l.length c.domains.c), (18, .int .i64 (c.domains.l.length : Int)), (19, .int .i64 (i : Int)), (22, .agg #[.int .i64 d.lab.level, .int .u64 d.lab.cats, .slice d.routes.a d.routes.l.length d.routes.c, .slice d.release.a d.release.l.length d.release.c, .int .i64 d.to, .int .i64 d.threads, .int .i64 d.groups, .int .i64 d.ring, .int .i64 d.sends, .int .i64 d.box])] [(⟨db, dd + i * 10, none⟩, .int .i64 d.lab.level), (⟨db, dd + i * 10 + 1, none⟩, .int .u64 d.lab.cats), (⟨db, dd + i * 10 + 2, none⟩, .slice d.routes.a d.routes.l.length d.routes.c), (⟨db, dd + i * 10 + 3, none⟩, .slice d.release.a d.release.l.length d.release.c), (⟨db, dd + i * 10 + 4, none⟩, .int .i64 d.to), (⟨db, dd + i * 10 + 5, none⟩, .int .i64 d.threads), (⟨db, dd + i * 10 + 6, none⟩, .int .i64 d.groups), (⟨db, dd + i * 10 + 7, none⟩, .int .i64 d.ring), (⟨db, dd + i * 10 + 8, none⟩, .int .i64 d.sends), (⟨db, dd + i * 10 + 9, none⟩, .int .i64 d.box)] (hasC (up (hk.domains.cell hB (i := i) (x := d) hd (j := 0) rfl)) (hasC (up (hk.domains.cell hB (i := i) (x := d) hd (j := 1) rfl)) (hasC (up (hk.domains.cell hB (i := i) (x := d) hd (j := 2) rfl)) (hasC (up (hk.domains.cell hB (i := i) (x := d) hd (j := 3) rfl)) (hasC (up (hk.domains.cell hB (i := i) (x := d) hd (j := 4) rfl)) (hasC (up (hk.domains.cell hB (i := i) (x := d) hd (j := 5) rfl)) (hasC (up (hk.domains.cell hB (i := i) (x := d) hd (j := 6) rfl)) (hasC (up (hk.domains.cell hB (i := i) (x := d) hd (j := 7) rfl)) (hasC (up (hk.domains.cell hB (i := i) (x := d) hd (j := 8) rfl)) (hasC (up (hk.domains.cell hB (i := i) (x := d) hd (j := 9) rfl)) has0)))))))))) (fun _ => by kernel_rfl) ?_ : RT _ _ _ _ _ _ 3 _)
        refine (stepR (z := 1) (newS 46 [.int .i64 0, .int .u64 0, .slice none 0 0, .slice none 0 0, .int .i64 0, .int .i64 0, .int .i64 0, .int .i64 0, .int .i64 0, .int .i64 0] (some 4) (fun b => .pointer (some ⟨b, 0, none⟩)) (fun _ _ => by kernel_rfl)) (fun b2 => ?_) : RT _ _ _ _ _ _ 2 _)
        refine (stepR (z := 0) (storeS [(0, .int .i64 d.lab.level), (1, .int .u64 d.lab.cats), (2, .slice d.routes.a d.routes.l.length d.routes.c), (3, .slice d.release.a d.release.l.length d.release.c), (4, .int .i64 d.to), (5, .int .i64 d.threads), (6, .int .i64 d.groups), (7, .int .i64 d.ring), (8, .int .i64 d.sends), (9, .int .i64 d.box)] [.int .i64 d.lab.level, .int .u64 d.lab.cats, .slice d.routes.a d.routes.l.length d.routes.c, .slice d.release.a d.release.l.length d.release.c, .int .i64 d.to, .int .i64 d.threads, .int .i64 d.groups, .int .i64 d.ring, .int .i64 d.sends, .int .i64 d.box] (fun _ => by kernel_rfl) (by kernel_rfl) (by kernel_rfl)) (fun _ => ?_) : RT _ _ _ _ _ _ 1 _)
        refine endR ?_
        refine seqR (by kernel_rfl) ?_
        refine regionR 3 (by kernel_rfl) (by kernel_rfl) ?_
        refine (runR (H := (blk b2 46 [.int .i64 d.lab.level, .int .u64 d.lab.cats, .slice d.routes.a d.routes.l.length d.routes.c, .slice d.release.a d.release.l.length d.release.c, .int .i64 d.to, .int .i64 d.threads, .int .i64 d.groups, .int .i64 d.ring, .int .i64 d.sends, .int .i64 d.box] :: blk b1 25 [.int .i64 c.frame, .int .i64 c.epoch, .slice c.plans.a c.plans.l.length c.plans.c, .slice (some ⟨db, dd, none⟩) c.domains.l.length c.domains.c] :: H)) (z := 2) 1 [1, 2, 17, 18, 19, 23] [(1, .pointer (some ⟨b1, 0, none⟩)), (2, .nilIface), (17, .slice (some ⟨db, dd, none⟩) c.domains.l.length c.domains.c), (18, .int .i64 (c.domains.l.length : Int)), (19, .int .i64 (i : Int)), (23, .agg #[.int .i64 d.lab.level, .int .u64 d.lab.cats, .slice d.routes.a d.routes.l.length d.routes.c, .slice d.release.a d.release.l.length d.release.c, .int .i64 d.to, .int .i64 d.threads, .int .i64 d.groups, .int .i64 d.ring, .int .i64 d.sends, .int .i64 d.box])] [(⟨b2, 0, none⟩, .int .i64 d.lab.level), (⟨b2, 1, none⟩, .int .u64 d.lab.cats), (⟨b2, 2, none⟩, .slice d.routes.a d.routes.l.length d.routes.c), (⟨b2, 3, none⟩, .slice d.release.a d.release.l.length d.release.c), (⟨b2, 4, none⟩, .int .i64 d.to), (⟨b2, 5, none⟩, .int .i64 d.threads), (⟨b2, 6, none⟩, .int .i64 d.groups), (⟨b2, 7, none⟩, .int .i64 d.ring), (⟨b2, 8, none⟩, .int .i64 d.sends), (⟨b2, 9, none⟩, .int .i64 d.box)] (hasC (blkAt (T := 46) (cs := [.int .i64 d.lab.level, .int .u64 d.lab.cats, .slice d.routes.a d.routes.l.length d.routes.c, .slice d.release.a d.release.l.length d.release.c, .int .i64 d.to, .int .i64 d.threads, .int .i64 d.groups, .int .i64 d.ring, .int .i64 d.sends, .int .i64 d.box]) 0 rfl rfl) (hasC (blkAt (T := 46) (cs := [.int .i64 d.lab.level, .int .u64 d.lab.cats, .slice d.routes.a d.routes.l.length d.routes.c, .slice d.release.a d.release.l.length d.release.c, .int .i64 d.to, .int .i64 d.threads, .int .i64 d.groups, .int .i64 d.ring, .int .i64 d.sends, .int .i64 d.box]) 0 rfl rfl) (hasC (blkAt (T := 46) (cs := [.int .i64 d.lab.level, .int .u64 d.lab.cats, .slice d.routes.a d.routes.l.length d.routes.c, .slice d.release.a d.release.l.length d.release.c, .int .i64 d.to, .int .i64 d.threads, .int .i64 d.groups, .int .i64 d.ring, .int .i64 d.sends, .int .i64 d.box]) 0 rfl rfl) (hasC (blkAt (T := 46) (cs := [.int .i64 d.lab.level, .int .u64 d.lab.cats, .slice d.routes.a d.routes.l.length d.routes.c, .slice d.release.a d.release.l.length d.release.c, .int .i64 d.to, .int .i64 d.threads, .int .i64 d.groups, .int .i64 d.ring, .int .i64 d.sends, .int .i64 d.box]) 0 rfl rfl) (hasC (blkAt (T := 46) (cs := [.int .i64 d.lab.level, .int .u64 d.lab.cats, .slice d.routes.a d.routes.l.length d.routes.c, .slice d.release.a d.release.l.length d.release.c, .int .i64 d.to, .int .i64 d.threads, .int .i64 d.groups, .int .i64 d.ring, .int .i64 d.sends, .int .i64 d.box]) 0 rfl rfl) (hasC (blkAt (T := 46) (cs := [.int .i64 d.lab.level, .int .u64 d.lab.cats, .slice d.routes.a d.routes.l.length d.routes.c, .slice d.release.a d.release.l.length d.release.c, .int .i64 d.to, .int .i64 d.threads, .int .i64 d.groups, .int .i64 d.ring, .int .i64 d.sends, .int .i64 d.box]) 0 rfl rfl) (hasC (blkAt (T := 46) (cs := [.int .i64 d.lab.level, .int .u64 d.lab.cats, .slice d.routes.a d.routes.l.length d.routes.c, .slice d.release.a d.release.l.length d.release.c, .int .i64 d.to, .int .i64 d.threads, .int .i64 d.groups, .int .i64 d.ring, .int .i64 d.sends, .int .i64 d.box]) 0 rfl rfl) (hasC (blkAt (T := 46) (cs := [.int .i64 d.lab.level, .int .u64 d.lab.cats, .slice d.routes.a d.routes.l.length d.routes.c, .slice d.release.a d.release.l.length d.release.c, .int .i64 d.to, .int .i64 d.threads, .int .i64 d.groups, .int .i64 d.ring, .int .i64 d.sends, .int .i64 d.box]) 0 rfl rfl) (hasC (blkAt (T := 46) (cs := [.int .i64 d.lab.level, .int .u64 d.lab.cats, .slice d.routes.a d.routes.l.length d.routes.c, .slice d.release.a d.release.l.length d.release.c, .int .i64 d.to, .int .i64 d.threads, .int .i64 d.groups, .int .i64 d.ring, .int .i64 d.sends, .int .i64 d.box]) 0 rfl rfl) (hasC (blkAt (T := 46) (cs := [.int .i64 d.lab.level, .int .u64 d.lab.cats, .slice d.routes.a d.routes.l.length d.routes.c, .slice d.release.a d.release.l.length d.release.c, .int .i64 d.to, .int .i64 d.threads, .int .i64 d.groups, .int .i64 d.ring, .int .i64 d.sends, .int .i64 d.box]) 0 rfl rfl) has0)))))))))) (fun _ => by kernel_rfl) ?_ : RT _ _ _ _ _ _ 3 _)
        rw [← hB]
        refine (stepR (z := 1) (callS 35 [.agg #[.int .i64 d.lab.level, .int .u64 d.lab.cats, .slice d.routes.a d.routes.l.length d.routes.c, .slice d.release.a d.release.l.length d.release.c, .int .i64 d.to, .int .i64 d.threads, .int .i64 d.groups, .int .i64 d.ring, .int .i64 d.sends, .int .i64 d.box]] (some 24) (fun _ => .bool (quotasOk d)) (fun _ => (blk b2 46 [.int .i64 d.lab.level, .int .u64 d.lab.cats, .slice d.routes.a d.routes.l.length d.routes.c, .slice d.release.a d.release.l.length d.release.c, .int .i64 d.to, .int .i64 d.threads, .int .i64 d.groups, .int .i64 d.ring, .int .i64 d.sends, .int .i64 d.box] :: blk b1 25 [.int .i64 c.frame, .int .i64 c.epoch, .slice c.plans.a c.plans.l.length c.plans.c, .slice c.domains.a c.domains.l.length c.domains.c] :: H)) (fun _ => by kernel_rfl) (quotas_walk _ d)) (fun _ => ?_) : RT _ _ _ _ _ _ 2 _)
        refine (run0 (z := 0) 1 [1, 2, 17, 18, 19, 25] [(1, .pointer (some ⟨b1, 0, none⟩)), (2, .nilIface), (17, .slice c.domains.a c.domains.l.length c.domains.c), (18, .int .i64 (c.domains.l.length : Int)), (19, .int .i64 (i : Int)), (25, .bool (!(quotasOk d)))] (fun _ => by kernel_rfl) (endR ?_) : RT _ _ _ _ _ _ 1 _)
        refine condR (b := !(quotasOk d)) (by kernel_rfl) (fun _ => by kernel_rfl) (fun hb => ?_) (fun hb => ?_)
        · skip
          refine seqR (by kernel_rfl) ?_
          refine regionR 2 (by kernel_rfl) (by kernel_rfl) ?_
          refine (run0 (z := 0) 2 [1, 2, 17, 18, 19] [(1, .pointer (some ⟨b1, 0, none⟩)), (2, .iface 56 (.int .i64 19)), (17, .slice c.domains.a c.domains.l.length c.domains.c), (18, .int .i64 (c.domains.l.length : Int)), (19, .int .i64 (i : Int))] (fun _ => by kernel_rfl) (endR ?_) : RT _ _ _ _ _ _ 2 _)
          refine retR (by kernel_rfl) ?_
          refine blockV ?_
          refine thenV ?_
          refine thenV ?_
          refine blockV ?_
          refine thenV ?_
          have h0 : quotasAll c = false := by
            rw [← Bool.not_eq_true]
            intro h1
            have := List.all_eq_true.1 h1 d hdm
            rw [this] at hb
            simp at hb
          refine done0 (.iface 56 (.int .i64 19)) (fun _ => by kernel_rfl) (fun w hs => ?_) .ret (.inr rfl)
          exact ⟨(), by simp only [confErr, hf, hsh, h0]; rfl, hs.tail.tail⟩
        · skip
          refine skipR (by kernel_rfl) ?_
          refine regionR 2 (by kernel_rfl) (by kernel_rfl) ?_
          refine (run0 (z := 0) 2 [1, 2, 17, 18, 19] [(1, .pointer (some ⟨b1, 0, none⟩)), (2, .nilIface), (17, .slice c.domains.a c.domains.l.length c.domains.c), (18, .int .i64 (c.domains.l.length : Int)), (19, .int .i64 (IntKind.i64.wrap ((i : Int) + 1)))] (fun _ => by kernel_rfl) (endR ?_) : RT _ _ _ _ _ _ 2 _)
          have hb' : quotasOk d = true := by simpa using hb
          refine PT.drop ?_
          refine PT.keep (L' := [(1, .pointer (some ⟨b1, 0, none⟩)), (2, .nilIface), (17, .slice c.domains.a c.domains.l.length c.domains.c), (18, .int .i64 (c.domains.l.length : Int)), (19, .int .i64 (IntKind.i64.wrap ((i : Int) + 1)))]) [1, 2, 17, 18, 19] rfl ?_
          exact againG (k - 1) (i + 1) (by rw [hw]) rfl (by omega) ⟨by omega, by rw [ht, List.all_append, hall]; simp only [List.all_cons, List.all_nil, hb', Bool.and_self]⟩
      · skip
        have hi : i = c.domains.l.length := by have := of_decide_eq_false h; omega
        rw [hi, List.take_length] at hall
        have hq : quotasAll c = true := hall
        refine exitR 1 (by kernel_rfl) (by kernel_rfl) ?_
        refine thenX ?_
        refine thenX ?_
        refine leaveR ?_
        refine seqR (by kernel_rfl) ?_
        refine seqR (by kernel_rfl) ?_
        refine regionR 4 (by kernel_rfl) (by kernel_rfl) ?_
        refine (runR (H := (blk b1 25 [.int .i64 c.frame, .int .i64 c.epoch, .slice c.plans.a c.plans.l.length c.plans.c, .slice c.domains.a c.domains.l.length c.domains.c] :: H)) (z := 0) 4 [1, 2, 30, 31] [(1, .pointer (some ⟨b1, 0, none⟩)), (2, .nilIface), (30, .int .i64 (c.domains.l.length : Int)), (31, .int .i64 0)] [(⟨b1, 3, none⟩, .slice c.domains.a c.domains.l.length c.domains.c)] (hasC (blkAt (T := 25) (cs := [.int .i64 c.frame, .int .i64 c.epoch, .slice c.plans.a c.plans.l.length c.plans.c, .slice c.domains.a c.domains.l.length c.domains.c]) 0 rfl rfl) has0) (fun _ => by kernel_rfl) (endR ?_) : RT _ _ _ _ _ _ 4 _)
        refine blockR 3 (by kernel_rfl) (by kernel_rfl) ?_
        refine PT.keep (L' := [(1, .pointer (some ⟨b1, 0, none⟩)), (2, .nilIface), (30, .int .i64 (c.domains.l.length : Int)), (31, .int .i64 0)]) [1, 2, 30, 31] rfl ?_
        refine loopG (fun (j : Nat) => [(1, .pointer (some ⟨b1, 0, none⟩)), (2, .nilIface), (30, .int .i64 (c.domains.l.length : Int)), (31, .int .i64 (j : Int))]) (fun (j : Nat) => (blk b1 25 [.int .i64 c.frame, .int .i64 c.epoch, .slice c.plans.a c.plans.l.length c.plans.c, .slice c.domains.a c.domains.l.length c.domains.c] :: H)) (fun k (j : Nat) => k + j = c.domains.l.length ∧ ((List.range j).all (routesAt c)) = true) c.domains.l.length 0 (by kernel_rfl) ⟨by omega, rfl⟩ ?_
        rintro k j ⟨hkj, hal2⟩
        have hw2 : IntKind.i64.wrap ((j : Int) + 1) = ((j + 1 : Nat) : Int) := by rw [IntKind.wrap_i64]; omega
        refine seqR (by kernel_rfl) ?_
        refine regionR 1 (by kernel_rfl) (by kernel_rfl) ?_
        refine (run0 (z := 0) 1 [1, 2, 30, 31, 32] [(1, .pointer (some ⟨b1, 0, none⟩)), (2, .nilIface), (30, .int .i64 (c.domains.l.length : Int)), (31, .int .i64 (j : Int)), (32, .bool (decide ((j : Int) < (c.domains.l.length : Int))))] (fun _ => by kernel_rfl) (endR ?_) : RT _ _ _ _ _ _ 1 _)
        refine seqR (by kernel_rfl) ?_
        refine condR (b := decide ((j : Int) < (c.domains.l.length : Int))) (by kernel_rfl) (fun _ => by kernel_rfl) (fun h2 => ?_) (fun h2 => ?_)
        · skip
          have hj : j < c.domains.l.length := by have := of_decide_eq_true h2; omega
          obtain ⟨d, hd⟩ : ∃ d, c.domains.l[j]? = some d := ⟨_, by simp [hj]; rfl⟩
          refine skipR (by kernel_rfl) ?_
          refine seqR (by kernel_rfl) ?_
          refine blockR 4 (by kernel_rfl) (by kernel_rfl) ?_
          refine seqR (by kernel_rfl) ?_
          refine regionR 2 (by kernel_rfl) (by kernel_rfl) ?_
          refine (run0 (z := 0) 2 [1, 2, 30, 31, 5] [(1, .pointer (some ⟨b1, 0, none⟩)), (2, .nilIface), (30, .int .i64 (c.domains.l.length : Int)), (31, .int .i64 (j : Int)), (5, .int .i64 (j : Int))] (fun _ => by kernel_rfl) (endR ?_) : RT _ _ _ _ _ _ 2 _)
          refine seqR (by kernel_rfl) ?_
          refine regionR 4 (by kernel_rfl) (by kernel_rfl) ?_
          refine (runR (H := (blk b1 25 [.int .i64 c.frame, .int .i64 c.epoch, .slice c.plans.a c.plans.l.length c.plans.c, .slice c.domains.a c.domains.l.length c.domains.c] :: H)) (z := 2) 2 [1, 2, 30, 31, 34, 35] [(1, .pointer (some ⟨b1, 0, none⟩)), (2, .nilIface), (30, .int .i64 (c.domains.l.length : Int)), (31, .int .i64 (j : Int)), (34, .agg #[.int .i64 c.frame, .int .i64 c.epoch, .slice c.plans.a c.plans.l.length c.plans.c, .slice c.domains.a c.domains.l.length c.domains.c]), (35, .int .i64 (j : Int))] [(⟨b1, 0, none⟩, .int .i64 c.frame), (⟨b1, 1, none⟩, .int .i64 c.epoch), (⟨b1, 2, none⟩, .slice c.plans.a c.plans.l.length c.plans.c), (⟨b1, 3, none⟩, .slice c.domains.a c.domains.l.length c.domains.c)] (hasC (blkAt (T := 25) (cs := [.int .i64 c.frame, .int .i64 c.epoch, .slice c.plans.a c.plans.l.length c.plans.c, .slice c.domains.a c.domains.l.length c.domains.c]) 0 rfl rfl) (hasC (blkAt (T := 25) (cs := [.int .i64 c.frame, .int .i64 c.epoch, .slice c.plans.a c.plans.l.length c.plans.c, .slice c.domains.a c.domains.l.length c.domains.c]) 0 rfl rfl) (hasC (blkAt (T := 25) (cs := [.int .i64 c.frame, .int .i64 c.epoch, .slice c.plans.a c.plans.l.length c.plans.c, .slice c.domains.a c.domains.l.length c.domains.c]) 0 rfl rfl) (hasC (blkAt (T := 25) (cs := [.int .i64 c.frame, .int .i64 c.epoch, .slice c.plans.a c.plans.l.length c.plans.c, .slice c.domains.a c.domains.l.length c.domains.c]) 0 rfl rfl) has0)))) (fun _ => by kernel_rfl) ?_ : RT _ _ _ _ _ _ 4 _)
          refine (stepR (z := 1) (callS 36 [.agg #[.int .i64 c.frame, .int .i64 c.epoch, .slice c.plans.a c.plans.l.length c.plans.c, .slice c.domains.a c.domains.l.length c.domains.c], .int .i64 (j : Int)] (some 36) (fun _ => .bool (routesOk c (j : Int) d)) (fun _ => (blk b1 25 [.int .i64 c.frame, .int .i64 c.epoch, .slice c.plans.a c.plans.l.length c.plans.c, .slice c.domains.a c.domains.l.length c.domains.c] :: H)) (fun _ => by kernel_rfl) (routes_walk _ c j d hd hk.up hsm)) (fun _ => ?_) : RT _ _ _ _ _ _ 2 _)
          refine (run0 (z := 0) 1 [1, 2, 30, 31, 37] [(1, .pointer (some ⟨b1, 0, none⟩)), (2, .nilIface), (30, .int .i64 (c.domains.l.length : Int)), (31, .int .i64 (j : Int)), (37, .bool (!(routesOk c (j : Int) d)))] (fun _ => by kernel_rfl) (endR ?_) : RT _ _ _ _ _ _ 1 _)
          refine condR (b := !(routesOk c (j : Int) d)) (by kernel_rfl) (fun _ => by kernel_rfl) (fun hb => ?_) (fun hb => ?_)
          · skip
            refine seqR (by kernel_rfl) ?_
            refine regionR 2 (by kernel_rfl) (by kernel_rfl) ?_
            refine (run0 (z := 0) 2 [1, 2, 30, 31] [(1, .pointer (some ⟨b1, 0, none⟩)), (2, .iface 56 (.int .i64 17)), (30, .int .i64 (c.domains.l.length : Int)), (31, .int .i64 (j : Int))] (fun _ => by kernel_rfl) (endR ?_) : RT _ _ _ _ _ _ 2 _)
            refine retR (by kernel_rfl) ?_
            refine blockV ?_
            refine thenV ?_
            refine thenV ?_
            refine blockV ?_
            refine thenV ?_
            have h0 : routesAll c = false := by
              rw [← Bool.not_eq_true]
              intro h1
              have := List.all_eq_true.1 h1 j (List.mem_range.2 hj)
              rw [routesAt, hd] at this
              simp only at this
              rw [this] at hb
              simp at hb
            refine done0 (.iface 56 (.int .i64 17)) (fun _ => by kernel_rfl) (fun w hs => ?_) .ret (.inr rfl)
            exact ⟨(), by simp only [confErr, hf, hsh, hq, h0]; rfl, hs.tail⟩
          · skip
            refine skipR (by kernel_rfl) ?_
            refine regionR 2 (by kernel_rfl) (by kernel_rfl) ?_
            refine (run0 (z := 0) 2 [1, 2, 30, 31] [(1, .pointer (some ⟨b1, 0, none⟩)), (2, .nilIface), (30, .int .i64 (c.domains.l.length : Int)), (31, .int .i64 (IntKind.i64.wrap ((j : Int) + 1)))] (fun _ => by kernel_rfl) (endR ?_) : RT _ _ _ _ _ _ 2 _)
            have hb' : routesOk c (j : Int) d = true := by simpa using hb
            refine PT.keep (L' := [(1, .pointer (some ⟨b1, 0, none⟩)), (2, .nilIface), (30, .int .i64 (c.domains.l.length : Int)), (31, .int .i64 (IntKind.i64.wrap ((j : Int) + 1)))]) [1, 2, 30, 31] rfl ?_
            exact againG (k - 1) (j + 1) (by rw [hw2]) rfl (by omega) ⟨by omega, by rw [List.range_succ, List.all_append, hal2]; simp only [List.all_cons, List.all_nil, routesAt, hd, hb', Bool.and_self]⟩
        · skip
          have hj : j = c.domains.l.length := by have := of_decide_eq_false h2; omega
          rw [hj] at hal2
          have hr : routesAll c = true := hal2
          refine exitR 3 (by kernel_rfl) (by kernel_rfl) ?_
          refine thenX ?_
          refine thenX ?_
          refine leaveR ?_
          refine seqR (by kernel_rfl) ?_
          refine regionR 1 (by kernel_rfl) (by kernel_rfl) ?_
          refine (run0 (z := 0) 1 [2] [(2, .nilIface)] (fun _ => by kernel_rfl) (endR ?_) : RT _ _ _ _ _ _ 1 _)
          refine retR (by kernel_rfl) ?_
          refine done0 (.nilIface) (fun _ => by kernel_rfl) (fun w hs => ?_) .ret (.inr rfl)
          exact ⟨(), by simp only [confErr, hf, hsh, hq, hr]; rfl, hs.tail⟩
    | false =>
      refine condR (b := true) (by kernel_rfl) (fun _ => by kernel_rfl) (fun _ => ?_) (fun h => by cases h)
      refine seqR (by kernel_rfl) ?_
      refine regionR 2 (by kernel_rfl) (by kernel_rfl) ?_
      refine (run0 (z := 0) 2 [1, 2] [(1, .pointer (some ⟨b1, 0, none⟩)), (2, .iface 56 (.int .i64 18))] (fun _ => by kernel_rfl) (endR ?_) : RT _ _ _ _ _ _ 2 _)
      refine retR (by kernel_rfl) ?_
      refine blockV ?_
      refine thenV ?_
      refine done0 (.iface 56 (.int .i64 18)) (fun _ => by kernel_rfl) (fun w hs => ?_) .ret (.inr rfl)
      exact ⟨(), by simp only [confErr, hf, hsh]; rfl, hs.tail⟩
  | false =>
    refine condR (b := true) (by kernel_rfl) (fun _ => by kernel_rfl) (fun _ => ?_) (fun h => by cases h)
    refine seqR (by kernel_rfl) ?_
    refine regionR 2 (by kernel_rfl) (by kernel_rfl) ?_
    refine (run0 (z := 0) 2 [1, 2] [(1, .pointer (some ⟨b1, 0, none⟩)), (2, .iface 56 (.int .i64 10))] (fun _ => by kernel_rfl) (endR ?_) : RT _ _ _ _ _ _ 2 _)
    refine retR (by kernel_rfl) ?_
    refine blockV ?_
    refine thenV ?_
    refine done0 (.iface 56 (.int .i64 10)) (fun _ => by kernel_rfl) (fun w hs => ?_) .ret (.inr rfl)
    exact ⟨(), by simp only [confErr, hf]; rfl, hs.tail⟩
end Go.Proofs.Ytjjbnmlhbbnhcaa
