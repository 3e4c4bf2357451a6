/- conf.quotas, conf.form: their walks. Conditions: none. -/
import Derived.Test.YtjjbnmlhbbnhcaaPl1
import Derived.Test.YtjjbnmlhbbnhcaaPl2
set_option linter.unusedVariables false
set_option linter.unusedSimpArgs false
namespace Go.Proofs.Ytjjbnmlhbbnhcaa
open Go.RowKit G
def quotasOk (d : DomV) : Bool := ((((inb d.threads 1 8 && inb d.groups 0 4) && inb d.ring 1 16) && inb d.sends 0 8) && inb d.box 1 8)

set_option maxRecDepth 100000 in
theorem quotas_walk (H : List SP) (d : DomV) : ∀ w, Sat w H → Calls Try.prog 35 #[.agg #[.int .i64 d.lab.level, .int .u64 d.lab.cats, .slice d.routes.a d.routes.l.length d.routes.c, .slice d.release.a d.release.l.length d.release.c, .int .i64 d.to, .int .i64 d.threads, .int .i64 d.groups, .int .i64 d.ring, .int .i64 d.sends, .int .i64 d.box]] w (Ret (ι := Unit) (fun _ => .bool (quotasOk d)) fun _ => H) := by
  refine enterG (fn := Try.f35) 26 [.agg #[.int .i64 d.lab.level, .int .u64 d.lab.cats, .slice d.routes.a d.routes.l.length d.routes.c, .slice d.release.a d.release.l.length d.release.c, .int .i64 d.to, .int .i64 d.threads, .int .i64 d.groups, .int .i64 d.ring, .int .i64 d.sends, .int .i64 d.box]] Try.func35 (by kernel_rfl) (by kernel_rfl) (by kernel_rfl) ?_
  refine seqR (by kernel_rfl) ?_
  refine regionR 2 (by kernel_rfl) (by kernel_rfl) ?_
  refine (stepR (z := 1) (newS 46 [.int .i64 d.lab.level, .int .u64 d.lab.cats, .slice d.routes.a d.routes.l.length d.routes.c, .slice d.release.a d.release.l.length d.release.c, .int .i64 d.to, .int .i64 d.threads, .int .i64 d.groups, .int .i64 d.ring, .int .i64 d.sends, .int .i64 d.box] (some 1) (fun b => .pointer (some ⟨b, 0, none⟩)) (fun _ _ => by kernel_rfl)) (fun b1 => ?_) : RT _ _ _ _ _ _ 2 _)
  refine (run0 (z := 0) 1 [1, 2] [(1, .pointer (some ⟨b1, 0, none⟩)), (2, .bool false)] (fun _ => by kernel_rfl) (endR ?_) : RT _ _ _ _ _ _ 1 _)
  refine seqR (by kernel_rfl) ?_
  refine regionR 24 (by kernel_rfl) (by kernel_rfl) ?_
  refine (runR (H := (blk b1 46 [.int .i64 d.lab.level, .int .u64 d.lab.cats, .slice d.routes.a d.routes.l.length d.routes.c, .slice d.release.a d.release.l.length d.release.c, .int .i64 d.to, .int .i64 d.threads, .int .i64 d.groups, .int .i64 d.ring, .int .i64 d.sends, .int .i64 d.box] :: H)) (z := 22) 2 [1, 2, 4] [(1, .pointer (some ⟨b1, 0, none⟩)), (2, .bool false), (4, .int .i64 d.threads)] [(⟨b1, 5, none⟩, .int .i64 d.threads)] (hasC (blkAt (T := 46) (cs := [.int .i64 d.lab.level, .int .u64 d.lab.cats, .slice d.routes.a d.routes.l.length d.routes.c, .slice d.release.a d.release.l.length d.release.c, .int .i64 d.to, .int .i64 d.threads, .int .i64 d.groups, .int .i64 d.ring, .int .i64 d.sends, .int .i64 d.box]) 0 rfl rfl) has0) (fun _ => by kernel_rfl) ?_ : RT _ _ _ _ _ _ 24 _)
  refine (stepR (z := 21) (callS 46 [.int .i64 d.threads, .int .i64 1, .int .i64 8] (some 5) (fun _ => .bool (inb d.threads 1 8)) (fun (_ : Unit) => (blk b1 46 [.int .i64 d.lab.level, .int .u64 d.lab.cats, .slice d.routes.a d.routes.l.length d.routes.c, .slice d.release.a d.release.l.length d.release.c, .int .i64 d.to, .int .i64 d.threads, .int .i64 d.groups, .int .i64 d.ring, .int .i64 d.sends, .int .i64 d.box] :: H)) (fun _ => by kernel_rfl) (within_walk _ d.threads 1 8)) (fun _ => ?_) : RT _ _ _ _ _ _ 22 _)
  refine (run0 (z := 20) 1 [1, 2, 6] [(1, .pointer (some ⟨b1, 0, none⟩)), (2, .bool false), (6, .bool (inb d.threads 1 8))] (fun _ => by kernel_rfl) ?_ : RT _ _ _ _ _ _ 21 _)
  refine (segR (ι := Unit) (z := 16) 4 (fun _ => [(1, .pointer (some ⟨b1, 0, none⟩)), (2, .bool false), (10, .bool ((inb d.threads 1 8) && (inb d.groups 0 4)))]) (fun _ => (blk b1 46 [.int .i64 d.lab.level, .int .u64 d.lab.cats, .slice d.routes.a d.routes.l.length d.routes.c, .slice d.release.a d.release.l.length d.release.c, .int .i64 d.to, .int .i64 d.threads, .int .i64 d.groups, .int .i64 d.ring, .int .i64 d.sends, .int .i64 d.box] :: H)) ?_ (fun _ => ?_) : RT _ _ _ _ _ _ 20 _)
  · cases hg4 : (inb d.threads 1 8) with
    | true =>
      refine (runR (H := (blk b1 46 [.int .i64 d.lab.level, .int .u64 d.lab.cats, .slice d.routes.a d.routes.l.length d.routes.c, .slice d.release.a d.release.l.length d.release.c, .int .i64 d.to, .int .i64 d.threads, .int .i64 d.groups, .int .i64 d.ring, .int .i64 d.sends, .int .i64 d.box] :: H)) (z := 2) 2 [1, 2, 6, 8] [(1, .pointer (some ⟨b1, 0, none⟩)), (2, .bool false), (6, .bool true), (8, .int .i64 d.groups)] [(⟨b1, 6, none⟩, .int .i64 d.groups)] (hasC (blkAt (T := 46) (cs := [.int .i64 d.lab.level, .int .u64 d.lab.cats, .slice d.routes.a d.routes.l.length d.routes.c, .slice d.release.a d.release.l.length d.release.c, .int .i64 d.to, .int .i64 d.threads, .int .i64 d.groups, .int .i64 d.ring, .int .i64 d.sends, .int .i64 d.box]) 0 rfl rfl) has0) (fun _ => by kernel_rfl) ?_ : RT _ _ _ _ _ _ 4 _)
      refine (stepR (z := 1) (callS 46 [.int .i64 d.groups, .int .i64 0, .int .i64 4] (some 9) (fun _ => .bool (inb d.groups 0 4)) (fun (_ : Unit) => (blk b1 46 [.int .i64 d.lab.level, .int .u64 d.lab.cats, .slice d.routes.a d.routes.l.length d.routes.c, .slice d.release.a d.release.l.length d.release.c, .int .i64 d.to, .int .i64 d.threads, .int .i64 d.groups, .int .i64 d.ring, .int .i64 d.sends, .int .i64 d.box] :: H)) (fun _ => by kernel_rfl) (within_walk _ d.groups 0 4)) (fun _ => ?_) : RT _ _ _ _ _ _ 2 _)
      refine (run0 (z := 0) 1 [1, 2, 10] [(1, .pointer (some ⟨b1, 0, none⟩)), (2, .bool false), (10, .bool (inb d.groups 0 4))] (fun _ => by kernel_rfl) (endR ?_) : RT _ _ _ _ _ _ 1 _)
      refine PT.keep (L' := [(1, .pointer (some ⟨b1, 0, none⟩)), (2, .bool false), (10, .bool (true && (inb d.groups 0 4)))]) [1, 2, 10] rfl ?_
      exact midR () rfl rfl
    | false =>
      refine (run0 (z := 0) 4 [1, 2, 10] [(1, .pointer (some ⟨b1, 0, none⟩)), (2, .bool false), (10, .bool false)] (fun _ => by kernel_rfl) (endR ?_) : RT _ _ _ _ _ _ 4 _)
      refine PT.keep (L' := [(1, .pointer (some ⟨b1, 0, none⟩)), (2, .bool false), (10, .bool (false && (inb d.groups 0 4)))]) [1, 2, 10] rfl ?_
      exact midR () rfl rfl
  refine (run0 (z := 15) 1 [1, 2, 11] [(1, .pointer (some ⟨b1, 0, none⟩)), (2, .bool false), (11, .bool ((inb d.threads 1 8) && (inb d.groups 0 4)))] (fun _ => by kernel_rfl) ?_ : RT _ _ _ _ _ _ 16 _)
  refine (segR (ι := Unit) (z := 11) 4 (fun _ => [(1, .pointer (some ⟨b1, 0, none⟩)), (2, .bool false), (15, .bool (((inb d.threads 1 8) && (inb d.groups 0 4)) && (inb d.ring 1 16)))]) (fun _ => (blk b1 46 [.int .i64 d.lab.level, .int .u64 d.lab.cats, .slice d.routes.a d.routes.l.length d.routes.c, .slice d.release.a d.release.l.length d.release.c, .int .i64 d.to, .int .i64 d.threads, .int .i64 d.groups, .int .i64 d.ring, .int .i64 d.sends, .int .i64 d.box] :: H)) ?_ (fun _ => ?_) : RT _ _ _ _ _ _ 15 _)
  · cases hg9 : ((inb d.threads 1 8) && (inb d.groups 0 4)) with
    | true =>
      refine (runR (H := (blk b1 46 [.int .i64 d.lab.level, .int .u64 d.lab.cats, .slice d.routes.a d.routes.l.length d.routes.c, .slice d.release.a d.release.l.length d.release.c, .int .i64 d.to, .int .i64 d.threads, .int .i64 d.groups, .int .i64 d.ring, .int .i64 d.sends, .int .i64 d.box] :: H)) (z := 2) 2 [1, 2, 11, 13] [(1, .pointer (some ⟨b1, 0, none⟩)), (2, .bool false), (11, .bool true), (13, .int .i64 d.ring)] [(⟨b1, 7, none⟩, .int .i64 d.ring)] (hasC (blkAt (T := 46) (cs := [.int .i64 d.lab.level, .int .u64 d.lab.cats, .slice d.routes.a d.routes.l.length d.routes.c, .slice d.release.a d.release.l.length d.release.c, .int .i64 d.to, .int .i64 d.threads, .int .i64 d.groups, .int .i64 d.ring, .int .i64 d.sends, .int .i64 d.box]) 0 rfl rfl) has0) (fun _ => by kernel_rfl) ?_ : RT _ _ _ _ _ _ 4 _)
      refine (stepR (z := 1) (callS 46 [.int .i64 d.ring, .int .i64 1, .int .i64 16] (some 14) (fun _ => .bool (inb d.ring 1 16)) (fun (_ : Unit) => (blk b1 46 [.int .i64 d.lab.level, .int .u64 d.lab.cats, .slice d.routes.a d.routes.l.length d.routes.c, .slice d.release.a d.release.l.length d.release.c, .int .i64 d.to, .int .i64 d.threads, .int .i64 d.groups, .int .i64 d.ring, .int .i64 d.sends, .int .i64 d.box] :: H)) (fun _ => by kernel_rfl) (within_walk _ d.ring 1 16)) (fun _ => ?_) : RT _ _ _ _ _ _ 2 _)
      refine (run0 (z := 0) 1 [1, 2, 15] [(1, .pointer (some ⟨b1, 0, none⟩)), (2, .bool false), (15, .bool (inb d.ring 1 16))] (fun _ => by kernel_rfl) (endR ?_) : RT _ _ _ _ _ _ 1 _)
      refine PT.keep (L' := [(1, .pointer (some ⟨b1, 0, none⟩)), (2, .bool false), (15, .bool (true && (inb d.ring 1 16)))]) [1, 2, 15] rfl ?_
      exact midR () rfl rfl
    | false =>
      refine (run0 (z := 0) 4 [1, 2, 15] [(1, .pointer (some ⟨b1, 0, none⟩)), (2, .bool false), (15, .bool false)] (fun _ => by kernel_rfl) (endR ?_) : RT _ _ _ _ _ _ 4 _)
      refine PT.keep (L' := [(1, .pointer (some ⟨b1, 0, none⟩)), (2, .bool false), (15, .bool (false && (inb d.ring 1 16)))]) [1, 2, 15] rfl ?_
      exact midR () rfl rfl
  refine (run0 (z := 10) 1 [1, 2, 16] [(1, .pointer (some ⟨b1, 0, none⟩)), (2, .bool false), (16, .bool (((inb d.threads 1 8) && (inb d.groups 0 4)) && (inb d.ring 1 16)))] (fun _ => by kernel_rfl) ?_ : RT _ _ _ _ _ _ 11 _)
  refine (segR (ι := Unit) (z := 6) 4 (fun _ => [(1, .pointer (some ⟨b1, 0, none⟩)), (2, .bool false), (20, .bool ((((inb d.threads 1 8) && (inb d.groups 0 4)) && (inb d.ring 1 16)) && (inb d.sends 0 8)))]) (fun _ => (blk b1 46 [.int .i64 d.lab.level, .int .u64 d.lab.cats, .slice d.routes.a d.routes.l.length d.routes.c, .slice d.release.a d.release.l.length d.release.c, .int .i64 d.to, .int .i64 d.threads, .int .i64 d.groups, .int .i64 d.ring, .int .i64 d.sends, .int .i64 d.box] :: H)) ?_ (fun _ => ?_) : RT _ _ _ _ _ _ 10 _)
  · cases hg14 : (((inb d.threads 1 8) && (inb d.groups 0 4)) && (inb d.ring 1 16)) with
    | true =>
      refine (runR (H := (blk b1 46 [.int .i64 d.lab.level, .int .u64 d.lab.cats, .slice d.routes.a d.routes.l.length d.routes.c, .slice d.release.a d.release.l.length d.release.c, .int .i64 d.to, .int .i64 d.threads, .int .i64 d.groups, .int .i64 d.ring, .int .i64 d.sends, .int .i64 d.box] :: H)) (z := 2) 2 [1, 2, 16, 18] [(1, .pointer (some ⟨b1, 0, none⟩)), (2, .bool false), (16, .bool true), (18, .int .i64 d.sends)] [(⟨b1, 8, none⟩, .int .i64 d.sends)] (hasC (blkAt (T := 46) (cs := [.int .i64 d.lab.level, .int .u64 d.lab.cats, .slice d.routes.a d.routes.l.length d.routes.c, .slice d.release.a d.release.l.length d.release.c, .int .i64 d.to, .int .i64 d.threads, .int .i64 d.groups, .int .i64 d.ring, .int .i64 d.sends, .int .i64 d.box]) 0 rfl rfl) has0) (fun _ => by kernel_rfl) ?_ : RT _ _ _ _ _ _ 4 _)
      refine (stepR (z := 1) (callS 46 [.int .i64 d.sends, .int .i64 0, .int .i64 8] (some 19) (fun _ => .bool (inb d.sends 0 8)) (fun (_ : Unit) => (blk b1 46 [.int .i64 d.lab.level, .int .u64 d.lab.cats, .slice d.routes.a d.routes.l.length d.routes.c, .slice d.release.a d.release.l.length d.release.c, .int .i64 d.to, .int .i64 d.threads, .int .i64 d.groups, .int .i64 d.ring, .int .i64 d.sends, .int .i64 d.box] :: H)) (fun _ => by kernel_rfl) (within_walk _ d.sends 0 8)) (fun _ => ?_) : RT _ _ _ _ _ _ 2 _)
      refine (run0 (z := 0) 1 [1, 2, 20] [(1, .pointer (some ⟨b1, 0, none⟩)), (2, .bool false), (20, .bool (inb d.sends 0 8))] (fun _ => by kernel_rfl) (endR ?_) : RT _ _ _ _ _ _ 1 _)
      refine PT.keep (L' := [(1, .pointer (some ⟨b1, 0, none⟩)), (2, .bool false), (20, .bool (true && (inb d.sends 0 8)))]) [1, 2, 20] rfl ?_
      exact midR () rfl rfl
    | false =>
      refine (run0 (z := 0) 4 [1, 2, 20] [(1, .pointer (some ⟨b1, 0, none⟩)), (2, .bool false), (20, .bool false)] (fun _ => by kernel_rfl) (endR ?_) : RT _ _ _ _ _ _ 4 _)
      refine PT.keep (L' := [(1, .pointer (some ⟨b1, 0, none⟩)), (2, .bool false), (20, .bool (false && (inb d.sends 0 8)))]) [1, 2, 20] rfl ?_
      exact midR () rfl rfl
  refine (run0 (z := 5) 1 [1, 2, 21] [(1, .pointer (some ⟨b1, 0, none⟩)), (2, .bool false), (21, .bool ((((inb d.threads 1 8) && (inb d.groups 0 4)) && (inb d.ring 1 16)) && (inb d.sends 0 8)))] (fun _ => by kernel_rfl) ?_ : RT _ _ _ _ _ _ 6 _)
  refine (segR (ι := Unit) (z := 1) 4 (fun _ => [(2, .bool false), (25, .bool (((((inb d.threads 1 8) && (inb d.groups 0 4)) && (inb d.ring 1 16)) && (inb d.sends 0 8)) && (inb d.box 1 8)))]) (fun _ => (blk b1 46 [.int .i64 d.lab.level, .int .u64 d.lab.cats, .slice d.routes.a d.routes.l.length d.routes.c, .slice d.release.a d.release.l.length d.release.c, .int .i64 d.to, .int .i64 d.threads, .int .i64 d.groups, .int .i64 d.ring, .int .i64 d.sends, .int .i64 d.box] :: H)) ?_ (fun _ => ?_) : RT _ _ _ _ _ _ 5 _)
  · cases hg19 : ((((inb d.threads 1 8) && (inb d.groups 0 4)) && (inb d.ring 1 16)) && (inb d.sends 0 8)) with
    | true =>
      refine (runR (H := (blk b1 46 [.int .i64 d.lab.level, .int .u64 d.lab.cats, .slice d.routes.a d.routes.l.length d.routes.c, .slice d.release.a d.release.l.length d.release.c, .int .i64 d.to, .int .i64 d.threads, .int .i64 d.groups, .int .i64 d.ring, .int .i64 d.sends, .int .i64 d.box] :: H)) (z := 2) 2 [2, 21, 23] [(2, .bool false), (21, .bool true), (23, .int .i64 d.box)] [(⟨b1, 9, none⟩, .int .i64 d.box)] (hasC (blkAt (T := 46) (cs := [.int .i64 d.lab.level, .int .u64 d.lab.cats, .slice d.routes.a d.routes.l.length d.routes.c, .slice d.release.a d.release.l.length d.release.c, .int .i64 d.to, .int .i64 d.threads, .int .i64 d.groups, .int .i64 d.ring, .int .i64 d.sends, .int .i64 d.box]) 0 rfl rfl) has0) (fun _ => by kernel_rfl) ?_ : RT _ _ _ _ _ _ 4 _)
      refine (stepR (z := 1) (callS 46 [.int .i64 d.box, .int .i64 1, .int .i64 8] (some 24) (fun _ => .bool (inb d.box 1 8)) (fun (_ : Unit) => (blk b1 46 [.int .i64 d.lab.level, .int .u64 d.lab.cats, .slice d.routes.a d.routes.l.length d.routes.c, .slice d.release.a d.release.l.length d.release.c, .int .i64 d.to, .int .i64 d.threads, .int .i64 d.groups, .int .i64 d.ring, .int .i64 d.sends, .int .i64 d.box] :: H)) (fun _ => by kernel_rfl) (within_walk _ d.box 1 8)) (fun _ => ?_) : RT _ _ _ _ _ _ 2 _)
      refine (run0 (z := 0) 1 [2, 25] [(2, .bool false), (25, .bool (inb d.box 1 8))] (fun _ => by kernel_rfl) (endR ?_) : RT _ _ _ _ _ _ 1 _)
      refine PT.keep (L' := [(2, .bool false), (25, .bool (true && (inb d.box 1 8)))]) [2, 25] rfl ?_
      exact midR () rfl rfl
    | false =>
      refine (run0 (z := 0) 4 [2, 25] [(2, .bool false), (25, .bool false)] (fun _ => by kernel_rfl) (endR ?_) : RT _ _ _ _ _ _ 4 _)
      refine PT.keep (L' := [(2, .bool false), (25, .bool (false && (inb d.box 1 8)))]) [2, 25] rfl ?_
      exact midR () rfl rfl
  refine (run0 (z := 0) 1 [2] [(2, .bool (((((inb d.threads 1 8) && (inb d.groups 0 4)) && (inb d.ring 1 16)) && (inb d.sends 0 8)) && (inb d.box 1 8)))] (fun _ => by kernel_rfl) (endR ?_) : RT _ _ _ _ _ _ 1 _)
  refine retR (by kernel_rfl) ?_
  refine done0 (.bool (((((inb d.threads 1 8) && (inb d.groups 0 4)) && (inb d.ring 1 16)) && (inb d.sends 0 8)) && (inb d.box 1 8))) (fun _ => by kernel_rfl) (fun w hs => ?_) .ret (.inr rfl)
  exact ⟨(), rfl, hs.tail⟩
def ConfV.v (c : ConfV) : Value := .agg #[.int .i64 c.frame, .int .i64 c.epoch, .slice c.plans.a c.plans.l.length c.plans.c, .slice c.domains.a c.domains.l.length c.domains.c]
def formF (c : ConfV) (l : List DomV) : Bool := l.foldl (fun ok d => ok && labIs d.lab) ((inb c.frame 1 64 && inb c.epoch 1 8) && inb c.domains.l.length 1 6)
set_option maxRecDepth 100000 in
theorem form_walk (H : List SP) (c : ConfV) (hk : KC H c) (hl : c.domains.l.length < 9223372036854775800) : ∀ w, Sat w H → Calls Try.prog 33 #[.agg #[.int .i64 c.frame, .int .i64 c.epoch, .slice c.plans.a c.plans.l.length c.plans.c, .slice c.domains.a c.domains.l.length c.domains.c]] w (Ret (ι := Unit) (fun _ => .bool (formF c c.domains.l)) fun _ => H) := by
  refine enterG (fn := Try.f33) 35 [.agg #[.int .i64 c.frame, .int .i64 c.epoch, .slice c.plans.a c.plans.l.length c.plans.c, .slice c.domains.a c.domains.l.length c.domains.c]] Try.func33 (by kernel_rfl) (by kernel_rfl) (by kernel_rfl) ?_
  refine seqR (by kernel_rfl) ?_
  refine regionR 2 (by kernel_rfl) (by kernel_rfl) ?_
  refine (stepR (z := 1) (newS 25 [.int .i64 c.frame, .int .i64 c.epoch, .slice c.plans.a c.plans.l.length c.plans.c, .slice c.domains.a c.domains.l.length c.domains.c] (some 1) (fun b => .pointer (some ⟨b, 0, none⟩)) (fun _ _ => by kernel_rfl)) (fun b1 => ?_) : RT _ _ _ _ _ _ 2 _)
  refine (run0 (z := 0) 1 [1, 2] [(1, .pointer (some ⟨b1, 0, none⟩)), (2, .bool false)] (fun _ => by kernel_rfl) (endR ?_) : RT _ _ _ _ _ _ 1 _)
  refine seqR (by kernel_rfl) ?_
  refine regionR 15 (by kernel_rfl) (by kernel_rfl) ?_
  refine (runR (H := (blk b1 25 [.int .i64 c.frame, .int .i64 c.epoch, .slice c.plans.a c.plans.l.length c.plans.c, .slice c.domains.a c.domains.l.length c.domains.c] :: H)) (z := 13) 2 [1, 2, 7] [(1, .pointer (some ⟨b1, 0, none⟩)), (2, .bool false), (7, .int .i64 c.frame)] [(⟨b1, 0, none⟩, .int .i64 c.frame)] (hasC (blkAt (T := 25) (cs := [.int .i64 c.frame, .int .i64 c.epoch, .slice c.plans.a c.plans.l.length c.plans.c, .slice c.domains.a c.domains.l.length c.domains.c]) 0 rfl rfl) has0) (fun _ => by kernel_rfl) ?_ : RT _ _ _ _ _ _ 15 _)
  refine (stepR (z := 12) (callS 46 [.int .i64 c.frame, .int .i64 1, .int .i64 64] (some 8) (fun _ => .bool (inb c.frame 1 64)) (fun (_ : Unit) => (blk b1 25 [.int .i64 c.frame, .int .i64 c.epoch, .slice c.plans.a c.plans.l.length c.plans.c, .slice c.domains.a c.domains.l.length c.domains.c] :: H)) (fun _ => by kernel_rfl) (within_walk _ c.frame 1 64)) (fun _ => ?_) : RT _ _ _ _ _ _ 13 _)
  refine (run0 (z := 11) 1 [1, 2, 9] [(1, .pointer (some ⟨b1, 0, none⟩)), (2, .bool false), (9, .bool (inb c.frame 1 64))] (fun _ => by kernel_rfl) ?_ : RT _ _ _ _ _ _ 12 _)
  refine (segR (ι := Unit) (z := 7) 4 (fun _ => [(1, .pointer (some ⟨b1, 0, none⟩)), (2, .bool false), (13, .bool ((inb c.frame 1 64) && (inb c.epoch 1 8)))]) (fun _ => (blk b1 25 [.int .i64 c.frame, .int .i64 c.epoch, .slice c.plans.a c.plans.l.length c.plans.c, .slice c.domains.a c.domains.l.length c.domains.c] :: H)) ?_ (fun _ => ?_) : RT _ _ _ _ _ _ 11 _)
  · cases hg4 : (inb c.frame 1 64) with
    | true =>
      refine (runR (H := (blk b1 25 [.int .i64 c.frame, .int .i64 c.epoch, .slice c.plans.a c.plans.l.length c.plans.c, .slice c.domains.a c.domains.l.length c.domains.c] :: H)) (z := 2) 2 [1, 2, 9, 11] [(1, .pointer (some ⟨b1, 0, none⟩)), (2, .bool false), (9, .bool true), (11, .int .i64 c.epoch)] [(⟨b1, 1, none⟩, .int .i64 c.epoch)] (hasC (blkAt (T := 25) (cs := [.int .i64 c.frame, .int .i64 c.epoch, .slice c.plans.a c.plans.l.length c.plans.c, .slice c.domains.a c.domains.l.length c.domains.c]) 0 rfl rfl) has0) (fun _ => by kernel_rfl) ?_ : RT _ _ _ _ _ _ 4 _)
      refine (stepR (z := 1) (callS 46 [.int .i64 c.epoch, .int .i64 1, .int .i64 8] (some 12) (fun _ => .bool (inb c.epoch 1 8)) (fun (_ : Unit) => (blk b1 25 [.int .i64 c.frame, .int .i64 c.epoch, .slice c.plans.a c.plans.l.length c.plans.c, .slice c.domains.a c.domains.l.length c.domains.c] :: H)) (fun _ => by kernel_rfl) (within_walk _ c.epoch 1 8)) (fun _ => ?_) : RT _ _ _ _ _ _ 2 _)
      refine (run0 (z := 0) 1 [1, 2, 13] [(1, .pointer (some ⟨b1, 0, none⟩)), (2, .bool false), (13, .bool (inb c.epoch 1 8))] (fun _ => by kernel_rfl) (endR ?_) : RT _ _ _ _ _ _ 1 _)
      refine PT.keep (L' := [(1, .pointer (some ⟨b1, 0, none⟩)), (2, .bool false), (13, .bool (true && (inb c.epoch 1 8)))]) [1, 2, 13] rfl ?_
      exact midR () rfl rfl
    | false =>
      refine (run0 (z := 0) 4 [1, 2, 13] [(1, .pointer (some ⟨b1, 0, none⟩)), (2, .bool false), (13, .bool false)] (fun _ => by kernel_rfl) (endR ?_) : RT _ _ _ _ _ _ 4 _)
      refine PT.keep (L' := [(1, .pointer (some ⟨b1, 0, none⟩)), (2, .bool false), (13, .bool (false && (inb c.epoch 1 8)))]) [1, 2, 13] rfl ?_
      exact midR () rfl rfl
  refine (run0 (z := 6) 1 [1, 2, 14] [(1, .pointer (some ⟨b1, 0, none⟩)), (2, .bool false), (14, .bool ((inb c.frame 1 64) && (inb c.epoch 1 8)))] (fun _ => by kernel_rfl) ?_ : RT _ _ _ _ _ _ 7 _)
  refine (segR (ι := Unit) (z := 1) 5 (fun _ => [(1, .pointer (some ⟨b1, 0, none⟩)), (2, .bool false), (19, .bool (((inb c.frame 1 64) && (inb c.epoch 1 8)) && (inb (c.domains.l.length : Int) 1 6)))]) (fun _ => (blk b1 25 [.int .i64 c.frame, .int .i64 c.epoch, .slice c.plans.a c.plans.l.length c.plans.c, .slice c.domains.a c.domains.l.length c.domains.c] :: H)) ?_ (fun _ => ?_) : RT _ _ _ _ _ _ 6 _)
  · cases hg9 : ((inb c.frame 1 64) && (inb c.epoch 1 8)) with
    | true =>
      refine (runR (H := (blk b1 25 [.int .i64 c.frame, .int .i64 c.epoch, .slice c.plans.a c.plans.l.length c.plans.c, .slice c.domains.a c.domains.l.length c.domains.c] :: H)) (z := 2) 3 [1, 2, 14, 17] [(1, .pointer (some ⟨b1, 0, none⟩)), (2, .bool false), (14, .bool true), (17, .int .i64 (c.domains.l.length : Int))] [(⟨b1, 3, none⟩, .slice c.domains.a c.domains.l.length c.domains.c)] (hasC (blkAt (T := 25) (cs := [.int .i64 c.frame, .int .i64 c.epoch, .slice c.plans.a c.plans.l.length c.plans.c, .slice c.domains.a c.domains.l.length c.domains.c]) 0 rfl rfl) has0) (fun _ => by kernel_rfl) ?_ : RT _ _ _ _ _ _ 5 _)
      refine (stepR (z := 1) (callS 46 [.int .i64 (c.domains.l.length : Int), .int .i64 1, .int .i64 6] (some 18) (fun _ => .bool (inb (c.domains.l.length : Int) 1 6)) (fun (_ : Unit) => (blk b1 25 [.int .i64 c.frame, .int .i64 c.epoch, .slice c.plans.a c.plans.l.length c.plans.c, .slice c.domains.a c.domains.l.length c.domains.c] :: H)) (fun _ => by kernel_rfl) (within_walk _ (c.domains.l.length : Int) 1 6)) (fun _ => ?_) : RT _ _ _ _ _ _ 2 _)
      refine (run0 (z := 0) 1 [1, 2, 19] [(1, .pointer (some ⟨b1, 0, none⟩)), (2, .bool false), (19, .bool (inb (c.domains.l.length : Int) 1 6))] (fun _ => by kernel_rfl) (endR ?_) : RT _ _ _ _ _ _ 1 _)
      refine PT.keep (L' := [(1, .pointer (some ⟨b1, 0, none⟩)), (2, .bool false), (19, .bool (true && (inb (c.domains.l.length : Int) 1 6)))]) [1, 2, 19] rfl ?_
      exact midR () rfl rfl
    | false =>
      refine (run0 (z := 0) 5 [1, 2, 19] [(1, .pointer (some ⟨b1, 0, none⟩)), (2, .bool false), (19, .bool false)] (fun _ => by kernel_rfl) (endR ?_) : RT _ _ _ _ _ _ 5 _)
      refine PT.keep (L' := [(1, .pointer (some ⟨b1, 0, none⟩)), (2, .bool false), (19, .bool (false && (inb (c.domains.l.length : Int) 1 6)))]) [1, 2, 19] rfl ?_
      exact midR () rfl rfl
  refine (run0 (z := 0) 1 [1, 2, 3] [(1, .pointer (some ⟨b1, 0, none⟩)), (2, .bool false), (3, .bool (((inb c.frame 1 64) && (inb c.epoch 1 8)) && (inb (c.domains.l.length : Int) 1 6)))] (fun _ => by kernel_rfl) (endR ?_) : RT _ _ _ _ _ _ 1 _)
  refine seqR (by kernel_rfl) ?_
  refine seqR (by kernel_rfl) ?_
  refine regionR 4 (by kernel_rfl) (by kernel_rfl) ?_
  refine (runR (H := (blk b1 25 [.int .i64 c.frame, .int .i64 c.epoch, .slice c.plans.a c.plans.l.length c.plans.c, .slice c.domains.a c.domains.l.length c.domains.c] :: H)) (z := 0) 4 [2, 3, 21, 22, 23] [(2, .bool false), (3, .bool (((inb c.frame 1 64) && (inb c.epoch 1 8)) && (inb (c.domains.l.length : Int) 1 6))), (21, .slice c.domains.a c.domains.l.length c.domains.c), (22, .int .i64 (c.domains.l.length : Int)), (23, .int .i64 0)] [(⟨b1, 3, none⟩, .slice c.domains.a c.domains.l.length c.domains.c)] (hasC (blkAt (T := 25) (cs := [.int .i64 c.frame, .int .i64 c.epoch, .slice c.plans.a c.plans.l.length c.plans.c, .slice c.domains.a c.domains.l.length c.domains.c]) 0 rfl rfl) has0) (fun _ => by kernel_rfl) (endR ?_) : RT _ _ _ _ _ _ 4 _)
  refine blockR 0 (by kernel_rfl) (by kernel_rfl) ?_
  refine PT.keep (L' := [(3, .bool (((inb c.frame 1 64) && (inb c.epoch 1 8)) && (inb (c.domains.l.length : Int) 1 6))), (21, .slice c.domains.a c.domains.l.length c.domains.c), (22, .int .i64 (c.domains.l.length : Int)), (23, .int .i64 0)]) [3, 21, 22, 23] rfl ?_
  refine loopG (fun (i : Nat) => [(3, .bool (formF c (c.domains.l.take i))), (21, .slice c.domains.a c.domains.l.length c.domains.c), (22, .int .i64 (c.domains.l.length : Int)), (23, .int .i64 (i : Int))]) (fun (i : Nat) => (blk b1 25 [.int .i64 c.frame, .int .i64 c.epoch, .slice c.plans.a c.plans.l.length c.plans.c, .slice c.domains.a c.domains.l.length c.domains.c] :: H)) (fun k (i : Nat) => k + i = c.domains.l.length) c.domains.l.length 0 (by kernel_rfl) (by omega) ?_
  rintro k i hki
  have hw : IntKind.i64.wrap ((i : Int) + 1) = ((i + 1 : Nat) : Int) := by rw [IntKind.wrap_i64]; omega
  obtain ⟨ok, hok⟩ : ∃ ok, ok = formF c (c.domains.l.take i) := ⟨_, rfl⟩
  rw [← hok]
  refine seqR (by kernel_rfl) ?_
  refine regionR 1 (by kernel_rfl) (by kernel_rfl) ?_
  refine (run0 (z := 0) 1 [3, 21, 22, 23, 24] [(3, .bool ok), (21, .slice c.domains.a c.domains.l.length c.domains.c), (22, .int .i64 (c.domains.l.length : Int)), (23, .int .i64 (i : Int)), (24, .bool (decide ((i : Int) < (c.domains.l.length : Int))))] (fun _ => by kernel_rfl) (endR ?_) : RT _ _ _ _ _ _ 1 _)
  refine seqR (by kernel_rfl) ?_
  refine condR (b := decide ((i : Int) < (c.domains.l.length : Int))) (by kernel_rfl) (fun _ => by kernel_rfl) (fun h => ?_) (fun h => ?_)
  · skip
    have hi : i < c.domains.l.length := by have := of_decide_eq_true h; omega
    obtain ⟨d, hd⟩ : ∃ d, c.domains.l[i]? = some d := ⟨_, by simp [hi]; rfl⟩
    refine PT.know (hk.domains.up.isSome (by intro h0; rw [h0] at hi; simp at hi)) ?_
    rintro ⟨sb, so, hA⟩
    rw [hA]
    refine skipR (by kernel_rfl) ?_
    refine seqR (by kernel_rfl) ?_
    refine blockR 1 (by kernel_rfl) (by kernel_rfl) ?_
    refine seqR (by kernel_rfl) ?_
    refine regionR 4 (by kernel_rfl) (by kernel_rfl) ?_
    refine (stepR (z := 3) (yldS (idxY 23 (.tmp 21) (.tmp 23) sb so c.domains.l.length c.domains.c i 10 46 (i : Int) .i64 (some 25) (fun _ => by kernel_rfl) (by kernel_rfl) (by kernel_rfl) (fun _ => by kernel_rfl) (fun _ => by kernel_rfl) Try.underlying23 (by kernel_rfl) (by first | rfl | assumption | simp) (by first | omega | (simp; done) | (simp; omega) | (simp at *; omega)))) (fun _ => ?_) : RT _ _ _ _ _ _ 4 _)
    refine (runR (H := (blk b1 25 [.int .i64 c.frame, .int .i64 c.epoch, .slice c.plans.a c.plans.l.length c.plans.c, .slice (some ⟨sb, so, none⟩) c.domains.l.length c.domains.c] :: H)) (z := 2) 1 [3, 21, 22, 23, 26] [(3, .bool ok), (21, .slice (some ⟨sb, so, none⟩) c.domains.l.length c.domains.c), (22, .int .i64 (c.domains.l.length : Int)), (23, .int .i64 (i : Int)), (26, .agg #[.int .i64 d.lab.level, .int .u64 d.lab.cats, .slice d.routes.a d.routes.l.length d.routes.c, .slice d.release.a d.release.l.length d.release.c, .int .i64 d.to, .int .i64 d.threads, .int .i64 d.groups, .int .i64 d.ring, .int .i64 d.sends, .int .i64 d.box])] [(⟨sb, so + i * 10, none⟩, .int .i64 d.lab.level), (⟨sb, so + i * 10 + 1, none⟩, .int .u64 d.lab.cats), (⟨sb, so + i * 10 + 2, none⟩, .slice d.routes.a d.routes.l.length d.routes.c), (⟨sb, so + i * 10 + 3, none⟩, .slice d.release.a d.release.l.length d.release.c), (⟨sb, so + i * 10 + 4, none⟩, .int .i64 d.to), (⟨sb, so + i * 10 + 5, none⟩, .int .i64 d.threads), (⟨sb, so + i * 10 + 6, none⟩, .int .i64 d.groups), (⟨sb, so + i * 10 + 7, none⟩, .int .i64 d.ring), (⟨sb, so + i * 10 + 8, none⟩, .int .i64 d.sends), (⟨sb, so + i * 10 + 9, none⟩, .int .i64 d.box)] (hasC (up (hk.domains.cell hA (i := i) (x := d) hd (j := 0) rfl)) (hasC (up (hk.domains.cell hA (i := i) (x := d) hd (j := 1) rfl)) (hasC (up (hk.domains.cell hA (i := i) (x := d) hd (j := 2) rfl)) (hasC (up (hk.domains.cell hA (i := i) (x := d) hd (j := 3) rfl)) (hasC (up (hk.domains.cell hA (i := i) (x := d) hd (j := 4) rfl)) (hasC (up (hk.domains.cell hA (i := i) (x := d) hd (j := 5) rfl)) (hasC (up (hk.domains.cell hA (i := i) (x := d) hd (j := 6) rfl)) (hasC (up (hk.domains.cell hA (i := i) (x := d) hd (j := 7) rfl)) (hasC (up (hk.domains.cell hA (i := i) (x := d) hd (j := 8) rfl)) (hasC (up (hk.domains.cell hA (i := i) (x := d) hd (j := 9) rfl)) has0)))))))))) (fun _ => by kernel_rfl) ?_ : RT _ _ _ _ _ _ 3 _)
    refine (stepR (z := 1) (newS 46 [.int .i64 0, .int .u64 0, .slice none 0 0, .slice none 0 0, .int .i64 0, .int .i64 0, .int .i64 0, .int .i64 0, .int .i64 0, .int .i64 0] (some 5) (fun b => .pointer (some ⟨b, 0, none⟩)) (fun _ _ => by kernel_rfl)) (fun b2 => ?_) : RT _ _ _ _ _ _ 2 _)
    refine (stepR (z := 0) (storeS [(0, .int .i64 d.lab.level), (1, .int .u64 d.lab.cats), (2, .slice d.routes.a d.routes.l.length d.routes.c), (3, .slice d.release.a d.release.l.length d.release.c), (4, .int .i64 d.to), (5, .int .i64 d.threads), (6, .int .i64 d.groups), (7, .int .i64 d.ring), (8, .int .i64 d.sends), (9, .int .i64 d.box)] [.int .i64 d.lab.level, .int .u64 d.lab.cats, .slice d.routes.a d.routes.l.length d.routes.c, .slice d.release.a d.release.l.length d.release.c, .int .i64 d.to, .int .i64 d.threads, .int .i64 d.groups, .int .i64 d.ring, .int .i64 d.sends, .int .i64 d.box] (fun _ => by kernel_rfl) (by kernel_rfl) (by kernel_rfl)) (fun _ => ?_) : RT _ _ _ _ _ _ 1 _)
    refine endR ?_
    refine regionR 7 (by kernel_rfl) (by kernel_rfl) ?_
    refine (run0 (z := 5) 2 [5, 3, 21, 22, 23, 28] [(5, .pointer (some ⟨b2, 0, none⟩)), (3, .bool ok), (21, .slice (some ⟨sb, so, none⟩) c.domains.l.length c.domains.c), (22, .int .i64 (c.domains.l.length : Int)), (23, .int .i64 (i : Int)), (28, .bool ok)] (fun _ => by kernel_rfl) ?_ : RT _ _ _ _ _ _ 7 _)
    refine (segR (ι := Unit) (z := 1) 4 (fun _ => [(3, .bool ok), (21, .slice (some ⟨sb, so, none⟩) c.domains.l.length c.domains.c), (22, .int .i64 (c.domains.l.length : Int)), (23, .int .i64 (i : Int)), (32, .bool (ok && (labIs d.lab)))]) (fun _ => (blk b2 46 [.int .i64 d.lab.level, .int .u64 d.lab.cats, .slice d.routes.a d.routes.l.length d.routes.c, .slice d.release.a d.release.l.length d.release.c, .int .i64 d.to, .int .i64 d.threads, .int .i64 d.groups, .int .i64 d.ring, .int .i64 d.sends, .int .i64 d.box] :: blk b1 25 [.int .i64 c.frame, .int .i64 c.epoch, .slice c.plans.a c.plans.l.length c.plans.c, .slice (some ⟨sb, so, none⟩) c.domains.l.length c.domains.c] :: H)) ?_ (fun _ => ?_) : RT _ _ _ _ _ _ 5 _)
    · cases hg2 : (ok) with
      | true =>
        refine (runR (H := (blk b2 46 [.int .i64 d.lab.level, .int .u64 d.lab.cats, .slice d.routes.a d.routes.l.length d.routes.c, .slice d.release.a d.release.l.length d.release.c, .int .i64 d.to, .int .i64 d.threads, .int .i64 d.groups, .int .i64 d.ring, .int .i64 d.sends, .int .i64 d.box] :: blk b1 25 [.int .i64 c.frame, .int .i64 c.epoch, .slice c.plans.a c.plans.l.length c.plans.c, .slice (some ⟨sb, so, none⟩) c.domains.l.length c.domains.c] :: H)) (z := 2) 2 [3, 21, 22, 23, 28, 30] [(3, .bool true), (21, .slice (some ⟨sb, so, none⟩) c.domains.l.length c.domains.c), (22, .int .i64 (c.domains.l.length : Int)), (23, .int .i64 (i : Int)), (28, .bool true), (30, .agg #[.int .i64 d.lab.level, .int .u64 d.lab.cats])] [(⟨b2, 0, none⟩, .int .i64 d.lab.level), (⟨b2, 1, none⟩, .int .u64 d.lab.cats)] (hasC (blkAt (T := 46) (cs := [.int .i64 d.lab.level, .int .u64 d.lab.cats, .slice d.routes.a d.routes.l.length d.routes.c, .slice d.release.a d.release.l.length d.release.c, .int .i64 d.to, .int .i64 d.threads, .int .i64 d.groups, .int .i64 d.ring, .int .i64 d.sends, .int .i64 d.box]) 0 rfl rfl) (hasC (blkAt (T := 46) (cs := [.int .i64 d.lab.level, .int .u64 d.lab.cats, .slice d.routes.a d.routes.l.length d.routes.c, .slice d.release.a d.release.l.length d.release.c, .int .i64 d.to, .int .i64 d.threads, .int .i64 d.groups, .int .i64 d.ring, .int .i64 d.sends, .int .i64 d.box]) 0 rfl rfl) has0)) (fun _ => by kernel_rfl) ?_ : RT _ _ _ _ _ _ 4 _)
        refine (stepR (z := 1) (callS 47 [.agg #[.int .i64 d.lab.level, .int .u64 d.lab.cats]] (some 31) (fun _ => .bool (labIs d.lab)) (fun (_ : Unit) => (blk b2 46 [.int .i64 d.lab.level, .int .u64 d.lab.cats, .slice d.routes.a d.routes.l.length d.routes.c, .slice d.release.a d.release.l.length d.release.c, .int .i64 d.to, .int .i64 d.threads, .int .i64 d.groups, .int .i64 d.ring, .int .i64 d.sends, .int .i64 d.box] :: blk b1 25 [.int .i64 c.frame, .int .i64 c.epoch, .slice c.plans.a c.plans.l.length c.plans.c, .slice (some ⟨sb, so, none⟩) c.domains.l.length c.domains.c] :: H)) (fun _ => by kernel_rfl) (labIs_walk _ d.lab)) (fun _ => ?_) : RT _ _ _ _ _ _ 2 _)
        refine (run0 (z := 0) 1 [3, 21, 22, 23, 32] [(3, .bool true), (21, .slice (some ⟨sb, so, none⟩) c.domains.l.length c.domains.c), (22, .int .i64 (c.domains.l.length : Int)), (23, .int .i64 (i : Int)), (32, .bool (labIs d.lab))] (fun _ => by kernel_rfl) (endR ?_) : RT _ _ _ _ _ _ 1 _)
        refine PT.keep (L' := [(3, .bool true), (21, .slice (some ⟨sb, so, none⟩) c.domains.l.length c.domains.c), (22, .int .i64 (c.domains.l.length : Int)), (23, .int .i64 (i : Int)), (32, .bool (true && (labIs d.lab)))]) [3, 21, 22, 23, 32] rfl ?_
        exact midR () rfl rfl
      | false =>
        refine (run0 (z := 0) 4 [3, 21, 22, 23, 32] [(3, .bool false), (21, .slice (some ⟨sb, so, none⟩) c.domains.l.length c.domains.c), (22, .int .i64 (c.domains.l.length : Int)), (23, .int .i64 (i : Int)), (32, .bool false)] (fun _ => by kernel_rfl) (endR ?_) : RT _ _ _ _ _ _ 4 _)
        refine PT.keep (L' := [(3, .bool false), (21, .slice (some ⟨sb, so, none⟩) c.domains.l.length c.domains.c), (22, .int .i64 (c.domains.l.length : Int)), (23, .int .i64 (i : Int)), (32, .bool (false && (labIs d.lab)))]) [3, 21, 22, 23, 32] rfl ?_
        exact midR () rfl rfl
    refine (run0 (z := 0) 1 [3, 21, 22, 23] [(3, .bool (ok && (labIs d.lab))), (21, .slice (some ⟨sb, so, none⟩) c.domains.l.length c.domains.c), (22, .int .i64 (c.domains.l.length : Int)), (23, .int .i64 (i : Int))] (fun _ => by kernel_rfl) (endR ?_) : RT _ _ _ _ _ _ 1 _)
    refine regionR 2 (by kernel_rfl) (by kernel_rfl) ?_
    refine (run0 (z := 0) 2 [3, 21, 22, 23] [(3, .bool (ok && (labIs d.lab))), (21, .slice (some ⟨sb, so, none⟩) c.domains.l.length c.domains.c), (22, .int .i64 (c.domains.l.length : Int)), (23, .int .i64 (IntKind.i64.wrap ((i : Int) + 1)))] (fun _ => by kernel_rfl) (endR ?_) : RT _ _ _ _ _ _ 2 _)
    have ht : (ok && labIs d.lab) = formF c (c.domains.l.take (i + 1)) := by rw [List.take_add_one, hd, hok]; unfold formF; simp
    have ha : some (⟨sb, so, none⟩ : Addr) = c.domains.a := hA.symm
    refine PT.drop ?_
    refine PT.keep (L' := [(3, .bool (ok && (labIs d.lab))), (21, .slice (some ⟨sb, so, none⟩) c.domains.l.length c.domains.c), (22, .int .i64 (c.domains.l.length : Int)), (23, .int .i64 (IntKind.i64.wrap ((i : Int) + 1)))]) [3, 21, 22, 23] rfl ?_
    exact againG (k - 1) (i + 1) (by rw [hw, ht, ha]) (by rw [ha]) (by omega) (by omega)
  · skip
    have hi : i = c.domains.l.length := by have := of_decide_eq_false h; omega
    refine exitR 0 (by kernel_rfl) (by kernel_rfl) ?_
    refine thenX ?_
    refine thenX ?_
    refine leaveR ?_
    refine seqR (by kernel_rfl) ?_
    refine regionR 2 (by kernel_rfl) (by kernel_rfl) ?_
    refine (run0 (z := 0) 2 [2] [(2, .bool ok)] (fun _ => by kernel_rfl) (endR ?_) : RT _ _ _ _ _ _ 2 _)
    refine retR (by kernel_rfl) ?_
    rw [hi, List.take_length] at hok
    refine done0 (.bool ok) (fun _ => by kernel_rfl) (fun w hs => ?_) .ret (.inr rfl)
    rw [hok]; exact ⟨(), rfl, hs.tail⟩
end Go.Proofs.Ytjjbnmlhbbnhcaa
