/- tontineref1.IsConf, Ticks: their walks; what they say is what conf says. Conditions: none. -/
import Derived.Test.YtjjbnmlhbbnhcaaRf3
import Derived.Test.YtjjbnmlhbbnhcaaCf6
set_option linter.unusedVariables false
set_option linter.unusedSimpArgs false
namespace Go.Proofs.Ytjjbnmlhbbnhcaa
open Go.RowKit G
def rformBad (c : ConfV) : Bool := (((!inb c.frame 1 64) || (!inb c.epoch 1 8)) || (!inb c.domains.l.length 1 6))
def rquotasBad (d : DomV) : Bool := (((((!inb d.threads 1 8) || (!inb d.groups 0 4)) || (!inb d.ring 1 16)) || (!inb d.sends 0 8)) || (!inb d.box 1 8))
def rroutesAt (c : ConfV) (i : Nat) : Bool := match c.domains.l[i]? with | some d => rroutesOk c i d | none => true
def rErr (c : ConfV) : Int := if rformBad c = true then 10 else if (c.domains.l.all fun d => labIs d.lab) = false then 10 else if rsharesOk c = false then 18 else
  if (c.domains.l.all fun d => !rquotasBad d) = false then 19 else if ((List.range c.domains.l.length).all (rroutesAt c)) = false then 17 else 0
set_option maxHeartbeats 1000000 in
set_option maxRecDepth 100000 in
theorem risConf_walk (H : List SP) (c : ConfV) (hk : KC H c) (hsm : SmallC c) : ∀ w, Sat w H → Calls Try.prog 18 #[.agg #[.int .i64 c.frame, .int .i64 c.epoch, .slice c.plans.a c.plans.l.length c.plans.c, .slice c.domains.a c.domains.l.length c.domains.c]] w (Ret (ι := Unit) (fun _ => .int .i64 (rErr c)) fun _ => H) := by
  have hnd := hsm.doms
  refine enterG (fn := Try.f18) 89 [.agg #[.int .i64 c.frame, .int .i64 c.epoch, .slice c.plans.a c.plans.l.length c.plans.c, .slice c.domains.a c.domains.l.length c.domains.c]] Try.func18 (by kernel_rfl) (by kernel_rfl) (by kernel_rfl) ?_
  refine seqR (by kernel_rfl) ?_
  refine regionR 2 (by kernel_rfl) (by kernel_rfl) ?_
  refine (stepR (z := 1) (newS 25 [.int .i64 c.frame, .int .i64 c.epoch, .slice c.plans.a c.plans.l.length c.plans.c, .slice c.domains.a c.domains.l.length c.domains.c] (some 1) (fun b => .pointer (some ⟨b, 0, none⟩)) (fun _ _ => by kernel_rfl)) (fun b1 => ?_) : RT _ _ _ _ _ _ 2 _)
  refine (run0 (z := 0) 1 [1, 2] [(1, .pointer (some ⟨b1, 0, none⟩)), (2, .int .i64 0)] (fun _ => by kernel_rfl) (endR ?_) : RT _ _ _ _ _ _ 1 _)
  refine seqR (by kernel_rfl) ?_
  refine regionR 4 (by kernel_rfl) (by kernel_rfl) ?_
  refine (runR (H := (blk b1 25 [.int .i64 c.frame, .int .i64 c.epoch, .slice c.plans.a c.plans.l.length c.plans.c, .slice c.domains.a c.domains.l.length c.domains.c] :: H)) (z := 0) 4 [1, 2, 3] [(1, .pointer (some ⟨b1, 0, none⟩)), (2, .int .i64 0), (3, .int .i64 (c.domains.l.length : Int))] [(⟨b1, 3, none⟩, .slice c.domains.a c.domains.l.length c.domains.c)] (hasC (blkAt (T := 25) (cs := [.int .i64 c.frame, .int .i64 c.epoch, .slice c.plans.a c.plans.l.length c.plans.c, .slice c.domains.a c.domains.l.length c.domains.c]) 0 rfl rfl) has0) (fun _ => by kernel_rfl) (endR ?_) : RT _ _ _ _ _ _ 4 _)
  refine seqR (by kernel_rfl) ?_
  refine seqR (by kernel_rfl) ?_
  refine regionR 15 (by kernel_rfl) (by kernel_rfl) ?_
  refine (runR (H := (blk b1 25 [.int .i64 c.frame, .int .i64 c.epoch, .slice c.plans.a c.plans.l.length c.plans.c, .slice c.domains.a c.domains.l.length c.domains.c] :: H)) (z := 13) 2 [1, 2, 3, 12] [(1, .pointer (some ⟨b1, 0, none⟩)), (2, .int .i64 0), (3, .int .i64 (c.domains.l.length : Int)), (12, .int .i64 c.frame)] [(⟨b1, 0, none⟩, .int .i64 c.frame)] (hasC (blkAt (T := 25) (cs := [.int .i64 c.frame, .int .i64 c.epoch, .slice c.plans.a c.plans.l.length c.plans.c, .slice c.domains.a c.domains.l.length c.domains.c]) 0 rfl rfl) has0) (fun _ => by kernel_rfl) ?_ : RT _ _ _ _ _ _ 15 _)
  refine (stepR (z := 12) (callS 27 [.int .i64 c.frame, .int .i64 1, .int .i64 64] (some 13) (fun _ => .bool (inb c.frame 1 64)) (fun (_ : Unit) => (blk b1 25 [.int .i64 c.frame, .int .i64 c.epoch, .slice c.plans.a c.plans.l.length c.plans.c, .slice c.domains.a c.domains.l.length c.domains.c] :: H)) (fun _ => by kernel_rfl) (rwithin_walk _ c.frame 1 64)) (fun _ => ?_) : RT _ _ _ _ _ _ 13 _)
  refine (run0 (z := 10) 2 [1, 2, 3, 15] [(1, .pointer (some ⟨b1, 0, none⟩)), (2, .int .i64 0), (3, .int .i64 (c.domains.l.length : Int)), (15, .bool (!(inb c.frame 1 64)))] (fun _ => by kernel_rfl) ?_ : RT _ _ _ _ _ _ 12 _)
  refine (segR (ι := Unit) (z := 5) 5 (fun _ => [(1, .pointer (some ⟨b1, 0, none⟩)), (2, .int .i64 0), (3, .int .i64 (c.domains.l.length : Int)), (20, .bool ((!(inb c.frame 1 64)) || (!(inb c.epoch 1 8))))]) (fun _ => (blk b1 25 [.int .i64 c.frame, .int .i64 c.epoch, .slice c.plans.a c.plans.l.length c.plans.c, .slice c.domains.a c.domains.l.length c.domains.c] :: H)) ?_ (fun _ => ?_) : RT _ _ _ _ _ _ 10 _)
  · cases hg5 : (!(inb c.frame 1 64)) with
    | true =>
      refine (run0 (z := 0) 5 [1, 2, 3, 20] [(1, .pointer (some ⟨b1, 0, none⟩)), (2, .int .i64 0), (3, .int .i64 (c.domains.l.length : Int)), (20, .bool true)] (fun _ => by kernel_rfl) (endR ?_) : RT _ _ _ _ _ _ 5 _)
      refine PT.keep (L' := [(1, .pointer (some ⟨b1, 0, none⟩)), (2, .int .i64 0), (3, .int .i64 (c.domains.l.length : Int)), (20, .bool (true || (!(inb c.epoch 1 8))))]) [1, 2, 3, 20] rfl ?_
      exact midR () rfl rfl
    | false =>
      refine (runR (H := (blk b1 25 [.int .i64 c.frame, .int .i64 c.epoch, .slice c.plans.a c.plans.l.length c.plans.c, .slice c.domains.a c.domains.l.length c.domains.c] :: H)) (z := 3) 2 [1, 2, 3, 15, 17] [(1, .pointer (some ⟨b1, 0, none⟩)), (2, .int .i64 0), (3, .int .i64 (c.domains.l.length : Int)), (15, .bool false), (17, .int .i64 c.epoch)] [(⟨b1, 1, none⟩, .int .i64 c.epoch)] (hasC (blkAt (T := 25) (cs := [.int .i64 c.frame, .int .i64 c.epoch, .slice c.plans.a c.plans.l.length c.plans.c, .slice c.domains.a c.domains.l.length c.domains.c]) 0 rfl rfl) has0) (fun _ => by kernel_rfl) ?_ : RT _ _ _ _ _ _ 5 _)
      refine (stepR (z := 2) (callS 27 [.int .i64 c.epoch, .int .i64 1, .int .i64 8] (some 18) (fun _ => .bool (inb c.epoch 1 8)) (fun (_ : Unit) => (blk b1 25 [.int .i64 c.frame, .int .i64 c.epoch, .slice c.plans.a c.plans.l.length c.plans.c, .slice c.domains.a c.domains.l.length c.domains.c] :: H)) (fun _ => by kernel_rfl) (rwithin_walk _ c.epoch 1 8)) (fun _ => ?_) : RT _ _ _ _ _ _ 3 _)
      refine (run0 (z := 0) 2 [1, 2, 3, 20] [(1, .pointer (some ⟨b1, 0, none⟩)), (2, .int .i64 0), (3, .int .i64 (c.domains.l.length : Int)), (20, .bool (!(inb c.epoch 1 8)))] (fun _ => by kernel_rfl) (endR ?_) : RT _ _ _ _ _ _ 2 _)
      refine PT.keep (L' := [(1, .pointer (some ⟨b1, 0, none⟩)), (2, .int .i64 0), (3, .int .i64 (c.domains.l.length : Int)), (20, .bool (false || (!(inb c.epoch 1 8))))]) [1, 2, 3, 20] rfl ?_
      exact midR () rfl rfl
  refine (run0 (z := 4) 1 [1, 2, 3, 21] [(1, .pointer (some ⟨b1, 0, none⟩)), (2, .int .i64 0), (3, .int .i64 (c.domains.l.length : Int)), (21, .bool ((!(inb c.frame 1 64)) || (!(inb c.epoch 1 8))))] (fun _ => by kernel_rfl) ?_ : RT _ _ _ _ _ _ 5 _)
  refine (segR (ι := Unit) (z := 0) 4 (fun _ => [(1, .pointer (some ⟨b1, 0, none⟩)), (2, .int .i64 0), (3, .int .i64 (c.domains.l.length : Int)), (25, .bool (((!(inb c.frame 1 64)) || (!(inb c.epoch 1 8))) || (!(inb (c.domains.l.length : Int) 1 6))))]) (fun _ => (blk b1 25 [.int .i64 c.frame, .int .i64 c.epoch, .slice c.plans.a c.plans.l.length c.plans.c, .slice c.domains.a c.domains.l.length c.domains.c] :: H)) ?_ (fun _ => ?_) : RT _ _ _ _ _ _ 4 _)
  · cases hg11 : ((!(inb c.frame 1 64)) || (!(inb c.epoch 1 8))) with
    | true =>
      refine (run0 (z := 0) 4 [1, 2, 3, 25] [(1, .pointer (some ⟨b1, 0, none⟩)), (2, .int .i64 0), (3, .int .i64 (c.domains.l.length : Int)), (25, .bool true)] (fun _ => by kernel_rfl) (endR ?_) : RT _ _ _ _ _ _ 4 _)
      refine PT.keep (L' := [(1, .pointer (some ⟨b1, 0, none⟩)), (2, .int .i64 0), (3, .int .i64 (c.domains.l.length : Int)), (25, .bool (true || (!(inb (c.domains.l.length : Int) 1 6))))]) [1, 2, 3, 25] rfl ?_
      exact midR () rfl rfl
    | false =>
      refine (run0 (z := 3) 1 [1, 2, 3, 21, 22] [(1, .pointer (some ⟨b1, 0, none⟩)), (2, .int .i64 0), (3, .int .i64 (c.domains.l.length : Int)), (21, .bool false), (22, .int .i64 (c.domains.l.length : Int))] (fun _ => by kernel_rfl) ?_ : RT _ _ _ _ _ _ 4 _)
      refine (stepR (z := 2) (callS 27 [.int .i64 (c.domains.l.length : Int), .int .i64 1, .int .i64 6] (some 23) (fun _ => .bool (inb (c.domains.l.length : Int) 1 6)) (fun (_ : Unit) => (blk b1 25 [.int .i64 c.frame, .int .i64 c.epoch, .slice c.plans.a c.plans.l.length c.plans.c, .slice c.domains.a c.domains.l.length c.domains.c] :: H)) (fun _ => by kernel_rfl) (rwithin_walk _ (c.domains.l.length : Int) 1 6)) (fun _ => ?_) : RT _ _ _ _ _ _ 3 _)
      refine (run0 (z := 0) 2 [1, 2, 3, 25] [(1, .pointer (some ⟨b1, 0, none⟩)), (2, .int .i64 0), (3, .int .i64 (c.domains.l.length : Int)), (25, .bool (!(inb (c.domains.l.length : Int) 1 6)))] (fun _ => by kernel_rfl) (endR ?_) : RT _ _ _ _ _ _ 2 _)
      refine PT.keep (L' := [(1, .pointer (some ⟨b1, 0, none⟩)), (2, .int .i64 0), (3, .int .i64 (c.domains.l.length : Int)), (25, .bool (false || (!(inb (c.domains.l.length : Int) 1 6))))]) [1, 2, 3, 25] rfl ?_
      exact midR () rfl rfl
  refine endR ?_
  refine condR (b := ((!(inb c.frame 1 64)) || (!(inb c.epoch 1 8))) || (!(inb (c.domains.l.length : Int) 1 6))) (by kernel_rfl) (fun _ => by kernel_rfl) (fun hb => ?_) (fun hb => ?_)
  · skip
    refine seqR (by kernel_rfl) ?_
    refine regionR 1 (by kernel_rfl) (by kernel_rfl) ?_
    refine (run0 (z := 0) 1 [1, 2, 3] [(1, .pointer (some ⟨b1, 0, none⟩)), (2, .int .i64 10), (3, .int .i64 (c.domains.l.length : Int))] (fun _ => by kernel_rfl) (endR ?_) : RT _ _ _ _ _ _ 1 _)
    refine retR (by kernel_rfl) ?_
    refine thenV ?_
    refine done0 (.int .i64 10) (fun _ => by kernel_rfl) (fun w hs => ?_) .ret (.inr rfl)
    exact ⟨(), by rw [rErr, if_pos (show rformBad c = true from hb)], hs.tail⟩
  · skip
    have hb1 : ¬ rformBad c = true := by rw [show rformBad c = false from hb]; simp
    refine skipR (by kernel_rfl) ?_
    refine seqR (by kernel_rfl) ?_
    refine seqR (by kernel_rfl) ?_
    refine regionR 1 (by kernel_rfl) (by kernel_rfl) ?_
    refine (run0 (z := 0) 1 [1, 2, 3, 4] [(1, .pointer (some ⟨b1, 0, none⟩)), (2, .int .i64 0), (3, .int .i64 (c.domains.l.length : Int)), (4, .int .i64 0)] (fun _ => by kernel_rfl) (endR ?_) : RT _ _ _ _ _ _ 1 _)
    refine blockR 0 (by kernel_rfl) (by kernel_rfl) ?_
    refine PT.keep (L' := [(1, .pointer (some ⟨b1, 0, none⟩)), (2, .int .i64 0), (3, .int .i64 (c.domains.l.length : Int)), (4, .int .i64 0)]) [1, 2, 3, 4] rfl ?_
    refine loopG (fun (i : Nat) => [(1, .pointer (some ⟨b1, 0, none⟩)), (2, .int .i64 0), (3, .int .i64 (c.domains.l.length : Int)), (4, .int .i64 (i : Int))]) (fun (i : Nat) => (blk b1 25 [.int .i64 c.frame, .int .i64 c.epoch, .slice c.plans.a c.plans.l.length c.plans.c, .slice c.domains.a c.domains.l.length c.domains.c] :: H)) (fun k (i : Nat) => k + i = c.domains.l.length ∧ ((c.domains.l.take i).all fun d => labIs d.lab) = true) c.domains.l.length 0 (by kernel_rfl) ⟨by omega, rfl⟩ ?_
    rintro k i ⟨hki, hall⟩
    have hw : IntKind.i64.wrap ((i : Int) + 1) = ((i + 1 : Nat) : Int) := by rw [IntKind.wrap_i64]; omega
    refine seqR (by kernel_rfl) ?_
    refine seqR (by kernel_rfl) ?_
    refine regionR 3 (by kernel_rfl) (by kernel_rfl) ?_
    refine (run0 (z := 0) 3 [1, 2, 3, 4, 28] [(1, .pointer (some ⟨b1, 0, none⟩)), (2, .int .i64 0), (3, .int .i64 (c.domains.l.length : Int)), (4, .int .i64 (i : Int)), (28, .bool (decide ((i : Int) < (c.domains.l.length : Int))))] (fun _ => by kernel_rfl) (endR ?_) : RT _ _ _ _ _ _ 3 _)
    refine condR (b := decide ((i : Int) < (c.domains.l.length : Int))) (by kernel_rfl) (fun _ => by kernel_rfl) (fun h => ?_) (fun h => ?_)
    · skip
      have hi : i < c.domains.l.length := by have := of_decide_eq_true h; omega
      obtain ⟨d, hd⟩ : ∃ d, c.domains.l[i]? = some d := ⟨_, by simp [hi]; rfl⟩
      have hdm : d ∈ c.domains.l := List.mem_of_getElem? hd
      have ht : (c.domains.l.take (i + 1)) = c.domains.l.take i ++ [d] := by rw [List.take_add_one, hd]; rfl
      refine PT.know ((hk.domains).up.isSome (List.ne_nil_of_length_pos (by omega))) ?_
      rintro ⟨db, dd, hB⟩
      try rw [hB]
      refine skipR (by kernel_rfl) ?_
      refine seqR (by kernel_rfl) ?_
      refine blockR 1 (by kernel_rfl) (by kernel_rfl) ?_
      refine seqR (by kernel_rfl) ?_
      refine regionR 8 (by kernel_rfl) (by kernel_rfl) ?_
      refine (runR (H := (blk b1 25 [.int .i64 c.frame, .int .i64 c.epoch, .slice c.plans.a c.plans.l.length c.plans.c, .slice (some ⟨db, dd, none⟩) c.domains.l.length c.domains.c] :: H)) (z := 5) 3 [1, 2, 3, 4, 32, 33] [(1, .pointer (some ⟨b1, 0, none⟩)), (2, .int .i64 0), (3, .int .i64 (c.domains.l.length : Int)), (4, .int .i64 (i : Int)), (32, .slice (some ⟨db, dd, none⟩) c.domains.l.length c.domains.c), (33, .int .i64 (i : Int))] [(⟨b1, 3, none⟩, .slice (some ⟨db, dd, none⟩) c.domains.l.length c.domains.c)] (hasC (blkAt (T := 25) (cs := [.int .i64 c.frame, .int .i64 c.epoch, .slice c.plans.a c.plans.l.length c.plans.c, .slice (some ⟨db, dd, none⟩) c.domains.l.length c.domains.c]) 0 rfl rfl) has0) (fun _ => by kernel_rfl) ?_ : RT _ _ _ _ _ _ 8 _)
      refine (stepR (z := 4) (yldS (idxY 23 (.tmp 32) (.tmp 33) db dd c.domains.l.length c.domains.c i 10 46 (i : Int) .i64 (some 34) (fun _ => by kernel_rfl) (by kernel_rfl) (by kernel_rfl) (fun _ => by kernel_rfl) (fun _ => by kernel_rfl) Try.underlying23 (by kernel_rfl) (by first | rfl | assumption | simp) (by first | omega | (simp; done) | (simp; omega) | (simp at *; omega)))) (fun _ => ?_) : RT _ _ _ _ _ _ 5 _)
      refine (runR (H := (blk b1 25 [.int .i64 c.frame, .int .i64 c.epoch, .slice c.plans.a c.plans.l.length c.plans.c, .slice (some ⟨db, dd, none⟩) c.domains.l.length c.domains.c] :: H)) (z := 2) 2 [1, 2, 3, 4, 36] [(1, .pointer (some ⟨b1, 0, none⟩)), (2, .int .i64 0), (3, .int .i64 (c.domains.l.length : Int)), (4, .int .i64 (i : Int)), (36, .agg #[.int .i64 d.lab.level, .int .u64 d.lab.cats])] [(⟨db, dd + i * 10, none⟩, .int .i64 d.lab.level), (⟨db, dd + i * 10 + 1, none⟩, .int .u64 d.lab.cats)] (hasC (up (hk.domains.cell hB (i := i) (x := d) hd (j := 0) rfl)) (hasC (up (hk.domains.cell hB (i := i) (x := d) hd (j := 1) rfl)) has0)) (fun _ => by kernel_rfl) ?_ : RT _ _ _ _ _ _ 4 _)
      refine (stepR (z := 1) (callS 28 [.agg #[.int .i64 d.lab.level, .int .u64 d.lab.cats]] (some 37) (fun _ => .bool (labIs d.lab)) (fun (_ : Unit) => (blk b1 25 [.int .i64 c.frame, .int .i64 c.epoch, .slice c.plans.a c.plans.l.length c.plans.c, .slice (some ⟨db, dd, none⟩) c.domains.l.length c.domains.c] :: H)) (fun _ => by kernel_rfl) (rlabIs_walk _ d.lab)) (fun _ => ?_) : RT _ _ _ _ _ _ 2 _)
      refine (run0 (z := 0) 1 [1, 2, 3, 4, 38] [(1, .pointer (some ⟨b1, 0, none⟩)), (2, .int .i64 0), (3, .int .i64 (c.domains.l.length : Int)), (4, .int .i64 (i : Int)), (38, .bool (!(labIs d.lab)))] (fun _ => by kernel_rfl) (endR ?_) : RT _ _ _ _ _ _ 1 _)
      try rw [← hB]
      refine condR (b := !(labIs d.lab)) (by kernel_rfl) (fun _ => by kernel_rfl) (fun h2 => ?_) (fun h2 => ?_)
      · skip
        refine seqR (by kernel_rfl) ?_
        refine regionR 1 (by kernel_rfl) (by kernel_rfl) ?_
        refine (run0 (z := 0) 1 [1, 2, 3, 4] [(1, .pointer (some ⟨b1, 0, none⟩)), (2, .int .i64 10), (3, .int .i64 (c.domains.l.length : Int)), (4, .int .i64 (i : Int))] (fun _ => by kernel_rfl) (endR ?_) : RT _ _ _ _ _ _ 1 _)
        refine retR (by kernel_rfl) ?_
        refine blockV ?_
        refine thenV ?_
        refine thenV ?_
        refine blockV ?_
        refine thenV ?_
        have h0 : (c.domains.l.all fun d => labIs d.lab) = false := by
          rw [← Bool.not_eq_true]
          intro h1
          have := List.all_eq_true.1 h1 d hdm
          rw [this] at h2
          simp at h2
        refine done0 (.int .i64 10) (fun _ => by kernel_rfl) (fun w hs => ?_) .ret (.inr rfl)
        exact ⟨(), by rw [rErr, if_neg hb1, if_pos h0], hs.tail⟩
      · skip
        refine skipR (by kernel_rfl) ?_
        refine regionR 3 (by kernel_rfl) (by kernel_rfl) ?_
        refine (run0 (z := 0) 3 [1, 2, 3, 4] [(1, .pointer (some ⟨b1, 0, none⟩)), (2, .int .i64 0), (3, .int .i64 (c.domains.l.length : Int)), (4, .int .i64 (IntKind.i64.wrap ((i : Int) + 1)))] (fun _ => by kernel_rfl) (endR ?_) : RT _ _ _ _ _ _ 3 _)
        have h2' : labIs d.lab = true := by simpa using h2
        refine PT.keep (L' := [(1, .pointer (some ⟨b1, 0, none⟩)), (2, .int .i64 0), (3, .int .i64 (c.domains.l.length : Int)), (4, .int .i64 (IntKind.i64.wrap ((i : Int) + 1)))]) [1, 2, 3, 4] rfl ?_
        exact againG (k - 1) (i + 1) (by rw [hw]) rfl (by omega) ⟨by omega, by rw [ht, List.all_append, hall]; simp only [List.all_cons, List.all_nil, h2', Bool.and_self]⟩
    · skip
      have hi : i = c.domains.l.length := by have := of_decide_eq_false h; omega
      rw [hi, List.take_length] at hall
      have hl1 : ¬ (c.domains.l.all fun d => labIs d.lab) = false := by rw [hall]; simp
      refine exitR 0 (by kernel_rfl) (by kernel_rfl) ?_
      refine thenX ?_
      refine thenX ?_
      refine leaveR ?_
      refine seqR (by kernel_rfl) ?_
      refine seqR (by kernel_rfl) ?_
      refine regionR 3 (by kernel_rfl) (by kernel_rfl) ?_
      refine (runR (H := (blk b1 25 [.int .i64 c.frame, .int .i64 c.epoch, .slice c.plans.a c.plans.l.length c.plans.c, .slice c.domains.a c.domains.l.length c.domains.c] :: H)) (z := 2) 1 [1, 2, 3, 39] [(1, .pointer (some ⟨b1, 0, none⟩)), (2, .int .i64 0), (3, .int .i64 (c.domains.l.length : Int)), (39, .agg #[.int .i64 c.frame, .int .i64 c.epoch, .slice c.plans.a c.plans.l.length c.plans.c, .slice c.domains.a c.domains.l.length c.domains.c])] [(⟨b1, 0, none⟩, .int .i64 c.frame), (⟨b1, 1, none⟩, .int .i64 c.epoch), (⟨b1, 2, none⟩, .slice c.plans.a c.plans.l.length c.plans.c), (⟨b1, 3, none⟩, .slice c.domains.a c.domains.l.length c.domains.c)] (hasC (blkAt (T := 25) (cs := [.int .i64 c.frame, .int .i64 c.epoch, .slice c.plans.a c.plans.l.length c.plans.c, .slice c.domains.a c.domains.l.length c.domains.c]) 0 rfl rfl) (hasC (blkAt (T := 25) (cs := [.int .i64 c.frame, .int .i64 c.epoch, .slice c.plans.a c.plans.l.length c.plans.c, .slice c.domains.a c.domains.l.length c.domains.c]) 0 rfl rfl) (hasC (blkAt (T := 25) (cs := [.int .i64 c.frame, .int .i64 c.epoch, .slice c.plans.a c.plans.l.length c.plans.c, .slice c.domains.a c.domains.l.length c.domains.c]) 0 rfl rfl) (hasC (blkAt (T := 25) (cs := [.int .i64 c.frame, .int .i64 c.epoch, .slice c.plans.a c.plans.l.length c.plans.c, .slice c.domains.a c.domains.l.length c.domains.c]) 0 rfl rfl) has0)))) (fun _ => by kernel_rfl) ?_ : RT _ _ _ _ _ _ 3 _)
      refine (stepR (z := 1) (callS 29 [.agg #[.int .i64 c.frame, .int .i64 c.epoch, .slice c.plans.a c.plans.l.length c.plans.c, .slice c.domains.a c.domains.l.length c.domains.c]] (some 40) (fun _ => .bool (rsharesOk c)) (fun _ => (blk b1 25 [.int .i64 c.frame, .int .i64 c.epoch, .slice c.plans.a c.plans.l.length c.plans.c, .slice c.domains.a c.domains.l.length c.domains.c] :: H)) (fun _ => by kernel_rfl) (rshares_walk _ c hk.up hsm)) (fun _ => ?_) : RT _ _ _ _ _ _ 2 _)
      refine (run0 (z := 0) 1 [1, 2, 3, 41] [(1, .pointer (some ⟨b1, 0, none⟩)), (2, .int .i64 0), (3, .int .i64 (c.domains.l.length : Int)), (41, .bool (!(rsharesOk c)))] (fun _ => by kernel_rfl) (endR ?_) : RT _ _ _ _ _ _ 1 _)
      cases hsh : (rsharesOk c) with
      | true =>
        have hs1 : ¬ rsharesOk c = false := by rw [hsh]; simp
        refine condR (b := false) (by kernel_rfl) (fun _ => by kernel_rfl) (fun h => by cases h) (fun _ => ?_)
        refine skipR (by kernel_rfl) ?_
        refine seqR (by kernel_rfl) ?_
        refine seqR (by kernel_rfl) ?_
        refine regionR 1 (by kernel_rfl) (by kernel_rfl) ?_
        refine (run0 (z := 0) 1 [1, 2, 3, 5] [(1, .pointer (some ⟨b1, 0, none⟩)), (2, .int .i64 0), (3, .int .i64 (c.domains.l.length : Int)), (5, .int .i64 0)] (fun _ => by kernel_rfl) (endR ?_) : RT _ _ _ _ _ _ 1 _)
        refine blockR 2 (by kernel_rfl) (by kernel_rfl) ?_
        refine PT.keep (L' := [(1, .pointer (some ⟨b1, 0, none⟩)), (2, .int .i64 0), (3, .int .i64 (c.domains.l.length : Int)), (5, .int .i64 0)]) [1, 2, 3, 5] rfl ?_
        refine loopG (fun (u : Nat) => [(1, .pointer (some ⟨b1, 0, none⟩)), (2, .int .i64 0), (3, .int .i64 (c.domains.l.length : Int)), (5, .int .i64 (u : Int))]) (fun (u : Nat) => (blk b1 25 [.int .i64 c.frame, .int .i64 c.epoch, .slice c.plans.a c.plans.l.length c.plans.c, .slice c.domains.a c.domains.l.length c.domains.c] :: H)) (fun k (u : Nat) => k + u = c.domains.l.length ∧ ((c.domains.l.take u).all fun d => !rquotasBad d) = true) c.domains.l.length 0 (by kernel_rfl) ⟨by omega, rfl⟩ ?_
        rintro k2 u ⟨hku, hal2⟩
        have hw2 : IntKind.i64.wrap ((u : Int) + 1) = ((u + 1 : Nat) : Int) := by rw [IntKind.wrap_i64]; omega
        refine seqR (by kernel_rfl) ?_
        refine seqR (by kernel_rfl) ?_
        refine regionR 3 (by kernel_rfl) (by kernel_rfl) ?_
        refine (run0 (z := 0) 3 [1, 2, 3, 5, 44] [(1, .pointer (some ⟨b1, 0, none⟩)), (2, .int .i64 0), (3, .int .i64 (c.domains.l.length : Int)), (5, .int .i64 (u : Int)), (44, .bool (decide ((u : Int) < (c.domains.l.length : Int))))] (fun _ => by kernel_rfl) (endR ?_) : RT _ _ _ _ _ _ 3 _)
        refine condR (b := decide ((u : Int) < (c.domains.l.length : Int))) (by kernel_rfl) (fun _ => by kernel_rfl) (fun h3 => ?_) (fun h3 => ?_)
        · skip
          have hu : u < c.domains.l.length := by have := of_decide_eq_true h3; omega
          obtain ⟨d, hd⟩ : ∃ d, c.domains.l[u]? = some d := ⟨_, by simp [hu]; rfl⟩
          have hdm : d ∈ c.domains.l := List.mem_of_getElem? hd
          have ht : (c.domains.l.take (u + 1)) = c.domains.l.take u ++ [d] := by rw [List.take_add_one, hd]; rfl
          refine PT.know ((hk.domains).up.isSome (List.ne_nil_of_length_pos (by omega))) ?_
          rintro ⟨db, dd, hB⟩
          try rw [hB]
          refine skipR (by kernel_rfl) ?_
          refine seqR (by kernel_rfl) ?_
          refine blockR 3 (by kernel_rfl) (by kernel_rfl) ?_
          refine seqR (by kernel_rfl) ?_
          refine regionR 7 (by kernel_rfl) (by kernel_rfl) ?_
          refine (runR (H := (blk b1 25 [.int .i64 c.frame, .int .i64 c.epoch, .slice c.plans.a c.plans.l.length c.plans.c, .slice (some ⟨db, dd, none⟩) c.domains.l.length c.domains.c] :: H)) (z := 4) 3 [1, 2, 3, 5, 48, 49] [(1, .pointer (some ⟨b1, 0, none⟩)), (2, .int .i64 0), (3, .int .i64 (c.domains.l.length : Int)), (5, .int .i64 (u : Int)), (48, .slice (some ⟨db, dd, none⟩) c.domains.l.length c.domains.c), (49, .int .i64 (u : Int))] [(⟨b1, 3, none⟩, .slice (some ⟨db, dd, none⟩) c.domains.l.length c.domains.c)] (hasC (blkAt (T := 25) (cs := [.int .i64 c.frame, .int .i64 c.epoch, .slice c.plans.a c.plans.l.length c.plans.c, .slice (some ⟨db, dd, none⟩) c.domains.l.length c.domains.c]) 0 rfl rfl) has0) (fun _ => by kernel_rfl) ?_ : RT _ _ _ _ _ _ 7 _)
          refine (stepR (z := 3) (yldS (idxY 23 (.tmp 48) (.tmp 49) db dd c.domains.l.length c.domains.c u 10 46 (u : Int) .i64 (some 50) (fun _ => by kernel_rfl) (by kernel_rfl) (by kernel_rfl) (fun _ => by kernel_rfl) (fun _ => by kernel_rfl) Try.underlying23 (by kernel_rfl) (by first | rfl | assumption | simp) (by first | omega | (simp; done) | (simp; omega) | (simp at *; omega)))) (fun _ => ?_) : RT _ _ _ _ _ _ 4 _)
          refine (runR (H := (blk b1 25 [.int .i64 c.frame, .int .i64 c.epoch, .slice c.plans.a c.plans.l.length c.plans.c, .slice (some ⟨db, dd, none⟩) c.domains.l.length c.domains.c] :: H)) (z := 2) 1 [1, 2, 3, 5, 51] [(1, .pointer (some ⟨b1, 0, none⟩)), (2, .int .i64 0), (3, .int .i64 (c.domains.l.length : Int)), (5, .int .i64 (u : Int)), (51, .agg #[.int .i64 d.lab.level, .int .u64 d.lab.cats, .slice d.routes.a d.routes.l.length d.routes.c, .slice d.release.a d.release.l.length d.release.c, .int .i64 d.to, .int .i64 d.threads, .int .i64 d.groups, .int .i64 d.ring, .int .i64 d.sends, .int .i64 d.box])] [(⟨db, dd + u * 10, none⟩, .int .i64 d.lab.level), (⟨db, dd + u * 10 + 1, none⟩, .int .u64 d.lab.cats), (⟨db, dd + u * 10 + 2, none⟩, .slice d.routes.a d.routes.l.length d.routes.c), (⟨db, dd + u * 10 + 3, none⟩, .slice d.release.a d.release.l.length d.release.c), (⟨db, dd + u * 10 + 4, none⟩, .int .i64 d.to), (⟨db, dd + u * 10 + 5, none⟩, .int .i64 d.threads), (⟨db, dd + u * 10 + 6, none⟩, .int .i64 d.groups), (⟨db, dd + u * 10 + 7, none⟩, .int .i64 d.ring), (⟨db, dd + u * 10 + 8, none⟩, .int .i64 d.sends), (⟨db, dd + u * 10 + 9, none⟩, .int .i64 d.box)] (hasC (up (hk.domains.cell hB (i := u) (x := d) hd (j := 0) rfl)) (hasC (up (hk.domains.cell hB (i := u) (x := d) hd (j := 1) rfl)) (hasC (up (hk.domains.cell hB (i := u) (x := d) hd (j := 2) rfl)) (hasC (up (hk.domains.cell hB (i := u) (x := d) hd (j := 3) rfl)) (hasC (up (hk.domains.cell hB (i := u) (x := d) hd (j := 4) rfl)) (hasC (up (hk.domains.cell hB (i := u) (x := d) hd (j := 5) rfl)) (hasC (up (hk.domains.cell hB (i := u) (x := d) hd (j := 6) rfl)) (hasC (up (hk.domains.cell hB (i := u) (x := d) hd (j := 7) rfl)) (hasC (up (hk.domains.cell hB (i := u) (x := d) hd (j := 8) rfl)) (hasC (up (hk.domains.cell hB (i := u) (x := d) hd (j := 9) rfl)) has0)))))))))) (fun _ => by kernel_rfl) ?_ : RT _ _ _ _ _ _ 3 _)
          refine (stepR (z := 1) (newS 46 [.int .i64 0, .int .u64 0, .slice none 0 0, .slice none 0 0, .int .i64 0, .int .i64 0, .int .i64 0, .int .i64 0, .int .i64 0, .int .i64 0] (some 6) (fun b => .pointer (some ⟨b, 0, none⟩)) (fun _ _ => by kernel_rfl)) (fun b2 => ?_) : RT _ _ _ _ _ _ 2 _)
          refine (stepR (z := 0) (storeS [(0, .int .i64 d.lab.level), (1, .int .u64 d.lab.cats), (2, .slice d.routes.a d.routes.l.length d.routes.c), (3, .slice d.release.a d.release.l.length d.release.c), (4, .int .i64 d.to), (5, .int .i64 d.threads), (6, .int .i64 d.groups), (7, .int .i64 d.ring), (8, .int .i64 d.sends), (9, .int .i64 d.box)] [.int .i64 d.lab.level, .int .u64 d.lab.cats, .slice d.routes.a d.routes.l.length d.routes.c, .slice d.release.a d.release.l.length d.release.c, .int .i64 d.to, .int .i64 d.threads, .int .i64 d.groups, .int .i64 d.ring, .int .i64 d.sends, .int .i64 d.box] (fun _ => by kernel_rfl) (by kernel_rfl) (by kernel_rfl)) (fun _ => ?_) : RT _ _ _ _ _ _ 1 _)
          refine endR ?_
          refine seqR (by kernel_rfl) ?_
          refine regionR 28 (by kernel_rfl) (by kernel_rfl) ?_
          refine (runR (H := (blk b2 46 [.int .i64 d.lab.level, .int .u64 d.lab.cats, .slice d.routes.a d.routes.l.length d.routes.c, .slice d.release.a d.release.l.length d.release.c, .int .i64 d.to, .int .i64 d.threads, .int .i64 d.groups, .int .i64 d.ring, .int .i64 d.sends, .int .i64 d.box] :: blk b1 25 [.int .i64 c.frame, .int .i64 c.epoch, .slice c.plans.a c.plans.l.length c.plans.c, .slice (some ⟨db, dd, none⟩) c.domains.l.length c.domains.c] :: H)) (z := 26) 2 [6, 1, 2, 3, 5, 53] [(6, .pointer (some ⟨b2, 0, none⟩)), (1, .pointer (some ⟨b1, 0, none⟩)), (2, .int .i64 0), (3, .int .i64 (c.domains.l.length : Int)), (5, .int .i64 (u : Int)), (53, .int .i64 d.threads)] [(⟨b2, 5, none⟩, .int .i64 d.threads)] (hasC (blkAt (T := 46) (cs := [.int .i64 d.lab.level, .int .u64 d.lab.cats, .slice d.routes.a d.routes.l.length d.routes.c, .slice d.release.a d.release.l.length d.release.c, .int .i64 d.to, .int .i64 d.threads, .int .i64 d.groups, .int .i64 d.ring, .int .i64 d.sends, .int .i64 d.box]) 0 rfl rfl) has0) (fun _ => by kernel_rfl) ?_ : RT _ _ _ _ _ _ 28 _)
          refine (stepR (z := 25) (callS 27 [.int .i64 d.threads, .int .i64 1, .int .i64 8] (some 54) (fun _ => .bool (inb d.threads 1 8)) (fun (_ : Unit) => (blk b2 46 [.int .i64 d.lab.level, .int .u64 d.lab.cats, .slice d.routes.a d.routes.l.length d.routes.c, .slice d.release.a d.release.l.length d.release.c, .int .i64 d.to, .int .i64 d.threads, .int .i64 d.groups, .int .i64 d.ring, .int .i64 d.sends, .int .i64 d.box] :: blk b1 25 [.int .i64 c.frame, .int .i64 c.epoch, .slice c.plans.a c.plans.l.length c.plans.c, .slice (some ⟨db, dd, none⟩) c.domains.l.length c.domains.c] :: H)) (fun _ => by kernel_rfl) (rwithin_walk _ d.threads 1 8)) (fun _ => ?_) : RT _ _ _ _ _ _ 26 _)
          refine (run0 (z := 23) 2 [6, 1, 2, 3, 5, 56] [(6, .pointer (some ⟨b2, 0, none⟩)), (1, .pointer (some ⟨b1, 0, none⟩)), (2, .int .i64 0), (3, .int .i64 (c.domains.l.length : Int)), (5, .int .i64 (u : Int)), (56, .bool (!(inb d.threads 1 8)))] (fun _ => by kernel_rfl) ?_ : RT _ _ _ _ _ _ 25 _)
          refine (segR (ι := Unit) (z := 18) 5 (fun _ => [(6, .pointer (some ⟨b2, 0, none⟩)), (1, .pointer (some ⟨b1, 0, none⟩)), (2, .int .i64 0), (3, .int .i64 (c.domains.l.length : Int)), (5, .int .i64 (u : Int)), (61, .bool ((!(inb d.threads 1 8)) || (!(inb d.groups 0 4))))]) (fun _ => (blk b2 46 [.int .i64 d.lab.level, .int .u64 d.lab.cats, .slice d.routes.a d.routes.l.length d.routes.c, .slice d.release.a d.release.l.length d.release.c, .int .i64 d.to, .int .i64 d.threads, .int .i64 d.groups, .int .i64 d.ring, .int .i64 d.sends, .int .i64 d.box] :: blk b1 25 [.int .i64 c.frame, .int .i64 c.epoch, .slice c.plans.a c.plans.l.length c.plans.c, .slice (some ⟨db, dd, none⟩) c.domains.l.length c.domains.c] :: H)) ?_ (fun _ => ?_) : RT _ _ _ _ _ _ 23 _)
          · cases hg5 : (!(inb d.threads 1 8)) with
            | true =>
              refine (run0 (z := 0) 5 [6, 1, 2, 3, 5, 61] [(6, .pointer (some ⟨b2, 0, none⟩)), (1, .pointer (some ⟨b1, 0, none⟩)), (2, .int .i64 0), (3, .int .i64 (c.domains.l.length : Int)), (5, .int .i64 (u : Int)), (61, .bool true)] (fun _ => by kernel_rfl) (endR ?_) : RT _ _ _ _ _ _ 5 _)
              refine PT.keep (L' := [(6, .pointer (some ⟨b2, 0, none⟩)), (1, .pointer (some ⟨b1, 0, none⟩)), (2, .int .i64 0), (3, .int .i64 (c.domains.l.length : Int)), (5, .int .i64 (u : Int)), (61, .bool (true || (!(inb d.groups 0 4))))]) [6, 1, 2, 3, 5, 61] rfl ?_
              exact midR () rfl rfl
            | false =>
              refine (runR (H := (blk b2 46 [.int .i64 d.lab.level, .int .u64 d.lab.cats, .slice d.routes.a d.routes.l.length d.routes.c, .slice d.release.a d.release.l.length d.release.c, .int .i64 d.to, .int .i64 d.threads, .int .i64 d.groups, .int .i64 d.ring, .int .i64 d.sends, .int .i64 d.box] :: blk b1 25 [.int .i64 c.frame, .int .i64 c.epoch, .slice c.plans.a c.plans.l.length c.plans.c, .slice (some ⟨db, dd, none⟩) c.domains.l.length c.domains.c] :: H)) (z := 3) 2 [6, 1, 2, 3, 5, 56, 58] [(6, .pointer (some ⟨b2, 0, none⟩)), (1, .pointer (some ⟨b1, 0, none⟩)), (2, .int .i64 0), (3, .int .i64 (c.domains.l.length : Int)), (5, .int .i64 (u : Int)), (56, .bool false), (58, .int .i64 d.groups)] [(⟨b2, 6, none⟩, .int .i64 d.groups)] (hasC (blkAt (T := 46) (cs := [.int .i64 d.lab.level, .int .u64 d.lab.cats, .slice d.routes.a d.routes.l.length d.routes.c, .slice d.release.a d.release.l.length d.release.c, .int .i64 d.to, .int .i64 d.threads, .int .i64 d.groups, .int .i64 d.ring, .int .i64 d.sends, .int .i64 d.box]) 0 rfl rfl) has0) (fun _ => by kernel_rfl) ?_ : RT _ _ _ _ _ _ 5 _)
              refine (stepR (z := 2) (callS 27 [.int .i64 d.groups, .int .i64 0, .int .i64 4] (some 59) (fun _ => .bool (inb d.groups 0 4)) (fun (_ : Unit) => (blk b2 46 [.int .i64 d.lab.level, .int .u64 d.lab.cats, .slice d.routes.a d.routes.l.length d.routes.c, .slice d.release.a d.release.l.length d.release.c, .int .i64 d.to, .int .i64 d.threads, .int .i64 d.groups, .int .i64 d.ring, .int .i64 d.sends, .int .i64 d.box] :: blk b1 25 [.int .i64 c.frame, .int .i64 c.epoch, .slice c.plans.a c.plans.l.length c.plans.c, .slice (some ⟨db, dd, none⟩) c.domains.l.length c.domains.c] :: H)) (fun _ => by kernel_rfl) (rwithin_walk _ d.groups 0 4)) (fun _ => ?_) : RT _ _ _ _ _ _ 3 _)
              refine (run0 (z := 0) 2 [6, 1, 2, 3, 5, 61] [(6, .pointer (some ⟨b2, 0, none⟩)), (1, .pointer (some ⟨b1, 0, none⟩)), (2, .int .i64 0), (3, .int .i64 (c.domains.l.length : Int)), (5, .int .i64 (u : Int)), (61, .bool (!(inb d.groups 0 4)))] (fun _ => by kernel_rfl) (endR ?_) : RT _ _ _ _ _ _ 2 _)
              refine PT.keep (L' := [(6, .pointer (some ⟨b2, 0, none⟩)), (1, .pointer (some ⟨b1, 0, none⟩)), (2, .int .i64 0), (3, .int .i64 (c.domains.l.length : Int)), (5, .int .i64 (u : Int)), (61, .bool (false || (!(inb d.groups 0 4))))]) [6, 1, 2, 3, 5, 61] rfl ?_
              exact midR () rfl rfl
          refine (run0 (z := 17) 1 [6, 1, 2, 3, 5, 62] [(6, .pointer (some ⟨b2, 0, none⟩)), (1, .pointer (some ⟨b1, 0, none⟩)), (2, .int .i64 0), (3, .int .i64 (c.domains.l.length : Int)), (5, .int .i64 (u : Int)), (62, .bool ((!(inb d.threads 1 8)) || (!(inb d.groups 0 4))))] (fun _ => by kernel_rfl) ?_ : RT _ _ _ _ _ _ 18 _)
          refine (segR (ι := Unit) (z := 12) 5 (fun _ => [(6, .pointer (some ⟨b2, 0, none⟩)), (1, .pointer (some ⟨b1, 0, none⟩)), (2, .int .i64 0), (3, .int .i64 (c.domains.l.length : Int)), (5, .int .i64 (u : Int)), (67, .bool (((!(inb d.threads 1 8)) || (!(inb d.groups 0 4))) || (!(inb d.ring 1 16))))]) (fun _ => (blk b2 46 [.int .i64 d.lab.level, .int .u64 d.lab.cats, .slice d.routes.a d.routes.l.length d.routes.c, .slice d.release.a d.release.l.length d.release.c, .int .i64 d.to, .int .i64 d.threads, .int .i64 d.groups, .int .i64 d.ring, .int .i64 d.sends, .int .i64 d.box] :: blk b1 25 [.int .i64 c.frame, .int .i64 c.epoch, .slice c.plans.a c.plans.l.length c.plans.c, .slice (some ⟨db, dd, none⟩) c.domains.l.length c.domains.c] :: H)) ?_ (fun _ => ?_) : RT _ _ _ _ _ _ 17 _)
          · cases hg11 : ((!(inb d.threads 1 8)) || (!(inb d.groups 0 4))) with
            | true =>
              refine (run0 (z := 0) 5 [6, 1, 2, 3, 5, 67] [(6, .pointer (some ⟨b2, 0, none⟩)), (1, .pointer (some ⟨b1, 0, none⟩)), (2, .int .i64 0), (3, .int .i64 (c.domains.l.length : Int)), (5, .int .i64 (u : Int)), (67, .bool true)] (fun _ => by kernel_rfl) (endR ?_) : RT _ _ _ _ _ _ 5 _)
              refine PT.keep (L' := [(6, .pointer (some ⟨b2, 0, none⟩)), (1, .pointer (some ⟨b1, 0, none⟩)), (2, .int .i64 0), (3, .int .i64 (c.domains.l.length : Int)), (5, .int .i64 (u : Int)), (67, .bool (true || (!(inb d.ring 1 16))))]) [6, 1, 2, 3, 5, 67] rfl ?_
              exact midR () rfl rfl
            | false =>
              refine (runR (H := (blk b2 46 [.int .i64 d.lab.level, .int .u64 d.lab.cats, .slice d.routes.a d.routes.l.length d.routes.c, .slice d.release.a d.release.l.length d.release.c, .int .i64 d.to, .int .i64 d.threads, .int .i64 d.groups, .int .i64 d.ring, .int .i64 d.sends, .int .i64 d.box] :: blk b1 25 [.int .i64 c.frame, .int .i64 c.epoch, .slice c.plans.a c.plans.l.length c.plans.c, .slice (some ⟨db, dd, none⟩) c.domains.l.length c.domains.c] :: H)) (z := 3) 2 [6, 1, 2, 3, 5, 62, 64] [(6, .pointer (some ⟨b2, 0, none⟩)), (1, .pointer (some ⟨b1, 0, none⟩)), (2, .int .i64 0), (3, .int .i64 (c.domains.l.length : Int)), (5, .int .i64 (u : Int)), (62, .bool false), (64, .int .i64 d.ring)] [(⟨b2, 7, none⟩, .int .i64 d.ring)] (hasC (blkAt (T := 46) (cs := [.int .i64 d.lab.level, .int .u64 d.lab.cats, .slice d.routes.a d.routes.l.length d.routes.c, .slice d.release.a d.release.l.length d.release.c, .int .i64 d.to, .int .i64 d.threads, .int .i64 d.groups, .int .i64 d.ring, .int .i64 d.sends, .int .i64 d.box]) 0 rfl rfl) has0) (fun _ => by kernel_rfl) ?_ : RT _ _ _ _ _ _ 5 _)
              refine (stepR (z := 2) (callS 27 [.int .i64 d.ring, .int .i64 1, .int .i64 16] (some 65) (fun _ => .bool (inb d.ring 1 16)) (fun (_ : Unit) => (blk b2 46 [.int .i64 d.lab.level, .int .u64 d.lab.cats, .slice d.routes.a d.routes.l.length d.routes.c, .slice d.release.a d.release.l.length d.release.c, .int .i64 d.to, .int .i64 d.threads, .int .i64 d.groups, .int .i64 d.ring, .int .i64 d.sends, .int .i64 d.box] :: blk b1 25 [.int .i64 c.frame, .int .i64 c.epoch, .slice c.plans.a c.plans.l.length c.plans.c, .slice (some ⟨db, dd, none⟩) c.domains.l.length c.domains.c] :: H)) (fun _ => by kernel_rfl) (rwithin_walk _ d.ring 1 16)) (fun _ => ?_) : RT _ _ _ _ _ _ 3 _)
              refine (run0 (z := 0) 2 [6, 1, 2, 3, 5, 67] [(6, .pointer (some ⟨b2, 0, none⟩)), (1, .pointer (some ⟨b1, 0, none⟩)), (2, .int .i64 0), (3, .int .i64 (c.domains.l.length : Int)), (5, .int .i64 (u : Int)), (67, .bool (!(inb d.ring 1 16)))] (fun _ => by kernel_rfl) (endR ?_) : RT _ _ _ _ _ _ 2 _)
              refine PT.keep (L' := [(6, .pointer (some ⟨b2, 0, none⟩)), (1, .pointer (some ⟨b1, 0, none⟩)), (2, .int .i64 0), (3, .int .i64 (c.domains.l.length : Int)), (5, .int .i64 (u : Int)), (67, .bool (false || (!(inb d.ring 1 16))))]) [6, 1, 2, 3, 5, 67] rfl ?_
              exact midR () rfl rfl
          refine (run0 (z := 11) 1 [6, 1, 2, 3, 5, 68] [(6, .pointer (some ⟨b2, 0, none⟩)), (1, .pointer (some ⟨b1, 0, none⟩)), (2, .int .i64 0), (3, .int .i64 (c.domains.l.length : Int)), (5, .int .i64 (u : Int)), (68, .bool (((!(inb d.threads 1 8)) || (!(inb d.groups 0 4))) || (!(inb d.ring 1 16))))] (fun _ => by kernel_rfl) ?_ : RT _ _ _ _ _ _ 12 _)
          refine (segR (ι := Unit) (z := 6) 5 (fun _ => [(6, .pointer (some ⟨b2, 0, none⟩)), (1, .pointer (some ⟨b1, 0, none⟩)), (2, .int .i64 0), (3, .int .i64 (c.domains.l.length : Int)), (5, .int .i64 (u : Int)), (73, .bool ((((!(inb d.threads 1 8)) || (!(inb d.groups 0 4))) || (!(inb d.ring 1 16))) || (!(inb d.sends 0 8))))]) (fun _ => (blk b2 46 [.int .i64 d.lab.level, .int .u64 d.lab.cats, .slice d.routes.a d.routes.l.length d.routes.c, .slice d.release.a d.release.l.length d.release.c, .int .i64 d.to, .int .i64 d.threads, .int .i64 d.groups, .int .i64 d.ring, .int .i64 d.sends, .int .i64 d.box] :: blk b1 25 [.int .i64 c.frame, .int .i64 c.epoch, .slice c.plans.a c.plans.l.length c.plans.c, .slice (some ⟨db, dd, none⟩) c.domains.l.length c.domains.c] :: H)) ?_ (fun _ => ?_) : RT _ _ _ _ _ _ 11 _)
          · cases hg17 : (((!(inb d.threads 1 8)) || (!(inb d.groups 0 4))) || (!(inb d.ring 1 16))) with
            | true =>
              refine (run0 (z := 0) 5 [6, 1, 2, 3, 5, 73] [(6, .pointer (some ⟨b2, 0, none⟩)), (1, .pointer (some ⟨b1, 0, none⟩)), (2, .int .i64 0), (3, .int .i64 (c.domains.l.length : Int)), (5, .int .i64 (u : Int)), (73, .bool true)] (fun _ => by kernel_rfl) (endR ?_) : RT _ _ _ _ _ _ 5 _)
              refine PT.keep (L' := [(6, .pointer (some ⟨b2, 0, none⟩)), (1, .pointer (some ⟨b1, 0, none⟩)), (2, .int .i64 0), (3, .int .i64 (c.domains.l.length : Int)), (5, .int .i64 (u : Int)), (73, .bool (true || (!(inb d.sends 0 8))))]) [6, 1, 2, 3, 5, 73] rfl ?_
              exact midR () rfl rfl
            | false =>
              refine (runR (H := (blk b2 46 [.int .i64 d.lab.level, .int .u64 d.lab.cats, .slice d.routes.a d.routes.l.length d.routes.c, .slice d.release.a d.release.l.length d.release.c, .int .i64 d.to, .int .i64 d.threads, .int .i64 d.groups, .int .i64 d.ring, .int .i64 d.sends, .int .i64 d.box] :: blk b1 25 [.int .i64 c.frame, .int .i64 c.epoch, .slice c.plans.a c.plans.l.length c.plans.c, .slice (some ⟨db, dd, none⟩) c.domains.l.length c.domains.c] :: H)) (z := 3) 2 [6, 1, 2, 3, 5, 68, 70] [(6, .pointer (some ⟨b2, 0, none⟩)), (1, .pointer (some ⟨b1, 0, none⟩)), (2, .int .i64 0), (3, .int .i64 (c.domains.l.length : Int)), (5, .int .i64 (u : Int)), (68, .bool false), (70, .int .i64 d.sends)] [(⟨b2, 8, none⟩, .int .i64 d.sends)] (hasC (blkAt (T := 46) (cs := [.int .i64 d.lab.level, .int .u64 d.lab.cats, .slice d.routes.a d.routes.l.length d.routes.c, .slice d.release.a d.release.l.length d.release.c, .int .i64 d.to, .int .i64 d.threads, .int .i64 d.groups, .int .i64 d.ring, .int .i64 d.sends, .int .i64 d.box]) 0 rfl rfl) has0) (fun _ => by kernel_rfl) ?_ : RT _ _ _ _ _ _ 5 _)
              refine (stepR (z := 2) (callS 27 [.int .i64 d.sends, .int .i64 0, .int .i64 8] (some 71) (fun _ => .bool (inb d.sends 0 8)) (fun (_ : Unit) => (blk b2 46 [.int .i64 d.lab.level, .int .u64 d.lab.cats, .slice d.routes.a d.routes.l.length d.routes.c, .slice d.release.a d.release.l.length d.release.c, .int .i64 d.to, .int .i64 d.threads, .int .i64 d.groups, .int .i64 d.ring, .int .i64 d.sends, .int .i64 d.box] :: blk b1 25 [.int .i64 c.frame, .int .i64 c.epoch, .slice c.plans.a c.plans.l.length c.plans.c, .slice (some ⟨db, dd, none⟩) c.domains.l.length c.domains.c] :: H)) (fun _ => by kernel_rfl) (rwithin_walk _ d.sends 0 8)) (fun _ => ?_) : RT _ _ _ _ _ _ 3 _)
              refine (run0 (z := 0) 2 [6, 1, 2, 3, 5, 73] [(6, .pointer (some ⟨b2, 0, none⟩)), (1, .pointer (some ⟨b1, 0, none⟩)), (2, .int .i64 0), (3, .int .i64 (c.domains.l.length : Int)), (5, .int .i64 (u : Int)), (73, .bool (!(inb d.sends 0 8)))] (fun _ => by kernel_rfl) (endR ?_) : RT _ _ _ _ _ _ 2 _)
              refine PT.keep (L' := [(6, .pointer (some ⟨b2, 0, none⟩)), (1, .pointer (some ⟨b1, 0, none⟩)), (2, .int .i64 0), (3, .int .i64 (c.domains.l.length : Int)), (5, .int .i64 (u : Int)), (73, .bool (false || (!(inb d.sends 0 8))))]) [6, 1, 2, 3, 5, 73] rfl ?_
              exact midR () rfl rfl
          refine (run0 (z := 5) 1 [6, 1, 2, 3, 5, 74] [(6, .pointer (some ⟨b2, 0, none⟩)), (1, .pointer (some ⟨b1, 0, none⟩)), (2, .int .i64 0), (3, .int .i64 (c.domains.l.length : Int)), (5, .int .i64 (u : Int)), (74, .bool ((((!(inb d.threads 1 8)) || (!(inb d.groups 0 4))) || (!(inb d.ring 1 16))) || (!(inb d.sends 0 8))))] (fun _ => by kernel_rfl) ?_ : RT _ _ _ _ _ _ 6 _)
          refine (segR (ι := Unit) (z := 0) 5 (fun _ => [(1, .pointer (some ⟨b1, 0, none⟩)), (2, .int .i64 0), (3, .int .i64 (c.domains.l.length : Int)), (5, .int .i64 (u : Int)), (79, .bool (((((!(inb d.threads 1 8)) || (!(inb d.groups 0 4))) || (!(inb d.ring 1 16))) || (!(inb d.sends 0 8))) || (!(inb d.box 1 8))))]) (fun _ => (blk b2 46 [.int .i64 d.lab.level, .int .u64 d.lab.cats, .slice d.routes.a d.routes.l.length d.routes.c, .slice d.release.a d.release.l.length d.release.c, .int .i64 d.to, .int .i64 d.threads, .int .i64 d.groups, .int .i64 d.ring, .int .i64 d.sends, .int .i64 d.box] :: blk b1 25 [.int .i64 c.frame, .int .i64 c.epoch, .slice c.plans.a c.plans.l.length c.plans.c, .slice (some ⟨db, dd, none⟩) c.domains.l.length c.domains.c] :: H)) ?_ (fun _ => ?_) : RT _ _ _ _ _ _ 5 _)
          · cases hg23 : ((((!(inb d.threads 1 8)) || (!(inb d.groups 0 4))) || (!(inb d.ring 1 16))) || (!(inb d.sends 0 8))) with
            | true =>
              refine (run0 (z := 0) 5 [1, 2, 3, 5, 79] [(1, .pointer (some ⟨b1, 0, none⟩)), (2, .int .i64 0), (3, .int .i64 (c.domains.l.length : Int)), (5, .int .i64 (u : Int)), (79, .bool true)] (fun _ => by kernel_rfl) (endR ?_) : RT _ _ _ _ _ _ 5 _)
              refine PT.keep (L' := [(1, .pointer (some ⟨b1, 0, none⟩)), (2, .int .i64 0), (3, .int .i64 (c.domains.l.length : Int)), (5, .int .i64 (u : Int)), (79, .bool (true || (!(inb d.box 1 8))))]) [1, 2, 3, 5, 79] rfl ?_
              exact midR () rfl rfl
            | false =>
              refine (runR (H := (blk b2 46 [.int .i64 d.lab.level, .int .u64 d.lab.cats, .slice d.routes.a d.routes.l.length d.routes.c, .slice d.release.a d.release.l.length d.release.c, .int .i64 d.to, .int .i64 d.threads, .int .i64 d.groups, .int .i64 d.ring, .int .i64 d.sends, .int .i64 d.box] :: blk b1 25 [.int .i64 c.frame, .int .i64 c.epoch, .slice c.plans.a c.plans.l.length c.plans.c, .slice (some ⟨db, dd, none⟩) c.domains.l.length c.domains.c] :: H)) (z := 3) 2 [1, 2, 3, 5, 74, 76] [(1, .pointer (some ⟨b1, 0, none⟩)), (2, .int .i64 0), (3, .int .i64 (c.domains.l.length : Int)), (5, .int .i64 (u : Int)), (74, .bool false), (76, .int .i64 d.box)] [(⟨b2, 9, none⟩, .int .i64 d.box)] (hasC (blkAt (T := 46) (cs := [.int .i64 d.lab.level, .int .u64 d.lab.cats, .slice d.routes.a d.routes.l.length d.routes.c, .slice d.release.a d.release.l.length d.release.c, .int .i64 d.to, .int .i64 d.threads, .int .i64 d.groups, .int .i64 d.ring, .int .i64 d.sends, .int .i64 d.box]) 0 rfl rfl) has0) (fun _ => by kernel_rfl) ?_ : RT _ _ _ _ _ _ 5 _)
              refine (stepR (z := 2) (callS 27 [.int .i64 d.box, .int .i64 1, .int .i64 8] (some 77) (fun _ => .bool (inb d.box 1 8)) (fun (_ : Unit) => (blk b2 46 [.int .i64 d.lab.level, .int .u64 d.lab.cats, .slice d.routes.a d.routes.l.length d.routes.c, .slice d.release.a d.release.l.length d.release.c, .int .i64 d.to, .int .i64 d.threads, .int .i64 d.groups, .int .i64 d.ring, .int .i64 d.sends, .int .i64 d.box] :: blk b1 25 [.int .i64 c.frame, .int .i64 c.epoch, .slice c.plans.a c.plans.l.length c.plans.c, .slice (some ⟨db, dd, none⟩) c.domains.l.length c.domains.c] :: H)) (fun _ => by kernel_rfl) (rwithin_walk _ d.box 1 8)) (fun _ => ?_) : RT _ _ _ _ _ _ 3 _)
              refine (run0 (z := 0) 2 [1, 2, 3, 5, 79] [(1, .pointer (some ⟨b1, 0, none⟩)), (2, .int .i64 0), (3, .int .i64 (c.domains.l.length : Int)), (5, .int .i64 (u : Int)), (79, .bool (!(inb d.box 1 8)))] (fun _ => by kernel_rfl) (endR ?_) : RT _ _ _ _ _ _ 2 _)
              refine PT.keep (L' := [(1, .pointer (some ⟨b1, 0, none⟩)), (2, .int .i64 0), (3, .int .i64 (c.domains.l.length : Int)), (5, .int .i64 (u : Int)), (79, .bool (false || (!(inb d.box 1 8))))]) [1, 2, 3, 5, 79] rfl ?_
              exact midR () rfl rfl
          refine endR ?_
          try rw [← hB]
          refine condR (b := ((((!(inb d.threads 1 8)) || (!(inb d.groups 0 4))) || (!(inb d.ring 1 16))) || (!(inb d.sends 0 8))) || (!(inb d.box 1 8))) (by kernel_rfl) (fun _ => by kernel_rfl) (fun h4 => ?_) (fun h4 => ?_)
          · skip
            refine seqR (by kernel_rfl) ?_
            refine regionR 1 (by kernel_rfl) (by kernel_rfl) ?_
            refine (run0 (z := 0) 1 [1, 2, 3, 5] [(1, .pointer (some ⟨b1, 0, none⟩)), (2, .int .i64 19), (3, .int .i64 (c.domains.l.length : Int)), (5, .int .i64 (u : Int))] (fun _ => by kernel_rfl) (endR ?_) : RT _ _ _ _ _ _ 1 _)
            refine retR (by kernel_rfl) ?_
            refine blockV ?_
            refine thenV ?_
            refine thenV ?_
            refine blockV ?_
            refine thenV ?_
            have h0 : (c.domains.l.all fun d => !rquotasBad d) = false := by
              rw [← Bool.not_eq_true]
              intro h1
              have := List.all_eq_true.1 h1 d hdm
              rw [show rquotasBad d = true from h4] at this
              simp at this
            refine done0 (.int .i64 19) (fun _ => by kernel_rfl) (fun w hs => ?_) .ret (.inr rfl)
            exact ⟨(), by rw [rErr, if_neg hb1, if_neg hl1, if_neg hs1, if_pos h0], hs.tail.tail⟩
          · skip
            refine skipR (by kernel_rfl) ?_
            refine regionR 3 (by kernel_rfl) (by kernel_rfl) ?_
            refine (run0 (z := 0) 3 [1, 2, 3, 5] [(1, .pointer (some ⟨b1, 0, none⟩)), (2, .int .i64 0), (3, .int .i64 (c.domains.l.length : Int)), (5, .int .i64 (IntKind.i64.wrap ((u : Int) + 1)))] (fun _ => by kernel_rfl) (endR ?_) : RT _ _ _ _ _ _ 3 _)
            refine PT.drop ?_
            refine PT.keep (L' := [(1, .pointer (some ⟨b1, 0, none⟩)), (2, .int .i64 0), (3, .int .i64 (c.domains.l.length : Int)), (5, .int .i64 (IntKind.i64.wrap ((u : Int) + 1)))]) [1, 2, 3, 5] rfl ?_
            exact againG (k2 - 1) (u + 1) (by rw [hw2]) rfl (by omega) ⟨by omega, by rw [ht, List.all_append, hal2]; simp only [List.all_cons, List.all_nil, show rquotasBad d = false from h4, Bool.and_self, Bool.not_false]⟩
        · skip
          have hu : u = c.domains.l.length := by have := of_decide_eq_false h3; omega
          rw [hu, List.take_length] at hal2
          have hq1 : ¬ (c.domains.l.all fun d => !rquotasBad d) = false := by rw [hal2]; simp
          refine exitR 2 (by kernel_rfl) (by kernel_rfl) ?_
          refine thenX ?_
          refine thenX ?_
          refine leaveR ?_
          refine seqR (by kernel_rfl) ?_
          refine seqR (by kernel_rfl) ?_
          refine regionR 1 (by kernel_rfl) (by kernel_rfl) ?_
          refine (run0 (z := 0) 1 [1, 2, 3, 7] [(1, .pointer (some ⟨b1, 0, none⟩)), (2, .int .i64 0), (3, .int .i64 (c.domains.l.length : Int)), (7, .int .i64 0)] (fun _ => by kernel_rfl) (endR ?_) : RT _ _ _ _ _ _ 1 _)
          refine blockR 4 (by kernel_rfl) (by kernel_rfl) ?_
          refine PT.keep (L' := [(1, .pointer (some ⟨b1, 0, none⟩)), (2, .int .i64 0), (3, .int .i64 (c.domains.l.length : Int)), (7, .int .i64 0)]) [1, 2, 3, 7] rfl ?_
          refine loopG (fun (v : Nat) => [(1, .pointer (some ⟨b1, 0, none⟩)), (2, .int .i64 0), (3, .int .i64 (c.domains.l.length : Int)), (7, .int .i64 (v : Int))]) (fun (v : Nat) => (blk b1 25 [.int .i64 c.frame, .int .i64 c.epoch, .slice c.plans.a c.plans.l.length c.plans.c, .slice c.domains.a c.domains.l.length c.domains.c] :: H)) (fun k (v : Nat) => k + v = c.domains.l.length ∧ ((List.range v).all (rroutesAt c)) = true) c.domains.l.length 0 (by kernel_rfl) ⟨by omega, rfl⟩ ?_
          rintro k3 v ⟨hkv, hal3⟩
          have hw3 : IntKind.i64.wrap ((v : Int) + 1) = ((v + 1 : Nat) : Int) := by rw [IntKind.wrap_i64]; omega
          refine seqR (by kernel_rfl) ?_
          refine seqR (by kernel_rfl) ?_
          refine regionR 3 (by kernel_rfl) (by kernel_rfl) ?_
          refine (run0 (z := 0) 3 [1, 2, 3, 7, 82] [(1, .pointer (some ⟨b1, 0, none⟩)), (2, .int .i64 0), (3, .int .i64 (c.domains.l.length : Int)), (7, .int .i64 (v : Int)), (82, .bool (decide ((v : Int) < (c.domains.l.length : Int))))] (fun _ => by kernel_rfl) (endR ?_) : RT _ _ _ _ _ _ 3 _)
          refine condR (b := decide ((v : Int) < (c.domains.l.length : Int))) (by kernel_rfl) (fun _ => by kernel_rfl) (fun h4 => ?_) (fun h4 => ?_)
          · skip
            have hv : v < c.domains.l.length := by have := of_decide_eq_true h4; omega
            obtain ⟨d, hd⟩ : ∃ d, c.domains.l[v]? = some d := ⟨_, by simp [hv]; rfl⟩
            refine skipR (by kernel_rfl) ?_
            refine seqR (by kernel_rfl) ?_
            refine blockR 5 (by kernel_rfl) (by kernel_rfl) ?_
            refine seqR (by kernel_rfl) ?_
            refine regionR 4 (by kernel_rfl) (by kernel_rfl) ?_
            refine (runR (H := (blk b1 25 [.int .i64 c.frame, .int .i64 c.epoch, .slice c.plans.a c.plans.l.length c.plans.c, .slice c.domains.a c.domains.l.length c.domains.c] :: H)) (z := 2) 2 [1, 2, 3, 7, 85, 86] [(1, .pointer (some ⟨b1, 0, none⟩)), (2, .int .i64 0), (3, .int .i64 (c.domains.l.length : Int)), (7, .int .i64 (v : Int)), (85, .agg #[.int .i64 c.frame, .int .i64 c.epoch, .slice c.plans.a c.plans.l.length c.plans.c, .slice c.domains.a c.domains.l.length c.domains.c]), (86, .int .i64 (v : Int))] [(⟨b1, 0, none⟩, .int .i64 c.frame), (⟨b1, 1, none⟩, .int .i64 c.epoch), (⟨b1, 2, none⟩, .slice c.plans.a c.plans.l.length c.plans.c), (⟨b1, 3, none⟩, .slice c.domains.a c.domains.l.length c.domains.c)] (hasC (blkAt (T := 25) (cs := [.int .i64 c.frame, .int .i64 c.epoch, .slice c.plans.a c.plans.l.length c.plans.c, .slice c.domains.a c.domains.l.length c.domains.c]) 0 rfl rfl) (hasC (blkAt (T := 25) (cs := [.int .i64 c.frame, .int .i64 c.epoch, .slice c.plans.a c.plans.l.length c.plans.c, .slice c.domains.a c.domains.l.length c.domains.c]) 0 rfl rfl) (hasC (blkAt (T := 25) (cs := [.int .i64 c.frame, .int .i64 c.epoch, .slice c.plans.a c.plans.l.length c.plans.c, .slice c.domains.a c.domains.l.length c.domains.c]) 0 rfl rfl) (hasC (blkAt (T := 25) (cs := [.int .i64 c.frame, .int .i64 c.epoch, .slice c.plans.a c.plans.l.length c.plans.c, .slice c.domains.a c.domains.l.length c.domains.c]) 0 rfl rfl) has0)))) (fun _ => by kernel_rfl) ?_ : RT _ _ _ _ _ _ 4 _)
            refine (stepR (z := 1) (callS 30 [.agg #[.int .i64 c.frame, .int .i64 c.epoch, .slice c.plans.a c.plans.l.length c.plans.c, .slice c.domains.a c.domains.l.length c.domains.c], .int .i64 (v : Int)] (some 87) (fun _ => .bool (rroutesOk c (v : Int) d)) (fun _ => (blk b1 25 [.int .i64 c.frame, .int .i64 c.epoch, .slice c.plans.a c.plans.l.length c.plans.c, .slice c.domains.a c.domains.l.length c.domains.c] :: H)) (fun _ => by kernel_rfl) (rroutes_walk _ c v d hd hk.up hsm)) (fun _ => ?_) : RT _ _ _ _ _ _ 2 _)
            refine (run0 (z := 0) 1 [1, 2, 3, 7, 88] [(1, .pointer (some ⟨b1, 0, none⟩)), (2, .int .i64 0), (3, .int .i64 (c.domains.l.length : Int)), (7, .int .i64 (v : Int)), (88, .bool (!(rroutesOk c (v : Int) d)))] (fun _ => by kernel_rfl) (endR ?_) : RT _ _ _ _ _ _ 1 _)
            refine condR (b := !(rroutesOk c (v : Int) d)) (by kernel_rfl) (fun _ => by kernel_rfl) (fun h5 => ?_) (fun h5 => ?_)
            · skip
              refine seqR (by kernel_rfl) ?_
              refine regionR 1 (by kernel_rfl) (by kernel_rfl) ?_
              refine (run0 (z := 0) 1 [1, 2, 3, 7] [(1, .pointer (some ⟨b1, 0, none⟩)), (2, .int .i64 17), (3, .int .i64 (c.domains.l.length : Int)), (7, .int .i64 (v : Int))] (fun _ => by kernel_rfl) (endR ?_) : RT _ _ _ _ _ _ 1 _)
              refine retR (by kernel_rfl) ?_
              refine blockV ?_
              refine thenV ?_
              refine thenV ?_
              refine blockV ?_
              refine thenV ?_
              have h0 : (List.range c.domains.l.length).all (rroutesAt c) = false := by
                rw [← Bool.not_eq_true]
                intro h1
                have := List.all_eq_true.1 h1 v (List.mem_range.2 hv)
                rw [rroutesAt, hd] at this
                simp only at this
                rw [this] at h5
                simp at h5
              refine done0 (.int .i64 17) (fun _ => by kernel_rfl) (fun w hs => ?_) .ret (.inr rfl)
              exact ⟨(), by rw [rErr, if_neg hb1, if_neg hl1, if_neg hs1, if_neg hq1, if_pos h0], hs.tail⟩
            · skip
              refine skipR (by kernel_rfl) ?_
              refine regionR 3 (by kernel_rfl) (by kernel_rfl) ?_
              refine (run0 (z := 0) 3 [1, 2, 3, 7] [(1, .pointer (some ⟨b1, 0, none⟩)), (2, .int .i64 0), (3, .int .i64 (c.domains.l.length : Int)), (7, .int .i64 (IntKind.i64.wrap ((v : Int) + 1)))] (fun _ => by kernel_rfl) (endR ?_) : RT _ _ _ _ _ _ 3 _)
              have h5' : rroutesOk c (v : Int) d = true := by simpa using h5
              refine PT.keep (L' := [(1, .pointer (some ⟨b1, 0, none⟩)), (2, .int .i64 0), (3, .int .i64 (c.domains.l.length : Int)), (7, .int .i64 (IntKind.i64.wrap ((v : Int) + 1)))]) [1, 2, 3, 7] rfl ?_
              exact againG (k3 - 1) (v + 1) (by rw [hw3]) rfl (by omega) ⟨by omega, by rw [List.range_succ, List.all_append, hal3]; simp only [List.all_cons, List.all_nil, rroutesAt, hd, h5', Bool.and_self]⟩
          · skip
            have hv : v = c.domains.l.length := by have := of_decide_eq_false h4; omega
            rw [hv] at hal3
            refine exitR 4 (by kernel_rfl) (by kernel_rfl) ?_
            refine thenX ?_
            refine thenX ?_
            refine leaveR ?_
            refine seqR (by kernel_rfl) ?_
            refine regionR 1 (by kernel_rfl) (by kernel_rfl) ?_
            refine (run0 (z := 0) 1 [2] [(2, .int .i64 0)] (fun _ => by kernel_rfl) (endR ?_) : RT _ _ _ _ _ _ 1 _)
            refine retR (by kernel_rfl) ?_
            refine done0 (.int .i64 0) (fun _ => by kernel_rfl) (fun w hs => ?_) .ret (.inr rfl)
            exact ⟨(), by rw [rErr, if_neg hb1, if_neg hl1, if_neg hs1, if_neg hq1, if_neg (by rw [hal3]; simp)], hs.tail⟩
      | false =>
        refine condR (b := true) (by kernel_rfl) (fun _ => by kernel_rfl) (fun _ => ?_) (fun h => by cases h)
        refine seqR (by kernel_rfl) ?_
        refine regionR 1 (by kernel_rfl) (by kernel_rfl) ?_
        refine (run0 (z := 0) 1 [1, 2, 3] [(1, .pointer (some ⟨b1, 0, none⟩)), (2, .int .i64 18), (3, .int .i64 (c.domains.l.length : Int))] (fun _ => by kernel_rfl) (endR ?_) : RT _ _ _ _ _ _ 1 _)
        refine retR (by kernel_rfl) ?_
        refine thenV ?_
        refine done0 (.int .i64 18) (fun _ => by kernel_rfl) (fun w hs => ?_) .ret (.inr rfl)
        exact ⟨(), by rw [rErr, if_neg hb1, if_neg hl1, if_pos hsh], hs.tail⟩
def rticksOf (c : ConfV) : Int := if rErr c = 0 then IntKind.i64.wrap (c.frame * c.epoch) else 0
set_option maxRecDepth 100000 in
theorem rticks_walk (H : List SP) (c : ConfV) (hk : KC H c) (hsm : SmallC c) : ∀ w, Sat w H → Calls Try.prog 14 #[.agg #[.int .i64 c.frame, .int .i64 c.epoch, .slice c.plans.a c.plans.l.length c.plans.c, .slice c.domains.a c.domains.l.length c.domains.c]] w (Ret (ι := Unit) (fun _ => .int .i64 (rticksOf c)) fun _ => H) := by
  refine enterG (fn := Try.f14) 11 [.agg #[.int .i64 c.frame, .int .i64 c.epoch, .slice c.plans.a c.plans.l.length c.plans.c, .slice c.domains.a c.domains.l.length c.domains.c]] Try.func14 (by kernel_rfl) (by kernel_rfl) (by kernel_rfl) ?_
  refine seqR (by kernel_rfl) ?_
  refine regionR 2 (by kernel_rfl) (by kernel_rfl) ?_
  refine (stepR (z := 1) (newS 25 [.int .i64 c.frame, .int .i64 c.epoch, .slice c.plans.a c.plans.l.length c.plans.c, .slice c.domains.a c.domains.l.length c.domains.c] (some 1) (fun b => .pointer (some ⟨b, 0, none⟩)) (fun _ _ => by kernel_rfl)) (fun b1 => ?_) : RT _ _ _ _ _ _ 2 _)
  refine (run0 (z := 0) 1 [1, 2] [(1, .pointer (some ⟨b1, 0, none⟩)), (2, .int .i64 0)] (fun _ => by kernel_rfl) (endR ?_) : RT _ _ _ _ _ _ 1 _)
  refine seqR (by kernel_rfl) ?_
  refine seqR (by kernel_rfl) ?_
  refine regionR 3 (by kernel_rfl) (by kernel_rfl) ?_
  refine (runR (H := (blk b1 25 [.int .i64 c.frame, .int .i64 c.epoch, .slice c.plans.a c.plans.l.length c.plans.c, .slice c.domains.a c.domains.l.length c.domains.c] :: H)) (z := 2) 1 [1, 2, 3] [(1, .pointer (some ⟨b1, 0, none⟩)), (2, .int .i64 0), (3, .agg #[.int .i64 c.frame, .int .i64 c.epoch, .slice c.plans.a c.plans.l.length c.plans.c, .slice c.domains.a c.domains.l.length c.domains.c])] [(⟨b1, 0, none⟩, .int .i64 c.frame), (⟨b1, 1, none⟩, .int .i64 c.epoch), (⟨b1, 2, none⟩, .slice c.plans.a c.plans.l.length c.plans.c), (⟨b1, 3, none⟩, .slice c.domains.a c.domains.l.length c.domains.c)] (hasC (blkAt (T := 25) (cs := [.int .i64 c.frame, .int .i64 c.epoch, .slice c.plans.a c.plans.l.length c.plans.c, .slice c.domains.a c.domains.l.length c.domains.c]) 0 rfl rfl) (hasC (blkAt (T := 25) (cs := [.int .i64 c.frame, .int .i64 c.epoch, .slice c.plans.a c.plans.l.length c.plans.c, .slice c.domains.a c.domains.l.length c.domains.c]) 0 rfl rfl) (hasC (blkAt (T := 25) (cs := [.int .i64 c.frame, .int .i64 c.epoch, .slice c.plans.a c.plans.l.length c.plans.c, .slice c.domains.a c.domains.l.length c.domains.c]) 0 rfl rfl) (hasC (blkAt (T := 25) (cs := [.int .i64 c.frame, .int .i64 c.epoch, .slice c.plans.a c.plans.l.length c.plans.c, .slice c.domains.a c.domains.l.length c.domains.c]) 0 rfl rfl) has0)))) (fun _ => by kernel_rfl) ?_ : RT _ _ _ _ _ _ 3 _)
  refine (stepR (z := 1) (callS 18 [.agg #[.int .i64 c.frame, .int .i64 c.epoch, .slice c.plans.a c.plans.l.length c.plans.c, .slice c.domains.a c.domains.l.length c.domains.c]] (some 4) (fun _ => .int .i64 (rErr c)) (fun _ => (blk b1 25 [.int .i64 c.frame, .int .i64 c.epoch, .slice c.plans.a c.plans.l.length c.plans.c, .slice c.domains.a c.domains.l.length c.domains.c] :: H)) (fun _ => by kernel_rfl) (risConf_walk _ c hk.up hsm)) (fun _ => ?_) : RT _ _ _ _ _ _ 2 _)
  refine (run0 (z := 0) 1 [1, 2, 5] [(1, .pointer (some ⟨b1, 0, none⟩)), (2, .int .i64 0), (5, .bool ((rErr c) != 0))] (fun _ => by kernel_rfl) (endR ?_) : RT _ _ _ _ _ _ 1 _)
  refine condR (b := (rErr c) != 0) (by kernel_rfl) (fun _ => by kernel_rfl) (fun hb => ?_) (fun hb => ?_)
  · skip
    refine seqR (by kernel_rfl) ?_
    refine regionR 1 (by kernel_rfl) (by kernel_rfl) ?_
    refine (run0 (z := 0) 1 [1, 2] [(1, .pointer (some ⟨b1, 0, none⟩)), (2, .int .i64 0)] (fun _ => by kernel_rfl) (endR ?_) : RT _ _ _ _ _ _ 1 _)
    refine retR (by kernel_rfl) ?_
    refine thenV ?_
    refine done0 (.int .i64 0) (fun _ => by kernel_rfl) (fun w hs => ?_) .ret (.inr rfl)
    exact ⟨(), by rw [rticksOf, if_neg (by simpa using hb)], hs.tail⟩
  · skip
    refine skipR (by kernel_rfl) ?_
    refine seqR (by kernel_rfl) ?_
    refine regionR 6 (by kernel_rfl) (by kernel_rfl) ?_
    refine (runR (H := (blk b1 25 [.int .i64 c.frame, .int .i64 c.epoch, .slice c.plans.a c.plans.l.length c.plans.c, .slice c.domains.a c.domains.l.length c.domains.c] :: H)) (z := 0) 6 [2] [(2, .int .i64 (IntKind.i64.wrap (c.frame * c.epoch)))] [(⟨b1, 0, none⟩, .int .i64 c.frame), (⟨b1, 1, none⟩, .int .i64 c.epoch)] (hasC (blkAt (T := 25) (cs := [.int .i64 c.frame, .int .i64 c.epoch, .slice c.plans.a c.plans.l.length c.plans.c, .slice c.domains.a c.domains.l.length c.domains.c]) 0 rfl rfl) (hasC (blkAt (T := 25) (cs := [.int .i64 c.frame, .int .i64 c.epoch, .slice c.plans.a c.plans.l.length c.plans.c, .slice c.domains.a c.domains.l.length c.domains.c]) 0 rfl rfl) has0)) (fun _ => by kernel_rfl) (endR ?_) : RT _ _ _ _ _ _ 6 _)
    refine retR (by kernel_rfl) ?_
    refine done0 (.int .i64 (IntKind.i64.wrap (c.frame * c.epoch))) (fun _ => by kernel_rfl) (fun w hs => ?_) .ret (.inr rfl)
    exact ⟨(), by rw [rticksOf, if_pos (by simpa using hb)], hs.tail⟩
end Go.Proofs.Ytjjbnmlhbbnhcaa
