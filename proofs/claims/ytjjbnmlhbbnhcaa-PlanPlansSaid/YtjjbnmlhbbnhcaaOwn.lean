/- plan.Owners: its walk. Conditions: none. -/
import Derived.Test.YtjjbnmlhbbnhcaaSlg
import Derived.Test.YtjjbnmlhbbnhcaaSh2
import Derived.Test.YtjjbnmlhbbnhcaaCf6
set_option linter.unusedVariables false
set_option linter.unusedSimpArgs false
namespace Go.Proofs.Ytjjbnmlhbbnhcaa
open Go.RowKit G
def ownersOf (c : ConfV) (i : Int) : List Int := if confErr c = 0 ∧ 0 ≤ i ∧ i < c.plans.l.length then slotsOf (countsOf c.frame ((c.plans.l[i.toNat]?).map SV.l |>.getD [])) else []
theorem countsOf_len (frame : Int) (l : List Int) : (countsOf frame l).length ≤ l.length := by
  have hst : ∀ (n : Nat) (p : List (Int × Int)), (stpN p n).length = p.length := by
    intro n p
    induction n with
    | zero => rfl
    | succ n ih => unfold stpN stp; rw [List.length_set, ih]
  unfold countsOf
  split
  · simp
  · rw [List.length_map, hst]; simp [partsOf]
set_option maxRecDepth 100000 in
theorem owners_walk (H : List SP) (c : ConfV) (i : Int) (hk : KC H c) (hsm : SmallC c) : ∀ w, Sat w H → Calls Try.prog 10 #[.agg #[.int .i64 c.frame, .int .i64 c.epoch, .slice c.plans.a c.plans.l.length c.plans.c, .slice c.domains.a c.domains.l.length c.domains.c], .int .i64 i] w (Ret (ι := Option Addr × Nat) (fun p => .slice p.1 (ownersOf c i).length p.2) fun p => row (kE .i64) 3 (.slice p.1 (ownersOf c i).length p.2) (ownersOf c i) :: H) := by
  refine enterG (fn := Try.f10) 28 [.agg #[.int .i64 c.frame, .int .i64 c.epoch, .slice c.plans.a c.plans.l.length c.plans.c, .slice c.domains.a c.domains.l.length c.domains.c], .int .i64 i] Try.func10 (by kernel_rfl) (by kernel_rfl) (by kernel_rfl) ?_
  refine seqR (by kernel_rfl) ?_
  refine regionR 2 (by kernel_rfl) (by kernel_rfl) ?_
  refine (stepR (z := 1) (newS 25 [.int .i64 c.frame, .int .i64 c.epoch, .slice c.plans.a c.plans.l.length c.plans.c, .slice c.domains.a c.domains.l.length c.domains.c] (some 2) (fun b => .pointer (some ⟨b, 0, none⟩)) (fun _ _ => by kernel_rfl)) (fun b1 => ?_) : RT _ _ _ _ _ _ 2 _)
  refine (run0 (z := 0) 1 [2, 1, 4] [(2, .pointer (some ⟨b1, 0, none⟩)), (1, .int .i64 i), (4, .slice none 0 0)] (fun _ => by kernel_rfl) (endR ?_) : RT _ _ _ _ _ _ 1 _)
  refine seqR (by kernel_rfl) ?_
  refine seqR (by kernel_rfl) ?_
  refine regionR 14 (by kernel_rfl) (by kernel_rfl) ?_
  refine (runR (H := (blk b1 25 [.int .i64 c.frame, .int .i64 c.epoch, .slice c.plans.a c.plans.l.length c.plans.c, .slice c.domains.a c.domains.l.length c.domains.c] :: H)) (z := 13) 1 [2, 1, 4, 5] [(2, .pointer (some ⟨b1, 0, none⟩)), (1, .int .i64 i), (4, .slice none 0 0), (5, .agg #[.int .i64 c.frame, .int .i64 c.epoch, .slice c.plans.a c.plans.l.length c.plans.c, .slice c.domains.a c.domains.l.length c.domains.c])] [(⟨b1, 0, none⟩, .int .i64 c.frame), (⟨b1, 1, none⟩, .int .i64 c.epoch), (⟨b1, 2, none⟩, .slice c.plans.a c.plans.l.length c.plans.c), (⟨b1, 3, none⟩, .slice c.domains.a c.domains.l.length c.domains.c)] (hasC (blkAt (T := 25) (cs := [.int .i64 c.frame, .int .i64 c.epoch, .slice c.plans.a c.plans.l.length c.plans.c, .slice c.domains.a c.domains.l.length c.domains.c]) 0 rfl rfl) (hasC (blkAt (T := 25) (cs := [.int .i64 c.frame, .int .i64 c.epoch, .slice c.plans.a c.plans.l.length c.plans.c, .slice c.domains.a c.domains.l.length c.domains.c]) 0 rfl rfl) (hasC (blkAt (T := 25) (cs := [.int .i64 c.frame, .int .i64 c.epoch, .slice c.plans.a c.plans.l.length c.plans.c, .slice c.domains.a c.domains.l.length c.domains.c]) 0 rfl rfl) (hasC (blkAt (T := 25) (cs := [.int .i64 c.frame, .int .i64 c.epoch, .slice c.plans.a c.plans.l.length c.plans.c, .slice c.domains.a c.domains.l.length c.domains.c]) 0 rfl rfl) has0)))) (fun _ => by kernel_rfl) ?_ : RT _ _ _ _ _ _ 14 _)
  refine (stepR (z := 12) (callS 21 [.agg #[.int .i64 c.frame, .int .i64 c.epoch, .slice c.plans.a c.plans.l.length c.plans.c, .slice c.domains.a c.domains.l.length c.domains.c]] (some 6) (fun _ => errV (confErr c)) (fun _ => (blk b1 25 [.int .i64 c.frame, .int .i64 c.epoch, .slice c.plans.a c.plans.l.length c.plans.c, .slice c.domains.a c.domains.l.length c.domains.c] :: H)) (fun _ => by kernel_rfl) (is_walk _ c hk.up hsm)) (fun _ => ?_) : RT _ _ _ _ _ _ 13 _)
  rcases errV_cases (confErr c) with ⟨he, hv⟩ | ⟨he, hv⟩
  · rw [hv]
    refine (run0 (z := 6) 6 [2, 1, 4, 12] [(2, .pointer (some ⟨b1, 0, none⟩)), (1, .int .i64 i), (4, .slice none 0 0), (12, .bool (decide (i < 0)))] (fun _ => by kernel_rfl) ?_ : RT _ _ _ _ _ _ 12 _)
    refine (segR (ι := Unit) (z := 0) 6 (fun _ => [(2, .pointer (some ⟨b1, 0, none⟩)), (1, .int .i64 i), (4, .slice none 0 0), (18, .bool ((decide (i < 0)) || (decide (i ≥ (c.plans.l.length : Int)))))]) (fun _ => (blk b1 25 [.int .i64 c.frame, .int .i64 c.epoch, .slice c.plans.a c.plans.l.length c.plans.c, .slice c.domains.a c.domains.l.length c.domains.c] :: H)) ?_ (fun _ => ?_) : RT _ _ _ _ _ _ 6 _)
    · cases hg8 : (decide (i < 0)) with
      | true =>
        refine (run0 (z := 0) 6 [2, 1, 4, 18] [(2, .pointer (some ⟨b1, 0, none⟩)), (1, .int .i64 i), (4, .slice none 0 0), (18, .bool true)] (fun _ => by kernel_rfl) (endR ?_) : RT _ _ _ _ _ _ 6 _)
        refine PT.keep (L' := [(2, .pointer (some ⟨b1, 0, none⟩)), (1, .int .i64 i), (4, .slice none 0 0), (18, .bool (true || (decide (i ≥ (c.plans.l.length : Int)))))]) [2, 1, 4, 18] rfl ?_
        exact midR () rfl rfl
      | false =>
        refine (runR (H := (blk b1 25 [.int .i64 c.frame, .int .i64 c.epoch, .slice c.plans.a c.plans.l.length c.plans.c, .slice c.domains.a c.domains.l.length c.domains.c] :: H)) (z := 0) 6 [2, 1, 4, 18] [(2, .pointer (some ⟨b1, 0, none⟩)), (1, .int .i64 i), (4, .slice none 0 0), (18, .bool (decide (i ≥ (c.plans.l.length : Int))))] [(⟨b1, 2, none⟩, .slice c.plans.a c.plans.l.length c.plans.c)] (hasC (blkAt (T := 25) (cs := [.int .i64 c.frame, .int .i64 c.epoch, .slice c.plans.a c.plans.l.length c.plans.c, .slice c.domains.a c.domains.l.length c.domains.c]) 0 rfl rfl) has0) (fun _ => by kernel_rfl) (endR ?_) : RT _ _ _ _ _ _ 6 _)
        refine PT.keep (L' := [(2, .pointer (some ⟨b1, 0, none⟩)), (1, .int .i64 i), (4, .slice none 0 0), (18, .bool (false || (decide (i ≥ (c.plans.l.length : Int)))))]) [2, 1, 4, 18] rfl ?_
        exact midR () rfl rfl
    refine endR ?_
    refine condR (b := (decide (i < 0)) || (decide (i ≥ (c.plans.l.length : Int)))) (by kernel_rfl) (fun _ => by kernel_rfl) (fun hb => ?_) (fun hb => ?_)
    · skip
      refine seqR (by kernel_rfl) ?_
      refine regionR 1 (by kernel_rfl) (by kernel_rfl) ?_
      refine (run0 (z := 0) 1 [2, 1, 4] [(2, .pointer (some ⟨b1, 0, none⟩)), (1, .int .i64 i), (4, .slice none 0 0)] (fun _ => by kernel_rfl) (endR ?_) : RT _ _ _ _ _ _ 1 _)
      refine retR (by kernel_rfl) ?_
      refine thenV ?_
      refine PT.rowNil (kE .i64) 3 ?_
      have h0 : ownersOf c i = [] := by rw [ownersOf, if_neg]; simp only [Bool.or_eq_true, decide_eq_true_eq] at hb; omega
      refine done0 (.slice none 0 0) (fun _ => by kernel_rfl) (fun w hs => ?_) .ret (.inr rfl)
      rw [h0]; exact ⟨(none, 0), rfl, (hs.pick 1 rfl).tail⟩
    · skip
      have hb2 := hb
      simp only [Bool.or_eq_false_iff, decide_eq_false_iff_not] at hb2
      obtain ⟨m, hm⟩ : ∃ m : Nat, i = (m : Int) := ⟨i.toNat, by omega⟩
      subst hm
      have hmn : m < c.plans.l.length := by omega
      obtain ⟨p, hp⟩ : ∃ p, c.plans.l[m]? = some p := ⟨_, by simp [hmn]; rfl⟩
      have hpm : p ∈ c.plans.l := List.mem_of_getElem? hp
      have hpl := hsm.plan p hpm
      have h0 : ownersOf c (m : Int) = slotsOf (countsOf c.frame p.l) := by rw [ownersOf, if_pos ⟨he, by omega, by omega⟩, Int.toNat_natCast, hp]; rfl
      refine PT.know ((hk.plans).up.isSome (List.ne_nil_of_length_pos (by omega))) ?_
      rintro ⟨sb, so, hA⟩
      try rw [hA]
      refine skipR (by kernel_rfl) ?_
      refine seqR (by kernel_rfl) ?_
      refine drawR (fun w => Sat w (blk b1 25 [.int .i64 c.frame, .int .i64 c.epoch, .slice (some ⟨sb, so, none⟩) c.plans.l.length c.plans.c, .slice c.domains.a c.domains.l.length c.domains.c] :: H)) [] 10 (by kernel_rfl) (by kernel_rfl) (by kernel_rfl) (fun _ h => by first | exact h | exact h.tail | exact h.tail.tail | exact h.tail.tail.tail | exact h.tail.tail.tail.tail) ?_
      refine takesR [0, 1, 2, 3, 4] [4, 20, 22, 23] 5 [true, true, true, true, true, false, false, false, false, false] [(4, .slice none 0 0), (20, .int .i64 c.frame), (22, .slice (some ⟨sb, so, none⟩) c.plans.l.length c.plans.c), (23, .int .i64 (m : Int))] [(⟨b1, 0, none⟩, .int .i64 c.frame), (⟨b1, 2, none⟩, .slice (some ⟨sb, so, none⟩) c.plans.l.length c.plans.c)] rfl (fun _ d _ _ _ h => by cases d <;> exact h) (fun _ h => by first | exact h | exact h.tail | exact h.tail.tail | exact h.tail.tail.tail | exact h.tail.tail.tail.tail) (hasC (blkAt (T := 25) (cs := [.int .i64 c.frame, .int .i64 c.epoch, .slice (some ⟨sb, so, none⟩) c.plans.l.length c.plans.c, .slice c.domains.a c.domains.l.length c.domains.c]) 0 rfl rfl) (hasC (blkAt (T := 25) (cs := [.int .i64 c.frame, .int .i64 c.epoch, .slice (some ⟨sb, so, none⟩) c.plans.l.length c.plans.c, .slice c.domains.a c.domains.l.length c.domains.c]) 0 rfl rfl) has0)) (fun _ => by kernel_rfl) ?_
      refine takeR1 5 4 [true, true, true, true, true, true, false, false, false, false] rfl rfl (by kernel_rfl) (fun _ d _ _ _ h => by cases d <;> exact h) (fun _ h => by first | exact h | exact h.tail | exact h.tail.tail | exact h.tail.tail.tail | exact h.tail.tail.tail.tail) (idxY 22 (.tmp 22) (.tmp 23) sb so c.plans.l.length c.plans.c m 1 26 (m : Int) .i64 (some 24) (fun _ => by kernel_rfl) (by kernel_rfl) (by kernel_rfl) (fun _ => by kernel_rfl) (fun _ => by kernel_rfl) Try.underlying22 (by kernel_rfl) (by first | rfl | assumption | simp) (by first | omega | (simp; done) | (simp; omega) | (simp at *; omega))) ?_
      refine takesR [6] [4, 20, 25] 3 [true, true, true, true, true, true, true, false, false, false] [(4, .slice none 0 0), (20, .int .i64 c.frame), (25, .slice p.a p.l.length p.c)] [(⟨sb, so + m * 1, none⟩, .slice p.a p.l.length p.c)] rfl (fun _ d _ _ _ h => by cases d <;> exact h) (fun _ h => by first | exact h | exact h.tail | exact h.tail.tail | exact h.tail.tail.tail | exact h.tail.tail.tail.tail) (hasC (up (hk.plans.cell hA (i := m) (x := p) hp (j := 0) rfl)) has0) (fun _ => by kernel_rfl) ?_
      refine oneR 7 2 [true, true, true, true, true, true, true, true, false, false] rfl rfl (by kernel_rfl) (callS 23 [.int .i64 c.frame, .slice p.a p.l.length p.c] (some 26) (fun (r : Option Addr × Nat) => .slice r.1 (countsOf c.frame p.l).length r.2) (fun (r : Option Addr × Nat) => (row (kE .i64) 3 (.slice r.1 (countsOf c.frame p.l).length r.2) (countsOf c.frame p.l) :: blk b1 25 [.int .i64 c.frame, .int .i64 c.epoch, .slice (some ⟨sb, so, none⟩) c.plans.l.length c.plans.c, .slice c.domains.a c.domains.l.length c.domains.c] :: H)) (fun _ => by kernel_rfl) (counts_walk _ c.frame p ((hk.plan p hpm).up))) (fun _ _ h _ => by first | exact h | exact h.tail | exact h.tail.tail | exact h.tail.tail.tail | exact h.tail.tail.tail.tail) (fun (r : Option Addr × Nat) => ?_)
      have hcl := countsOf_len c.frame p.l
      refine oneR 8 1 [true, true, true, true, true, true, true, true, true, false] rfl rfl (by kernel_rfl) (callS 22 [.slice r.1 ((countsOf c.frame p.l).length) r.2] (some 27) (fun (q : Option Addr × Nat) => .slice q.1 (slotsOf (countsOf c.frame p.l)).length q.2) (fun (q : Option Addr × Nat) => (row (kE .i64) 3 (.slice q.1 (slotsOf (countsOf c.frame p.l)).length q.2) (slotsOf (countsOf c.frame p.l)) :: row (kE .i64) 3 (.slice r.1 (countsOf c.frame p.l).length r.2) (countsOf c.frame p.l) :: blk b1 25 [.int .i64 c.frame, .int .i64 c.epoch, .slice (some ⟨sb, so, none⟩) c.plans.l.length c.plans.c, .slice c.domains.a c.domains.l.length c.domains.c] :: H)) (fun _ => by kernel_rfl) (slots_walk (row (kE .i64) 3 (.slice r.1 (countsOf c.frame p.l).length r.2) (countsOf c.frame p.l) :: blk b1 25 [.int .i64 c.frame, .int .i64 c.epoch, .slice (some ⟨sb, so, none⟩) c.plans.l.length c.plans.c, .slice c.domains.a c.domains.l.length c.domains.c] :: H) ⟨r.1, r.2, countsOf c.frame p.l⟩ rowKR (by show (countsOf c.frame p.l).length ≤ _; omega))) (fun _ _ h _ => by first | exact h | exact h.tail | exact h.tail.tail | exact h.tail.tail.tail | exact h.tail.tail.tail.tail) (fun (q : Option Addr × Nat) => ?_)
      refine takesR [9] [4] 0 [true, true, true, true, true, true, true, true, true, true] [(4, .slice q.1 ((slotsOf (countsOf c.frame p.l)).length) q.2)] [] rfl (fun _ d _ _ _ h => by cases d <;> exact h) (fun _ h => by first | exact h | exact h.tail | exact h.tail.tail | exact h.tail.tail.tail | exact h.tail.tail.tail.tail) has0 (fun _ => by kernel_rfl) ?_
      refine drawnR (by kernel_rfl) ?_
      refine retR (by kernel_rfl) ?_
      refine done0 (.slice q.1 ((slotsOf (countsOf c.frame p.l)).length) q.2) (fun _ => by kernel_rfl) (fun w hs => ?_) .ret (.inr rfl)
      rw [h0]; exact ⟨q, rfl, (((hs.pick 1 rfl).tail).pick 1 rfl).tail⟩
  · rw [hv]
    refine (run0 (z := 0) 12 [2, 1, 4, 18] [(2, .pointer (some ⟨b1, 0, none⟩)), (1, .int .i64 i), (4, .slice none 0 0), (18, .bool true)] (fun _ => by kernel_rfl) (endR ?_) : RT _ _ _ _ _ _ 12 _)
    refine condR (b := true) (by kernel_rfl) (fun _ => by kernel_rfl) (fun _ => ?_) (fun h => by cases h)
    refine seqR (by kernel_rfl) ?_
    refine regionR 1 (by kernel_rfl) (by kernel_rfl) ?_
    refine (run0 (z := 0) 1 [2, 1, 4] [(2, .pointer (some ⟨b1, 0, none⟩)), (1, .int .i64 i), (4, .slice none 0 0)] (fun _ => by kernel_rfl) (endR ?_) : RT _ _ _ _ _ _ 1 _)
    refine retR (by kernel_rfl) ?_
    refine thenV ?_
    refine PT.rowNil (kE .i64) 3 ?_
    have h0 : ownersOf c i = [] := by rw [ownersOf, if_neg (fun h => he h.1)]
    refine done0 (.slice none 0 0) (fun _ => by kernel_rfl) (fun w hs => ?_) .ret (.inr rfl)
    rw [h0]; exact ⟨(none, 0), rfl, (hs.pick 1 rfl).tail⟩
end Go.Proofs.Ytjjbnmlhbbnhcaa
