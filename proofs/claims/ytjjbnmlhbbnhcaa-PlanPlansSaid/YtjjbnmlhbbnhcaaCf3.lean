/- conf.rises: its walk. Conditions: none. -/
import Derived.Test.YtjjbnmlhbbnhcaaCf2
set_option linter.unusedVariables false
set_option linter.unusedSimpArgs false
namespace Go.Proofs.Ytjjbnmlhbbnhcaa
open Go.RowKit G
def labAt (c : ConfV) (j : Int) : LabV := ((c.domains.l[j.toNat]?).map DomV.lab).getD ⟨0, 0⟩
/-- A domain's label, and those of a route behind it. -/
def lbs (c : ConfV) (d : DomV) (r : List Int) : List LabV := d.lab :: r.map (labAt c)
def isDom (c : ConfV) (j : Int) : Bool := inb j 0 (IntKind.i64.wrap ((c.domains.l.length : Int) - 1))
def risesOk (c : ConfV) (d : DomV) (r : List Int) : Bool := r.all (isDom c) && (decide ((r.length : Int) > 0) && chainOk (lbs c d r))
theorem labE_ety : Ety Try.prog labE 44 (.agg #[.int .i64 0, .int .u64 0]) := G.Ety.of (b := 16) (by kernel_rfl) (by decide) (by kernel_rfl)
set_option maxRecDepth 100000 in
theorem rises_walk (H : List SP) (c : ConfV) (d : DomV) (r : SV Int) (hk : KC H c) (hr : KR H (kE .i64) r) (hn : 0 < c.domains.l.length) (hl : c.domains.l.length < 9223372036854775800) (hrl : r.l.length < 1000000) : ∀ w, Sat w H → Calls Try.prog 50 #[.agg #[.int .i64 c.frame, .int .i64 c.epoch, .slice c.plans.a c.plans.l.length c.plans.c, .slice c.domains.a c.domains.l.length c.domains.c], .agg #[.int .i64 d.lab.level, .int .u64 d.lab.cats, .slice d.routes.a d.routes.l.length d.routes.c, .slice d.release.a d.release.l.length d.release.c, .int .i64 d.to, .int .i64 d.threads, .int .i64 d.groups, .int .i64 d.ring, .int .i64 d.sends, .int .i64 d.box], .slice r.a r.l.length r.c] w (Ret (ι := Unit) (fun _ => .bool (risesOk c d r.l)) fun _ => H) := by
  refine enterG (fn := Try.f50) 46 [.agg #[.int .i64 c.frame, .int .i64 c.epoch, .slice c.plans.a c.plans.l.length c.plans.c, .slice c.domains.a c.domains.l.length c.domains.c], .agg #[.int .i64 d.lab.level, .int .u64 d.lab.cats, .slice d.routes.a d.routes.l.length d.routes.c, .slice d.release.a d.release.l.length d.release.c, .int .i64 d.to, .int .i64 d.threads, .int .i64 d.groups, .int .i64 d.ring, .int .i64 d.sends, .int .i64 d.box], .slice r.a r.l.length r.c] Try.func50 (by kernel_rfl) (by kernel_rfl) (by kernel_rfl) ?_
  refine seqR (by kernel_rfl) ?_
  refine regionR 3 (by kernel_rfl) (by kernel_rfl) ?_
  refine (stepR (z := 2) (newS 25 [.int .i64 c.frame, .int .i64 c.epoch, .slice c.plans.a c.plans.l.length c.plans.c, .slice c.domains.a c.domains.l.length c.domains.c] (some 3) (fun b => .pointer (some ⟨b, 0, none⟩)) (fun _ _ => by kernel_rfl)) (fun b1 => ?_) : RT _ _ _ _ _ _ 3 _)
  refine (stepR (z := 1) (newS 46 [.int .i64 d.lab.level, .int .u64 d.lab.cats, .slice d.routes.a d.routes.l.length d.routes.c, .slice d.release.a d.release.l.length d.release.c, .int .i64 d.to, .int .i64 d.threads, .int .i64 d.groups, .int .i64 d.ring, .int .i64 d.sends, .int .i64 d.box] (some 4) (fun b => .pointer (some ⟨b, 0, none⟩)) (fun _ _ => by kernel_rfl)) (fun b2 => ?_) : RT _ _ _ _ _ _ 2 _)
  refine (run0 (z := 0) 1 [4, 3, 2, 6] [(4, .pointer (some ⟨b2, 0, none⟩)), (3, .pointer (some ⟨b1, 0, none⟩)), (2, .slice r.a r.l.length r.c), (6, .bool false)] (fun _ => by kernel_rfl) (endR ?_) : RT _ _ _ _ _ _ 1 _)
  refine scopeG 0 (fun (x : (Option Addr × Nat) × Nat) => [(2, .slice r.a r.l.length r.c), (3, .pointer (some ⟨b1, 0, none⟩)), (6, .bool false), (7, .slice x.1.1 ((lbs c d (r.l.take x.2)).length) x.1.2), (8, .int .i64 (x.2 : Int))]) (fun (x : (Option Addr × Nat) × Nat) => (row labE 44 (.slice x.1.1 (lbs c d (r.l.take x.2)).length x.1.2) (lbs c d (r.l.take x.2)) :: blk b1 25 [.int .i64 c.frame, .int .i64 c.epoch, .slice c.plans.a c.plans.l.length c.plans.c, .slice c.domains.a c.domains.l.length c.domains.c] :: H)) (fun k (x : (Option Addr × Nat) × Nat) => k + x.2 = r.l.length ∧ (r.l.take x.2).all (isDom c) = true) (by kernel_rfl) (by kernel_rfl) (by kernel_rfl) (by kernel_rfl) ?_ ?_
  · skip
    rintro k ⟨⟨A, cap⟩, i⟩ ⟨hki, hall⟩ K hK
    dsimp only at hki hall ⊢
    have hw : IntKind.i64.wrap ((i : Int) + 1) = ((i + 1 : Nat) : Int) := by rw [IntKind.wrap_i64]; omega
    refine seqR (by kernel_rfl) ?_
    refine seqR (by kernel_rfl) ?_
    refine regionR 4 (by kernel_rfl) (by kernel_rfl) ?_
    refine (run0 (z := 0) 4 [2, 3, 6, 7, 8, 15] [(2, .slice r.a r.l.length r.c), (3, .pointer (some ⟨b1, 0, none⟩)), (6, .bool false), (7, .slice A ((lbs c d (r.l.take i)).length) cap), (8, .int .i64 (i : Int)), (15, .bool ((i : Int) == (r.l.length : Int)))] (fun _ => by kernel_rfl) (endR ?_) : RT _ _ _ _ _ _ 4 _)
    refine condR (b := (i : Int) == (r.l.length : Int)) (by kernel_rfl) (fun _ => by kernel_rfl) (fun h => ?_) (fun h => ?_)
    · skip
      have hi : i = r.l.length := by have := of_decide_eq_true h; omega
      subst hi
      rw [List.take_length] at hall ⊢
      refine PT.know (rowKR.le) ?_
      rintro ⟨hc, _⟩
      refine seqR (by kernel_rfl) ?_
      refine regionR 7 (by kernel_rfl) (by kernel_rfl) ?_
      refine (run0 (z := 4) 3 [2, 3, 6, 7, 8, 18] [(2, .slice r.a r.l.length r.c), (3, .pointer (some ⟨b1, 0, none⟩)), (6, .bool false), (7, .slice A ((lbs c d (r.l)).length) cap), (8, .int .i64 ((r.l.length) : Int)), (18, .bool (decide (((r.l.length) : Int) > 0)))] (fun _ => by kernel_rfl) ?_ : RT _ _ _ _ _ _ 7 _)
      refine (segR (ι := Unit) (z := 1) 3 (fun _ => [(2, .slice r.a r.l.length r.c), (3, .pointer (some ⟨b1, 0, none⟩)), (6, .bool false), (7, .slice A ((lbs c d (r.l)).length) cap), (8, .int .i64 ((r.l.length) : Int)), (21, .bool ((decide (((r.l.length) : Int) > 0)) && (chainOk (lbs c d r.l))))]) (fun _ => (row labE 44 (.slice A (lbs c d (r.l)).length cap) (lbs c d (r.l)) :: blk b1 25 [.int .i64 c.frame, .int .i64 c.epoch, .slice c.plans.a c.plans.l.length c.plans.c, .slice c.domains.a c.domains.l.length c.domains.c] :: H)) ?_ (fun _ => ?_) : RT _ _ _ _ _ _ 4 _)
      · cases hg3 : (decide (((r.l.length) : Int) > 0)) with
        | true =>
          refine (run0 (z := 2) 1 [2, 3, 6, 7, 8, 18, 19] [(2, .slice r.a r.l.length r.c), (3, .pointer (some ⟨b1, 0, none⟩)), (6, .bool false), (7, .slice A ((lbs c d (r.l)).length) cap), (8, .int .i64 ((r.l.length) : Int)), (18, .bool true), (19, .slice A ((lbs c d (r.l)).length) cap)] (fun _ => by kernel_rfl) ?_ : RT _ _ _ _ _ _ 3 _)
          have hrk := rowKR (E := labE) (T := 44) (A := A) (k := cap) (xs := lbs c d r.l) (H := blk b1 25 [.int .i64 c.frame, .int .i64 c.epoch, .slice c.plans.a c.plans.l.length c.plans.c, .slice c.domains.a c.domains.l.length c.domains.c] :: H)
          refine (stepR (z := 1) (callS 55 [.slice A ((lbs c d (r.l)).length) cap] (some 20) (fun _ => .bool (chainOk (lbs c d r.l))) (fun _ => (row labE 44 (.slice A (lbs c d (r.l)).length cap) (lbs c d (r.l)) :: blk b1 25 [.int .i64 c.frame, .int .i64 c.epoch, .slice c.plans.a c.plans.l.length c.plans.c, .slice c.domains.a c.domains.l.length c.domains.c] :: H)) (fun _ => by kernel_rfl) (chain_walk (row labE 44 (.slice A (lbs c d (r.l)).length cap) (lbs c d (r.l)) :: blk b1 25 [.int .i64 c.frame, .int .i64 c.epoch, .slice c.plans.a c.plans.l.length c.plans.c, .slice c.domains.a c.domains.l.length c.domains.c] :: H) ⟨A, cap, lbs c d r.l⟩ hrk hc)) (fun _ => ?_) : RT _ _ _ _ _ _ 2 _)
          refine (run0 (z := 0) 1 [2, 3, 6, 7, 8, 21] [(2, .slice r.a r.l.length r.c), (3, .pointer (some ⟨b1, 0, none⟩)), (6, .bool false), (7, .slice A ((lbs c d (r.l)).length) cap), (8, .int .i64 ((r.l.length) : Int)), (21, .bool (chainOk (lbs c d r.l)))] (fun _ => by kernel_rfl) (endR ?_) : RT _ _ _ _ _ _ 1 _)
          refine PT.keep (L' := [(2, .slice r.a r.l.length r.c), (3, .pointer (some ⟨b1, 0, none⟩)), (6, .bool false), (7, .slice A ((lbs c d (r.l)).length) cap), (8, .int .i64 ((r.l.length) : Int)), (21, .bool (true && (chainOk (lbs c d r.l))))]) [2, 3, 6, 7, 8, 21] rfl ?_
          exact midR () rfl rfl
        | false =>
          refine (run0 (z := 0) 3 [2, 3, 6, 7, 8, 21] [(2, .slice r.a r.l.length r.c), (3, .pointer (some ⟨b1, 0, none⟩)), (6, .bool false), (7, .slice A ((lbs c d (r.l)).length) cap), (8, .int .i64 ((r.l.length) : Int)), (21, .bool false)] (fun _ => by kernel_rfl) (endR ?_) : RT _ _ _ _ _ _ 3 _)
          refine PT.keep (L' := [(2, .slice r.a r.l.length r.c), (3, .pointer (some ⟨b1, 0, none⟩)), (6, .bool false), (7, .slice A ((lbs c d (r.l)).length) cap), (8, .int .i64 ((r.l.length) : Int)), (21, .bool (false && (chainOk (lbs c d r.l))))]) [2, 3, 6, 7, 8, 21] rfl ?_
          exact midR () rfl rfl
      refine (run0 (z := 0) 1 [2, 3, 6, 7, 8] [(2, .slice r.a r.l.length r.c), (3, .pointer (some ⟨b1, 0, none⟩)), (6, .bool ((decide (((r.l.length) : Int) > 0)) && (chainOk (lbs c d r.l)))), (7, .slice A ((lbs c d (r.l)).length) cap), (8, .int .i64 ((r.l.length) : Int))] (fun _ => by kernel_rfl) (endR ?_) : RT _ _ _ _ _ _ 1 _)
      refine retR (by kernel_rfl) ?_
      refine thenV ?_
      refine jumpV ?_
      refine done0 (.bool ((decide (((r.l.length) : Int) > 0)) && (chainOk (lbs c d r.l)))) (fun _ => by kernel_rfl) (fun w hs => ?_) .ret (.inr rfl)
      exact ⟨(), by simp only [risesOk, hall, Bool.true_and], hs.tail.tail⟩
    · skip
      have hi : i < r.l.length := by have := of_decide_eq_false h; omega
      obtain ⟨y, hy⟩ : ∃ y, r.l[i]? = some y := ⟨_, by simp [hi]; rfl⟩
      have hym : y ∈ r.l := List.mem_of_getElem? hy
      have ht : r.l.take (i + 1) = r.l.take i ++ [y] := by rw [List.take_add_one, hy]; rfl
      refine PT.know (hr.up.up.isSome (by intro h0; rw [h0] at hi; simp at hi)) ?_
      rintro ⟨sb, so, hA⟩
      rw [hA]
      refine skipR (by kernel_rfl) ?_
      refine seqR (by kernel_rfl) ?_
      refine seqR (by kernel_rfl) ?_
      refine drawR (fun w => Sat w (blk b1 25 [.int .i64 c.frame, .int .i64 c.epoch, .slice c.plans.a c.plans.l.length c.plans.c, .slice c.domains.a c.domains.l.length c.domains.c] :: H)) [] 10 (by kernel_rfl) (by kernel_rfl) (by kernel_rfl) (fun _ h => by first | exact h | exact h.tail | exact h.tail.tail | exact h.tail.tail.tail | exact h.tail.tail.tail.tail) ?_
      refine takesR [0, 1, 4, 5, 6, 7] [2, 3, 6, 7, 8, 22, 23, 29] 4 [true, true, false, false, true, true, true, true, false, false] [(2, .slice (some ⟨sb, so, none⟩) r.l.length r.c), (3, .pointer (some ⟨b1, 0, none⟩)), (6, .bool false), (7, .slice A ((lbs c d (r.l.take i)).length) cap), (8, .int .i64 (i : Int)), (22, .slice (some ⟨sb, so, none⟩) r.l.length r.c), (23, .int .i64 (i : Int)), (29, .int .i64 (IntKind.i64.wrap ((c.domains.l.length : Int) - 1)))] [(⟨b1, 3, none⟩, .slice c.domains.a c.domains.l.length c.domains.c)] rfl (fun _ d _ _ _ h => by cases d <;> exact h) (fun _ h => by first | exact h | exact h.tail | exact h.tail.tail | exact h.tail.tail.tail | exact h.tail.tail.tail.tail) (hasC (blkAt (T := 25) (cs := [.int .i64 c.frame, .int .i64 c.epoch, .slice c.plans.a c.plans.l.length c.plans.c, .slice c.domains.a c.domains.l.length c.domains.c]) 0 rfl rfl) has0) (fun _ => by kernel_rfl) ?_
      refine takeR1 2 3 [true, true, true, false, true, true, true, true, false, false] rfl rfl (by kernel_rfl) (fun _ d _ _ _ h => by cases d <;> exact h) (fun _ h => by first | exact h | exact h.tail | exact h.tail.tail | exact h.tail.tail.tail | exact h.tail.tail.tail.tail) (idxY 26 (.tmp 22) (.tmp 23) sb so r.l.length r.c i 1 3 (i : Int) .i64 (some 24) (fun _ => by kernel_rfl) (by kernel_rfl) (by kernel_rfl) (fun _ => by kernel_rfl) (fun _ => by kernel_rfl) Try.underlying26 (by kernel_rfl) (by first | rfl | assumption | simp) (by first | omega | (simp; done) | (simp; omega) | (simp at *; omega))) ?_
      refine takesR [3] [2, 3, 6, 7, 8, 29, 25] 2 [true, true, true, true, true, true, true, true, false, false] [(2, .slice (some ⟨sb, so, none⟩) r.l.length r.c), (3, .pointer (some ⟨b1, 0, none⟩)), (6, .bool false), (7, .slice A ((lbs c d (r.l.take i)).length) cap), (8, .int .i64 (i : Int)), (29, .int .i64 (IntKind.i64.wrap ((c.domains.l.length : Int) - 1))), (25, .int .i64 y)] [(⟨sb, so + i * 1, none⟩, .int .i64 y)] rfl (fun _ d _ _ _ h => by cases d <;> exact h) (fun _ h => by first | exact h | exact h.tail | exact h.tail.tail | exact h.tail.tail.tail | exact h.tail.tail.tail.tail) (hasC (up (hr.cell hA (i := i) (x := y) hy (j := 0) rfl)) has0) (fun _ => by kernel_rfl) ?_
      refine oneR 8 1 [true, true, true, true, true, true, true, true, true, false] rfl rfl (by kernel_rfl) (callS 46 [.int .i64 y, .int .i64 0, .int .i64 (IntKind.i64.wrap ((c.domains.l.length : Int) - 1))] (some 30) (fun _ => .bool (inb y 0 (IntKind.i64.wrap ((c.domains.l.length : Int) - 1)))) (fun (_ : Unit) => (row labE 44 (.slice A (lbs c d (r.l.take i)).length cap) (lbs c d (r.l.take i)) :: blk b1 25 [.int .i64 c.frame, .int .i64 c.epoch, .slice c.plans.a c.plans.l.length c.plans.c, .slice c.domains.a c.domains.l.length c.domains.c] :: H)) (fun _ => by kernel_rfl) (within_walk _ y 0 (IntKind.i64.wrap ((c.domains.l.length : Int) - 1)))) (fun _ _ h _ => by first | exact h | exact h.tail | exact h.tail.tail | exact h.tail.tail.tail | exact h.tail.tail.tail.tail) (fun _ => ?_)
      refine takesR [9] [2, 3, 6, 7, 8, 31] 0 [true, true, true, true, true, true, true, true, true, true] [(2, .slice (some ⟨sb, so, none⟩) r.l.length r.c), (3, .pointer (some ⟨b1, 0, none⟩)), (6, .bool false), (7, .slice A ((lbs c d (r.l.take i)).length) cap), (8, .int .i64 (i : Int)), (31, .bool (!(inb y 0 (IntKind.i64.wrap ((c.domains.l.length : Int) - 1)))))] [] rfl (fun _ d _ _ _ h => by cases d <;> exact h) (fun _ h => by first | exact h | exact h.tail | exact h.tail.tail | exact h.tail.tail.tail | exact h.tail.tail.tail.tail) has0 (fun _ => by kernel_rfl) ?_
      refine drawnR (by kernel_rfl) ?_
      cases hin : (inb y 0 (IntKind.i64.wrap ((c.domains.l.length : Int) - 1))) with
      | true =>
        have hnw : IntKind.i64.wrap ((c.domains.l.length : Int) - 1) = (c.domains.l.length : Int) - 1 := by rw [IntKind.wrap_i64]; omega
        have hyd : isDom c y = true := hin
        have hin' := hin
        simp only [inb, hnw, Bool.and_eq_true, decide_eq_true_eq] at hin'
        obtain ⟨m, hm⟩ : ∃ m : Nat, y = (m : Int) := ⟨y.toNat, by omega⟩
        subst hm
        have hmn : m < c.domains.l.length := by omega
        obtain ⟨e, he⟩ : ∃ e, c.domains.l[m]? = some e := ⟨_, by simp [hmn]; rfl⟩
        refine PT.know (hk.domains.up.up.isSome (by intro h0; rw [h0] at hn; simp at hn)) ?_
        rintro ⟨db, dd, hB⟩
        rw [hB]
        refine condR (b := false) (by kernel_rfl) (fun _ => by kernel_rfl) (fun h => by cases h) (fun _ => ?_)
        refine skipR (by kernel_rfl) ?_
        refine seqR (by kernel_rfl) ?_
        refine drawR (fun w => Sat w (blk b1 25 [.int .i64 c.frame, .int .i64 c.epoch, .slice c.plans.a c.plans.l.length c.plans.c, .slice (some ⟨db, dd, none⟩) c.domains.l.length c.domains.c] :: H)) [] 13 (by kernel_rfl) (by kernel_rfl) (by kernel_rfl) (fun _ h => by first | exact h | exact h.tail | exact h.tail.tail | exact h.tail.tail.tail | exact h.tail.tail.tail.tail) ?_
        refine takesR [0, 1, 2, 3, 4] [2, 3, 6, 7, 8, 32, 34, 35, 36] 8 [true, true, true, true, true, false, false, false, false, false, false, false, false] [(2, .slice (some ⟨sb, so, none⟩) r.l.length r.c), (3, .pointer (some ⟨b1, 0, none⟩)), (6, .bool false), (7, .slice A ((lbs c d (r.l.take i)).length) cap), (8, .int .i64 (i : Int)), (32, .slice A ((lbs c d (r.l.take i)).length) cap), (34, .slice (some ⟨db, dd, none⟩) c.domains.l.length c.domains.c), (35, .slice (some ⟨sb, so, none⟩) r.l.length r.c), (36, .int .i64 (i : Int))] [(⟨b1, 3, none⟩, .slice (some ⟨db, dd, none⟩) c.domains.l.length c.domains.c)] rfl (fun _ d _ _ _ h => by cases d <;> exact h) (fun _ h => by first | exact h | exact h.tail | exact h.tail.tail | exact h.tail.tail.tail | exact h.tail.tail.tail.tail) (hasC (blkAt (T := 25) (cs := [.int .i64 c.frame, .int .i64 c.epoch, .slice c.plans.a c.plans.l.length c.plans.c, .slice (some ⟨db, dd, none⟩) c.domains.l.length c.domains.c]) 0 rfl rfl) has0) (fun _ => by kernel_rfl) ?_
        refine takeR1 5 7 [true, true, true, true, true, true, false, false, false, false, false, false, false] rfl rfl (by kernel_rfl) (fun _ d _ _ _ h => by cases d <;> exact h) (fun _ h => by first | exact h | exact h.tail | exact h.tail.tail | exact h.tail.tail.tail | exact h.tail.tail.tail.tail) (idxY 26 (.tmp 35) (.tmp 36) sb so r.l.length r.c i 1 3 (i : Int) .i64 (some 37) (fun _ => by kernel_rfl) (by kernel_rfl) (by kernel_rfl) (fun _ => by kernel_rfl) (fun _ => by kernel_rfl) Try.underlying26 (by kernel_rfl) (by first | rfl | assumption | simp) (by first | omega | (simp; done) | (simp; omega) | (simp at *; omega))) ?_
        refine takesR [6] [2, 3, 6, 7, 8, 32, 34, 38] 6 [true, true, true, true, true, true, true, false, false, false, false, false, false] [(2, .slice (some ⟨sb, so, none⟩) r.l.length r.c), (3, .pointer (some ⟨b1, 0, none⟩)), (6, .bool false), (7, .slice A ((lbs c d (r.l.take i)).length) cap), (8, .int .i64 (i : Int)), (32, .slice A ((lbs c d (r.l.take i)).length) cap), (34, .slice (some ⟨db, dd, none⟩) c.domains.l.length c.domains.c), (38, .int .i64 (m : Int))] [(⟨sb, so + i * 1, none⟩, .int .i64 (m : Int))] rfl (fun _ d _ _ _ h => by cases d <;> exact h) (fun _ h => by first | exact h | exact h.tail | exact h.tail.tail | exact h.tail.tail.tail | exact h.tail.tail.tail.tail) (hasC (up (hr.cell hA (i := i) (x := (m : Int)) hy (j := 0) rfl)) has0) (fun _ => by kernel_rfl) ?_
        refine takeR1 7 5 [true, true, true, true, true, true, true, true, false, false, false, false, false] rfl rfl (by kernel_rfl) (fun _ d _ _ _ h => by cases d <;> exact h) (fun _ h => by first | exact h | exact h.tail | exact h.tail.tail | exact h.tail.tail.tail | exact h.tail.tail.tail.tail) (idxY 23 (.tmp 34) (.tmp 38) db dd c.domains.l.length c.domains.c m 10 46 (m : Int) .i64 (some 39) (fun _ => by kernel_rfl) (by kernel_rfl) (by kernel_rfl) (fun _ => by kernel_rfl) (fun _ => by kernel_rfl) Try.underlying23 (by kernel_rfl) (by first | rfl | assumption | simp) (by first | omega | (simp; done) | (simp; omega) | (simp at *; omega))) ?_
        refine takesR [8, 9] [2, 3, 6, 7, 8, 32, 41] 3 [true, true, true, true, true, true, true, true, true, true, false, false, false] [(2, .slice (some ⟨sb, so, none⟩) r.l.length r.c), (3, .pointer (some ⟨b1, 0, none⟩)), (6, .bool false), (7, .slice A ((lbs c d (r.l.take i)).length) cap), (8, .int .i64 (i : Int)), (32, .slice A ((lbs c d (r.l.take i)).length) cap), (41, .agg #[.int .i64 e.lab.level, .int .u64 e.lab.cats])] [(⟨db, dd + m * 10, none⟩, .int .i64 e.lab.level), (⟨db, dd + m * 10 + 1, none⟩, .int .u64 e.lab.cats)] rfl (fun _ d _ _ _ h => by cases d <;> exact h) (fun _ h => by first | exact h | exact h.tail | exact h.tail.tail | exact h.tail.tail.tail | exact h.tail.tail.tail.tail) (hasC (up (hk.domains.cell hB (i := m) (x := e) he (j := 0) rfl)) (hasC (up (hk.domains.cell hB (i := m) (x := e) he (j := 1) rfl)) has0)) (fun _ => by kernel_rfl) ?_
        refine oneR 10 2 [true, true, true, true, true, true, true, true, true, true, true, false, false] rfl rfl (by kernel_rfl) (newS 44 [.int .i64 e.lab.level, .int .u64 e.lab.cats] (some 42) (fun b => .slice (some ⟨b, 0, none⟩) 1 1) (fun _ _ => by kernel_rfl)) (fun _ _ h _ => by first | exact h | exact h.tail | exact h.tail.tail | exact h.tail.tail.tail | exact h.tail.tail.tail.tail) (fun b3 => ?_)
        refine DT.pick 1 rfl ?_
        refine oneR 11 1 [true, true, true, true, true, true, true, true, true, true, true, true, false] rfl rfl (by kernel_rfl) (appS (E := labE) 67 (.tmp 32) (.tmp 42) A cap (lbs c d (r.l.take i)) [e.lab] (.slice (some ⟨b3, 0, none⟩) 1 1) (some 43) (fun _ => by kernel_rfl) (by kernel_rfl) (by kernel_rfl) (fun _ => by kernel_rfl) (fun _ => by kernel_rfl) Try.underlying67 (labE_ety) (blkRd 1 rfl) (by simp only [lbs, List.length_cons, List.length_map, List.length_take, List.length_nil]; omega)) (fun _ _ h _ => by first | exact h | exact h.tail | exact h.tail.tail | exact h.tail.tail.tail | exact h.tail.tail.tail.tail) (fun r4 => ?_)
        refine takesR [12] [2, 3, 6, 7, 8] 0 [true, true, true, true, true, true, true, true, true, true, true, true, true] [(2, .slice (some ⟨sb, so, none⟩) r.l.length r.c), (3, .pointer (some ⟨b1, 0, none⟩)), (6, .bool false), (7, .slice r4.1 (((lbs c d (r.l.take i)) ++ [e.lab]).length) r4.2), (8, .int .i64 (i : Int))] [] rfl (fun _ d _ _ _ h => by cases d <;> exact h) (fun _ h => by first | exact h | exact h.tail | exact h.tail.tail | exact h.tail.tail.tail | exact h.tail.tail.tail.tail) has0 (fun _ => by kernel_rfl) ?_
        refine drawnR (by kernel_rfl) ?_
        refine seqR (by kernel_rfl) ?_
        refine regionR 3 (by kernel_rfl) (by kernel_rfl) ?_
        refine (run0 (z := 0) 3 [2, 3, 6, 7, 8] [(2, .slice (some ⟨sb, so, none⟩) r.l.length r.c), (3, .pointer (some ⟨b1, 0, none⟩)), (6, .bool false), (7, .slice r4.1 (((lbs c d (r.l.take i)) ++ [e.lab]).length) r4.2), (8, .int .i64 (IntKind.i64.wrap ((i : Int) + 1)))] (fun _ => by kernel_rfl) (endR ?_) : RT _ _ _ _ _ _ 3 _)
        refine gotoR 0 (by kernel_rfl) (by kernel_rfl) ?_
        have hlb : lbs c d (r.l.take i) ++ [e.lab] = lbs c d (r.l.take (i + 1)) := by rw [ht]; simp [lbs, labAt, he]
        rw [hlb, hw, ← hA, ← hB]
        refine PT.pick 1 rfl ?_
        refine PT.drop ?_
        refine PT.keep (L' := [(2, .slice r.a r.l.length r.c), (3, .pointer (some ⟨b1, 0, none⟩)), (6, .bool false), (7, .slice r4.1 ((lbs c d (r.l.take (i + 1))).length) r4.2), (8, .int .i64 ((i + 1 : Nat) : Int))]) [2, 3, 6, 7, 8] rfl ?_
        exact jumpR (hK (k - 1) (r4, i + 1) (by omega) ⟨by simp only; omega, by simp only [ht, List.all_append, hall, List.all_cons, hyd, List.all_nil, Bool.and_self]⟩)
      | false =>
        refine condR (b := true) (by kernel_rfl) (fun _ => by kernel_rfl) (fun _ => ?_) (fun h => by cases h)
        refine seqR (by kernel_rfl) ?_
        refine regionR 1 (by kernel_rfl) (by kernel_rfl) ?_
        refine (run0 (z := 0) 1 [2, 3, 6, 7, 8] [(2, .slice (some ⟨sb, so, none⟩) r.l.length r.c), (3, .pointer (some ⟨b1, 0, none⟩)), (6, .bool false), (7, .slice A ((lbs c d (r.l.take i)).length) cap), (8, .int .i64 (i : Int))] (fun _ => by kernel_rfl) (endR ?_) : RT _ _ _ _ _ _ 1 _)
        refine retR (by kernel_rfl) ?_
        refine thenV ?_
        refine jumpV ?_
        have h0 : r.l.all (isDom c) = false := by
          rw [← Bool.not_eq_true]
          intro h1
          have := List.all_eq_true.1 h1 y hym
          rw [show isDom c y = false from hin] at this
          simp at this
        refine done0 (.bool false) (fun _ => by kernel_rfl) (fun w hs => ?_) .ret (.inr rfl)
        exact ⟨(), by simp only [risesOk, h0, Bool.false_and], hs.tail.tail⟩
  · skip
    intro K hK
    refine seqR (by kernel_rfl) ?_
    refine regionR 4 (by kernel_rfl) (by kernel_rfl) ?_
    refine (runR (H := (blk b2 46 [.int .i64 d.lab.level, .int .u64 d.lab.cats, .slice d.routes.a d.routes.l.length d.routes.c, .slice d.release.a d.release.l.length d.release.c, .int .i64 d.to, .int .i64 d.threads, .int .i64 d.groups, .int .i64 d.ring, .int .i64 d.sends, .int .i64 d.box] :: blk b1 25 [.int .i64 c.frame, .int .i64 c.epoch, .slice c.plans.a c.plans.l.length c.plans.c, .slice c.domains.a c.domains.l.length c.domains.c] :: H)) (z := 2) 2 [3, 2, 6, 10] [(3, .pointer (some ⟨b1, 0, none⟩)), (2, .slice r.a r.l.length r.c), (6, .bool false), (10, .agg #[.int .i64 d.lab.level, .int .u64 d.lab.cats])] [(⟨b2, 0, none⟩, .int .i64 d.lab.level), (⟨b2, 1, none⟩, .int .u64 d.lab.cats)] (hasC (blkAt (T := 46) (cs := [.int .i64 d.lab.level, .int .u64 d.lab.cats, .slice d.routes.a d.routes.l.length d.routes.c, .slice d.release.a d.release.l.length d.release.c, .int .i64 d.to, .int .i64 d.threads, .int .i64 d.groups, .int .i64 d.ring, .int .i64 d.sends, .int .i64 d.box]) 0 rfl rfl) (hasC (blkAt (T := 46) (cs := [.int .i64 d.lab.level, .int .u64 d.lab.cats, .slice d.routes.a d.routes.l.length d.routes.c, .slice d.release.a d.release.l.length d.release.c, .int .i64 d.to, .int .i64 d.threads, .int .i64 d.groups, .int .i64 d.ring, .int .i64 d.sends, .int .i64 d.box]) 0 rfl rfl) has0)) (fun _ => by kernel_rfl) ?_ : RT _ _ _ _ _ _ 4 _)
    refine (stepR (z := 1) (newS 44 [.int .i64 d.lab.level, .int .u64 d.lab.cats] (some 11) (fun b => .slice (some ⟨b, 0, none⟩) 1 1) (fun _ _ => by kernel_rfl)) (fun b3 => ?_) : RT _ _ _ _ _ _ 2 _)
    refine (run0 (z := 0) 1 [3, 2, 6, 7] [(3, .pointer (some ⟨b1, 0, none⟩)), (2, .slice r.a r.l.length r.c), (6, .bool false), (7, .slice (some ⟨b3, 0, none⟩) 1 1)] (fun _ => by kernel_rfl) (endR ?_) : RT _ _ _ _ _ _ 1 _)
    refine seqR (by kernel_rfl) ?_
    refine regionR 1 (by kernel_rfl) (by kernel_rfl) ?_
    refine (run0 (z := 0) 1 [3, 2, 6, 7, 8] [(3, .pointer (some ⟨b1, 0, none⟩)), (2, .slice r.a r.l.length r.c), (6, .bool false), (7, .slice (some ⟨b3, 0, none⟩) 1 1), (8, .int .i64 0)] (fun _ => by kernel_rfl) (endR ?_) : RT _ _ _ _ _ _ 1 _)
    refine seqR (by kernel_rfl) ?_
    refine labelR (by kernel_rfl) ?_
    refine PT.blkRow (E := labE) (x := d.lab) ?_
    refine PT.pick 1 rfl ?_
    refine PT.drop ?_
    refine PT.keep (L' := [(2, .slice r.a r.l.length r.c), (3, .pointer (some ⟨b1, 0, none⟩)), (6, .bool false), (7, .slice (some ⟨b3, 0, none⟩) 1 1), (8, .int .i64 0)]) [2, 3, 6, 7, 8] rfl ?_
    refine codeR (by kernel_rfl) (hK r.l.length ((some ⟨b3, 0, none⟩, 1), 0) ⟨by simp, rfl⟩)
end Go.Proofs.Ytjjbnmlhbbnhcaa
