/- Texts put together: KernelIDs: its walk. Conditions: none. -/
import Derived.Test.YtlhjibkkkhgonaaGreatMgKb6
set_option linter.unusedVariables false
set_option linter.unusedSimpArgs false
namespace Go.Proofs.YtlhjibkkkhgonaaGreat
open Go.RowKit G
def k10E : Enc (Int × Int × Int × Int) := prE (kE .i64) (prE (kE .i64) (prE (kE .i64) (kE .i64)))
structure KId (s : KS) (last : Int) (u : Nat) : Prop where
  ok : KOk s
  nx : s.nx = last + 1
  le : s.nx ≤ 2 + u
  lo : 1 ≤ last
theorem KId.start : KId (k0 (mtOf 4) (mgOf 3)) 1 0 := ⟨k0_ok (by decide) (by decide), by rw [k0_is (by decide)]; rfl, by rw [k0_is (by decide)]; decide, by decide⟩
theorem kspawn_err {s : KS} (h : KOk s) (par wt : Int) : ((kspawn s par wt).1.2 = 0 → (kspawn s par wt).1.1 = s.nx ∧ (kspawn s par wt).2.nx = s.nx + 1) ∧ ((kspawn s par wt).1.2 ≠ 0 → (kspawn s par wt).2 = s) := by
  by_cases c : (kadds s par wt s.mt true).1.2 = 0
  · obtain ⟨e1, e2, e3, _⟩ := kadds_id c
    have hok := (kadds_ok h par wt s.mt true rfl).1
    rcases add_cases s.N par s.nx wt true with ⟨e, he, h1⟩ | ⟨p, hp, hno, h1⟩
    · rw [h1] at e3; exact absurd e3 he
    · obtain ⟨_, p2⟩ := put_see (N := s.N) (n := ⟨s.nx, par, wt, p.now, true, false, 0⟩) hno rfl (by show s.nx ≠ 0; have := h.nx; omega)
      rw [e2, h1] at hok
      have q1 := (ready_see hok.wf.sk (k := s.nx) (by show isT (s.N ++ _) _ = true; rw [p2]; simp) true).1
      have e : kspawn s par wt = ((s.nx, 0), { s with N := (readyN (s.N ++ [⟨s.nx, par, wt, p.now, true, false, 0⟩]) s.nx true).2, nx := s.nx + 1 }) := by
        unfold kspawn
        rw [if_neg (by rw [c]; simp), e1, e2, h1]
        simp only
        rw [q1]
      rw [e]; simp
  · have e : kspawn s par wt = ((0, (kadds s par wt s.mt true).1.2), (kadds s par wt s.mt true).2) := by unfold kspawn; rw [if_pos c]
    rw [e]
    exact ⟨fun h => absurd h c, fun _ => kadds_no c⟩
theorem KId.spawn {s : KS} {last : Int} {u : Nat} (h : KId s last u) (a b : Int) : ((kspawn s a b).1.2 = 0 → (kspawn s a b).1.1 = last + 1 ∧ KId (kspawn s a b).2 (last + 1) (u + 1)) ∧ ((kspawn s a b).1.2 ≠ 0 → KId (kspawn s a b).2 last (u + 1)) := by
  obtain ⟨h1, h2⟩ := kspawn_err h.ok a b
  have h3 := h.nx
  have h4 := h.le
  refine ⟨fun e => ?_, fun e => ?_⟩
  · obtain ⟨h5, h6⟩ := h1 e
    exact ⟨by omega, kspawn_ok h.ok a b, by omega, by omega, by have := h.lo; omega⟩
  · exact ⟨kspawn_ok h.ok a b, by rw [h2 e]; exact h3, by rw [h2 e]; omega, h.lo⟩
theorem KId.group {s : KS} {last : Int} {u : Nat} (h : KId s last u) (a b : Int) : ((kgroup s a b).1.2 = 0 → (kgroup s a b).1.1 = last + 1 ∧ KId (kgroup s a b).2 (last + 1) (u + 1)) ∧ ((kgroup s a b).1.2 ≠ 0 → KId (kgroup s a b).2 last (u + 1)) := by
  have h3 := h.nx
  have h4 := h.le
  refine ⟨fun e => ?_, fun e => ?_⟩
  · obtain ⟨e1, e2, _⟩ := kadds_id (thr := false) e
    have e3 : (kgroup s a b).2.nx = s.nx + 1 := congrArg KS.nx e2
    have e4 : (kgroup s a b).1.1 = s.nx := e1
    exact ⟨by omega, kgroup_ok h.ok a b, by omega, by omega, by have := h.lo; omega⟩
  · have e2 : (kgroup s a b).2 = s := kadds_no (thr := false) e
    exact ⟨kgroup_ok h.ok a b, by rw [e2]; exact h3, by rw [e2]; omega, h.lo⟩
theorem KId.keep {s s' : KS} {last : Int} {u : Nat} (h : KId s last u) (hk : KOk s') (hn : s'.nx = s.nx) : KId s' last (u + 1) := ⟨hk, hn.trans h.nx, by have := h.le; omega, h.lo⟩
theorem kexit_nx (s : KS) (id : Int) : (kexit s id).2.nx = s.nx := by unfold kexit; split <;> rfl
set_option maxHeartbeats 1000000 in
set_option maxRecDepth 100000 in
theorem ids10_walk (H : List SP) (s : SV (Int × Int × Int × Int)) (hk : KR H k10E s) : ∀ w, Sat w H → Calls Tryz.prog 3 #[.slice s.a s.l.length s.c] w (Ret (ι := Unit) (fun _ => .bool true) fun _ => H) := by
  refine enterG (fn := Tryz.f3) 99 [.slice s.a s.l.length s.c] Tryz.func3 (by kernel_rfl) (by kernel_rfl) (by kernel_rfl) ?_
  refine seqR (by kernel_rfl) ?_
  refine regionR 1 (by kernel_rfl) (by kernel_rfl) ?_
  refine (run0 (z := 0) 1 [0, 2] [(0, .slice s.a s.l.length s.c), (2, .bool false)] (fun _ => by kernel_rfl) (endR ?_) : RT _ _ _ _ _ _ 1 _)
  refine seqR (by kernel_rfl) ?_
  refine seqR (by kernel_rfl) ?_
  refine regionR 2 (by kernel_rfl) (by kernel_rfl) ?_
  refine (stepR (z := 1) (callS 10 [] (some 13) (fun _ => .bool true) (fun (_ : Unit) => (H)) (fun _ => by kernel_rfl) (known10 _)) (fun _ => ?_) : RT _ _ _ _ _ _ 2 _)
  refine (run0 (z := 0) 1 [0, 2, 14] [(0, .slice s.a s.l.length s.c), (2, .bool false), (14, .bool false)] (fun _ => by kernel_rfl) (endR ?_) : RT _ _ _ _ _ _ 1 _)
  refine condR (b := false) (by kernel_rfl) (fun _ => by kernel_rfl) (fun h => by cases h) (fun _ => ?_)
  refine skipR (by kernel_rfl) ?_
  refine seqR (by kernel_rfl) ?_
  refine seqR (by kernel_rfl) ?_
  refine regionR 3 (by kernel_rfl) (by kernel_rfl) ?_
  refine (run0 (z := 0) 3 [0, 2, 17] [(0, .slice s.a s.l.length s.c), (2, .bool false), (17, .bool (decide ((s.l.length : Int) > 80)))] (fun _ => by kernel_rfl) (endR ?_) : RT _ _ _ _ _ _ 3 _)
  refine condR (b := decide ((s.l.length : Int) > 80)) (by kernel_rfl) (fun _ => by kernel_rfl) (fun h0 => ?_) (fun h0 => ?_)
  · skip
    refine seqR (by kernel_rfl) ?_
    refine regionR 1 (by kernel_rfl) (by kernel_rfl) ?_
    refine (run0 (z := 0) 1 [0, 2] [(0, .slice s.a s.l.length s.c), (2, .bool true)] (fun _ => by kernel_rfl) (endR ?_) : RT _ _ _ _ _ _ 1 _)
    refine retR (by kernel_rfl) ?_
    refine thenV ?_
    refine done0 (.bool true) (fun _ => by kernel_rfl) (fun w hs => ?_) .ret (.inr rfl)
    exact ⟨(), rfl, hs⟩
  · skip
    have hl : s.l.length ≤ 80 := by have := of_decide_eq_false h0; omega
    refine skipR (by kernel_rfl) ?_
    refine seqR (by kernel_rfl) ?_
    refine regionR 2 (by kernel_rfl) (by kernel_rfl) ?_
    refine (stepR (z := 1) (callS 11 [.int .i64 4, .int .i64 3] (some 18) (fun (k : Nat) => .pointer (some ⟨k, 0, none⟩)) (fun (k : Nat) => (kerS k (k0 (mtOf 4) (mgOf 3)) :: H)) (fun _ => by kernel_rfl) (knew_walk _ 4 3)) (fun (k : Nat) => ?_) : RT _ _ _ _ _ _ 2 _)
    refine (run0 (z := 0) 1 [0, 2, 3] [(0, .slice s.a s.l.length s.c), (2, .bool false), (3, .pointer (some ⟨k, 0, none⟩))] (fun _ => by kernel_rfl) (endR ?_) : RT _ _ _ _ _ _ 1 _)
    refine seqR (by kernel_rfl) ?_
    refine regionR 1 (by kernel_rfl) (by kernel_rfl) ?_
    refine (run0 (z := 0) 1 [0, 2, 3, 4] [(0, .slice s.a s.l.length s.c), (2, .bool false), (3, .pointer (some ⟨k, 0, none⟩)), (4, .int .i64 1)] (fun _ => by kernel_rfl) (endR ?_) : RT _ _ _ _ _ _ 1 _)
    refine seqR (by kernel_rfl) ?_
    refine seqR (by kernel_rfl) ?_
    refine regionR 1 (by kernel_rfl) (by kernel_rfl) ?_
    refine (run0 (z := 0) 1 [0, 2, 3, 4, 5] [(0, .slice s.a s.l.length s.c), (2, .bool false), (3, .pointer (some ⟨k, 0, none⟩)), (4, .int .i64 1), (5, .int .i64 0)] (fun _ => by kernel_rfl) (endR ?_) : RT _ _ _ _ _ _ 1 _)
    refine blockR 0 (by kernel_rfl) (by kernel_rfl) ?_
    refine PT.keep (L' := [(0, .slice s.a s.l.length s.c), (3, .pointer (some ⟨k, 0, none⟩)), (4, .int .i64 1), (5, .int .i64 0)]) [0, 3, 4, 5] rfl ?_
    refine loopG (fun (q : KS × Int × Nat) => [(0, .slice s.a s.l.length s.c), (3, .pointer (some ⟨k, 0, none⟩)), (4, .int .i64 q.2.1), (5, .int .i64 (q.2.2 : Int))]) (fun (q : KS × Int × Nat) => (kerS k q.1 :: H)) (fun k (q : KS × Int × Nat) => k + q.2.2 = s.l.length ∧ KId q.1 q.2.1 q.2.2) s.l.length (k0 (mtOf 4) (mgOf 3), 1, 0) (by kernel_rfl) ⟨by simp, KId.start⟩ ?_
    rintro n ⟨z, la, u⟩ ⟨hku, hI⟩
    simp only at hku hI
    refine seqR (by kernel_rfl) ?_
    refine seqR (by kernel_rfl) ?_
    refine regionR 4 (by kernel_rfl) (by kernel_rfl) ?_
    refine (run0 (z := 0) 4 [0, 3, 4, 5, 22] [(0, .slice s.a s.l.length s.c), (3, .pointer (some ⟨k, 0, none⟩)), (4, .int .i64 la), (5, .int .i64 (u : Int)), (22, .bool (decide ((u : Int) < (s.l.length : Int))))] (fun _ => by kernel_rfl) (endR ?_) : RT _ _ _ _ _ _ 4 _)
    refine condR (b := decide ((u : Int) < (s.l.length : Int))) (by kernel_rfl) (fun _ => by kernel_rfl) (fun h1 => ?_) (fun h1 => ?_)
    · skip
      have hu : u < s.l.length := by have := of_decide_eq_true h1; omega
      obtain ⟨⟨zw, zi, za, zb⟩, hz⟩ : ∃ v, s.l[u]? = some v := ⟨_, List.getElem?_eq_getElem hu⟩
      have hnx : z.nx ≤ 1099511627776 := by have := hI.le; omega
      have hla : 1 ≤ la ∧ la ≤ 100 := by have h2 := hI.le; have h3 := hI.nx; have h4 := hI.ok.nx; have h5 := hI.lo; omega
      refine skipR (by kernel_rfl) ?_
      refine seqR (by kernel_rfl) ?_
      refine joinR (fun (Kq : { q : KS × Int // KId q.1 q.2 (u + 1) }) => [(0, .slice s.a s.l.length s.c), (3, .pointer (some ⟨k, 0, none⟩)), (4, .int .i64 Kq.1.2), (5, .int .i64 (u : Int))]) (fun (Kq : { q : KS × Int // KId q.1 q.2 (u + 1) }) => (kerS k Kq.1.1 :: H)) ?_ (fun Kq => ?_)
      · skip
        refine PT.know ((hk).up.isSome (List.ne_nil_of_length_pos (by omega))) ?_
        rintro ⟨sb, so, hA'⟩
        try rw [hA']
        refine blockR 1 (by kernel_rfl) (by kernel_rfl) ?_
        refine seqR (by kernel_rfl) ?_
        refine regionR 6 (by kernel_rfl) (by kernel_rfl) ?_
        refine (run0 (z := 4) 2 [0, 3, 4, 5, 25, 26] [(0, .slice (some ⟨sb, so, none⟩) s.l.length s.c), (3, .pointer (some ⟨k, 0, none⟩)), (4, .int .i64 la), (5, .int .i64 (u : Int)), (25, .slice (some ⟨sb, so, none⟩) s.l.length s.c), (26, .int .i64 (u : Int))] (fun _ => by kernel_rfl) ?_ : RT _ _ _ _ _ _ 6 _)
        refine (stepR (z := 3) (yldS (idxY 22 (.tmp 25) (.tmp 26) sb so s.l.length s.c u 4 27 (u : Int) .i64 (some 27) (fun _ => by kernel_rfl) (by kernel_rfl) (by kernel_rfl) (fun _ => by kernel_rfl) (fun _ => by kernel_rfl) Tryz.underlying22 (by kernel_rfl) (by first | rfl | assumption | simp) (by first | omega | (simp; done) | (simp; omega) | (simp at *; omega)))) (fun _ => ?_) : RT _ _ _ _ _ _ 4 _)
        refine (runR (H := (kerS k z :: H)) (z := 2) 1 [0, 3, 4, 5, 28] [(0, .slice (some ⟨sb, so, none⟩) s.l.length s.c), (3, .pointer (some ⟨k, 0, none⟩)), (4, .int .i64 la), (5, .int .i64 (u : Int)), (28, .agg #[.int .i64 zw, .int .i64 zi, .int .i64 za, .int .i64 zb])] [(⟨sb, so + u * 4, none⟩, .int .i64 zw), (⟨sb, so + u * 4 + 1, none⟩, .int .i64 zi), (⟨sb, so + u * 4 + 2, none⟩, .int .i64 za), (⟨sb, so + u * 4 + 3, none⟩, .int .i64 zb)] (hasC (up (hk.cell hA' (i := u) (x := (zw, zi, za, zb)) hz (j := 0) rfl)) (hasC (up (hk.cell hA' (i := u) (x := (zw, zi, za, zb)) hz (j := 1) rfl)) (hasC (up (hk.cell hA' (i := u) (x := (zw, zi, za, zb)) hz (j := 2) rfl)) (hasC (up (hk.cell hA' (i := u) (x := (zw, zi, za, zb)) hz (j := 3) rfl)) has0)))) (fun _ => by kernel_rfl) ?_ : RT _ _ _ _ _ _ 3 _)
        refine (stepR (z := 1) (newS 27 [.int .i64 0, .int .i64 0, .int .i64 0, .int .i64 0] (some 6) (fun b => .pointer (some ⟨b, 0, none⟩)) (fun _ _ => by kernel_rfl)) (fun b1 => ?_) : RT _ _ _ _ _ _ 2 _)
        refine (stepR (z := 0) (storeS [(0, .int .i64 zw), (1, .int .i64 zi), (2, .int .i64 za), (3, .int .i64 zb)] [.int .i64 zw, .int .i64 zi, .int .i64 za, .int .i64 zb] (fun _ => by kernel_rfl) (by kernel_rfl) (by kernel_rfl)) (fun _ => ?_) : RT _ _ _ _ _ _ 1 _)
        refine endR ?_
        try rw [← hA']
        refine seqR (by kernel_rfl) ?_
        refine regionR 2 (by kernel_rfl) (by kernel_rfl) ?_
        refine (runR (H := (blk b1 27 [.int .i64 zw, .int .i64 zi, .int .i64 za, .int .i64 zb] :: kerS k z :: H)) (z := 0) 2 [6, 0, 3, 4, 5, 30] [(6, .pointer (some ⟨b1, 0, none⟩)), (0, .slice s.a s.l.length s.c), (3, .pointer (some ⟨k, 0, none⟩)), (4, .int .i64 la), (5, .int .i64 (u : Int)), (30, .int .i64 zw)] [(⟨b1, 0, none⟩, .int .i64 zw)] (hasC (blkAt (T := 27) (cs := [.int .i64 zw, .int .i64 zi, .int .i64 za, .int .i64 zb]) 0 rfl rfl) has0) (fun _ => by kernel_rfl) (endR ?_) : RT _ _ _ _ _ _ 2 _)
        refine blockR 2 (by kernel_rfl) (by kernel_rfl) ?_
        refine seqR (by kernel_rfl) ?_
        refine regionR 2 (by kernel_rfl) (by kernel_rfl) ?_
        refine (run0 (z := 0) 2 [6, 0, 3, 4, 5, 30, 31] [(6, .pointer (some ⟨b1, 0, none⟩)), (0, .slice s.a s.l.length s.c), (3, .pointer (some ⟨k, 0, none⟩)), (4, .int .i64 la), (5, .int .i64 (u : Int)), (30, .int .i64 zw), (31, .bool (zw == 0))] (fun _ => by kernel_rfl) (endR ?_) : RT _ _ _ _ _ _ 2 _)
        refine condR (b := zw == 0) (by kernel_rfl) (fun _ => by kernel_rfl) (fun c1 => ?_) (fun c1 => ?_)
        · skip
          refine seqR (by kernel_rfl) ?_
          refine regionR 11 (by kernel_rfl) (by kernel_rfl) ?_
          refine (runR (H := (blk b1 27 [.int .i64 zw, .int .i64 zi, .int .i64 za, .int .i64 zb] :: kerS k z :: H)) (z := 6) 5 [0, 3, 4, 5, 34, 36, 38] [(0, .slice s.a s.l.length s.c), (3, .pointer (some ⟨k, 0, none⟩)), (4, .int .i64 la), (5, .int .i64 (u : Int)), (34, .pointer (some ⟨k, 0, none⟩)), (36, .int .i64 za), (38, .int .i64 zb)] [(⟨b1, 2, none⟩, .int .i64 za), (⟨b1, 3, none⟩, .int .i64 zb)] (hasC (blkAt (T := 27) (cs := [.int .i64 zw, .int .i64 zi, .int .i64 za, .int .i64 zb]) 0 rfl rfl) (hasC (blkAt (T := 27) (cs := [.int .i64 zw, .int .i64 zi, .int .i64 za, .int .i64 zb]) 0 rfl rfl) has0)) (fun _ => by kernel_rfl) ?_ : RT _ _ _ _ _ _ 11 _)
          refine (stepR (z := 5) (callS 12 [.pointer (some ⟨k, 0, none⟩), .int .i64 za, .int .i64 zb] (some 39) (fun _ => .tuple #[.int .i64 (kspawn z za zb).1.1, pqErr (kspawn z za zb).1.2]) (fun _ => (blk b1 27 [.int .i64 zw, .int .i64 zi, .int .i64 za, .int .i64 zb] :: kerS k (kspawn z za zb).2 :: H)) (fun _ => by kernel_rfl) (chg_at (H := (blk b1 27 [.int .i64 zw, .int .i64 zi, .int .i64 za, .int .i64 zb] :: kerS k z :: H)) 1 rfl (krSpawn _ k z hnx za zb))) (fun _ => ?_) : RT _ _ _ _ _ _ 6 _)
          rcases Decidable.em ((kspawn z za zb).1.2 = 0) with h | h
          · rw [pqErr_0 h]
            obtain ⟨e1, e2⟩ := (hI.spawn za zb).1 h
            rw [show (kspawn z za zb).1.1 = (la + 1) by rw [e1]]
            refine (run0 (z := 0) 5 [0, 3, 4, 5, 7, 8] [(0, .slice s.a s.l.length s.c), (3, .pointer (some ⟨k, 0, none⟩)), (4, .int .i64 la), (5, .int .i64 (u : Int)), (7, .int .i64 (la + 1)), (8, .nilIface)] (fun _ => by kernel_rfl) (endR ?_) : RT _ _ _ _ _ _ 5 _)
            refine seqR (by kernel_rfl) ?_
            refine regionR 8 (by kernel_rfl) (by kernel_rfl) ?_
            refine (run0 (z := 0) 8 [0, 3, 4, 5, 7, 8, 49] [(0, .slice s.a s.l.length s.c), (3, .pointer (some ⟨k, 0, none⟩)), (4, .int .i64 la), (5, .int .i64 (u : Int)), (7, .int .i64 (la + 1)), (8, .nilIface), (49, .bool ((la + 1) != (IntKind.i64.wrap (la + 1))))] (fun _ => by kernel_rfl) (endR ?_) : RT _ _ _ _ _ _ 8 _)
            rw [show IntKind.i64.wrap (la + 1) = (la + 1) by rw [w64 (by omega) (by omega)]]
            rw [show ((la + 1) != (la + 1)) = false from by simp]
            refine condR (b := false) (by kernel_rfl) (fun _ => by kernel_rfl) (fun h => by cases h) (fun _ => ?_)
            refine seqR (by kernel_rfl) ?_
            refine regionR 2 (by kernel_rfl) (by kernel_rfl) ?_
            refine (run0 (z := 0) 2 [0, 3, 4, 5, 7, 51] [(0, .slice s.a s.l.length s.c), (3, .pointer (some ⟨k, 0, none⟩)), (4, .int .i64 la), (5, .int .i64 (u : Int)), (7, .int .i64 (la + 1)), (51, .bool true)] (fun _ => by kernel_rfl) (endR ?_) : RT _ _ _ _ _ _ 2 _)
            refine condR (b := true) (by kernel_rfl) (fun _ => by kernel_rfl) (fun _ => ?_) (fun h => by cases h)
            refine regionR 2 (by kernel_rfl) (by kernel_rfl) ?_
            refine (run0 (z := 0) 2 [0, 3, 4, 5] [(0, .slice s.a s.l.length s.c), (3, .pointer (some ⟨k, 0, none⟩)), (4, .int .i64 (la + 1)), (5, .int .i64 (u : Int))] (fun _ => by kernel_rfl) (endR ?_) : RT _ _ _ _ _ _ 2 _)
            refine PT.drop ?_
            refine PT.keep (L' := [(0, .slice s.a s.l.length s.c), (3, .pointer (some ⟨k, 0, none⟩)), (4, .int .i64 (la + 1)), (5, .int .i64 (u : Int))]) [0, 3, 4, 5] rfl ?_
            exact midR (⟨((kspawn z za zb).2, la + 1), e2⟩) rfl rfl
          · rw [pqErr_n h]
            refine (run0 (z := 0) 5 [0, 3, 4, 5, 7, 8] [(0, .slice s.a s.l.length s.c), (3, .pointer (some ⟨k, 0, none⟩)), (4, .int .i64 la), (5, .int .i64 (u : Int)), (7, .int .i64 ((kspawn z za zb).1.1)), (8, .iface 40 (.int .i64 ((kspawn z za zb).1.2)))] (fun _ => by kernel_rfl) (endR ?_) : RT _ _ _ _ _ _ 5 _)
            refine seqR (by kernel_rfl) ?_
            refine regionR 8 (by kernel_rfl) (by kernel_rfl) ?_
            refine (run0 (z := 0) 8 [0, 3, 4, 5, 7, 8, 49] [(0, .slice s.a s.l.length s.c), (3, .pointer (some ⟨k, 0, none⟩)), (4, .int .i64 la), (5, .int .i64 (u : Int)), (7, .int .i64 ((kspawn z za zb).1.1)), (8, .iface 40 (.int .i64 ((kspawn z za zb).1.2))), (49, .bool false)] (fun _ => by kernel_rfl) (endR ?_) : RT _ _ _ _ _ _ 8 _)
            refine condR (b := false) (by kernel_rfl) (fun _ => by kernel_rfl) (fun h => by cases h) (fun _ => ?_)
            refine seqR (by kernel_rfl) ?_
            refine regionR 2 (by kernel_rfl) (by kernel_rfl) ?_
            refine (run0 (z := 0) 2 [0, 3, 4, 5, 7, 51] [(0, .slice s.a s.l.length s.c), (3, .pointer (some ⟨k, 0, none⟩)), (4, .int .i64 la), (5, .int .i64 (u : Int)), (7, .int .i64 ((kspawn z za zb).1.1)), (51, .bool false)] (fun _ => by kernel_rfl) (endR ?_) : RT _ _ _ _ _ _ 2 _)
            refine condR (b := false) (by kernel_rfl) (fun _ => by kernel_rfl) (fun h => by cases h) (fun _ => ?_)
            refine skipR (by kernel_rfl) ?_
            refine PT.drop ?_
            refine PT.keep (L' := [(0, .slice s.a s.l.length s.c), (3, .pointer (some ⟨k, 0, none⟩)), (4, .int .i64 la), (5, .int .i64 (u : Int))]) [0, 3, 4, 5] rfl ?_
            exact midR (⟨((kspawn z za zb).2, la), (hI.spawn za zb).2 h⟩) rfl rfl
        · skip
          refine seqR (by kernel_rfl) ?_
          refine regionR 2 (by kernel_rfl) (by kernel_rfl) ?_
          refine (run0 (z := 0) 2 [6, 0, 3, 4, 5, 30, 53] [(6, .pointer (some ⟨b1, 0, none⟩)), (0, .slice s.a s.l.length s.c), (3, .pointer (some ⟨k, 0, none⟩)), (4, .int .i64 la), (5, .int .i64 (u : Int)), (30, .int .i64 zw), (53, .bool (zw == 1))] (fun _ => by kernel_rfl) (endR ?_) : RT _ _ _ _ _ _ 2 _)
          refine condR (b := zw == 1) (by kernel_rfl) (fun _ => by kernel_rfl) (fun c2 => ?_) (fun c2 => ?_)
          · skip
            refine seqR (by kernel_rfl) ?_
            refine regionR 11 (by kernel_rfl) (by kernel_rfl) ?_
            refine (runR (H := (blk b1 27 [.int .i64 zw, .int .i64 zi, .int .i64 za, .int .i64 zb] :: kerS k z :: H)) (z := 6) 5 [0, 3, 4, 5, 56, 58, 60] [(0, .slice s.a s.l.length s.c), (3, .pointer (some ⟨k, 0, none⟩)), (4, .int .i64 la), (5, .int .i64 (u : Int)), (56, .pointer (some ⟨k, 0, none⟩)), (58, .int .i64 za), (60, .int .i64 zb)] [(⟨b1, 2, none⟩, .int .i64 za), (⟨b1, 3, none⟩, .int .i64 zb)] (hasC (blkAt (T := 27) (cs := [.int .i64 zw, .int .i64 zi, .int .i64 za, .int .i64 zb]) 0 rfl rfl) (hasC (blkAt (T := 27) (cs := [.int .i64 zw, .int .i64 zi, .int .i64 za, .int .i64 zb]) 0 rfl rfl) has0)) (fun _ => by kernel_rfl) ?_ : RT _ _ _ _ _ _ 11 _)
            refine (stepR (z := 5) (callS 13 [.pointer (some ⟨k, 0, none⟩), .int .i64 za, .int .i64 zb] (some 61) (fun _ => .tuple #[.int .i64 (kgroup z za zb).1.1, pqErr (kgroup z za zb).1.2]) (fun _ => (blk b1 27 [.int .i64 zw, .int .i64 zi, .int .i64 za, .int .i64 zb] :: kerS k (kgroup z za zb).2 :: H)) (fun _ => by kernel_rfl) (chg_at (H := (blk b1 27 [.int .i64 zw, .int .i64 zi, .int .i64 za, .int .i64 zb] :: kerS k z :: H)) 1 rfl (krGroup _ k z hnx za zb))) (fun _ => ?_) : RT _ _ _ _ _ _ 6 _)
            rcases Decidable.em ((kgroup z za zb).1.2 = 0) with h | h
            · rw [pqErr_0 h]
              obtain ⟨e1, e2⟩ := (hI.group za zb).1 h
              rw [show (kgroup z za zb).1.1 = (la + 1) by rw [e1]]
              refine (run0 (z := 0) 5 [0, 3, 4, 5, 9, 10] [(0, .slice s.a s.l.length s.c), (3, .pointer (some ⟨k, 0, none⟩)), (4, .int .i64 la), (5, .int .i64 (u : Int)), (9, .int .i64 (la + 1)), (10, .nilIface)] (fun _ => by kernel_rfl) (endR ?_) : RT _ _ _ _ _ _ 5 _)
              refine seqR (by kernel_rfl) ?_
              refine regionR 8 (by kernel_rfl) (by kernel_rfl) ?_
              refine (run0 (z := 0) 8 [0, 3, 4, 5, 9, 10, 71] [(0, .slice s.a s.l.length s.c), (3, .pointer (some ⟨k, 0, none⟩)), (4, .int .i64 la), (5, .int .i64 (u : Int)), (9, .int .i64 (la + 1)), (10, .nilIface), (71, .bool ((la + 1) != (IntKind.i64.wrap (la + 1))))] (fun _ => by kernel_rfl) (endR ?_) : RT _ _ _ _ _ _ 8 _)
              rw [show IntKind.i64.wrap (la + 1) = (la + 1) by rw [w64 (by omega) (by omega)]]
              rw [show ((la + 1) != (la + 1)) = false from by simp]
              refine condR (b := false) (by kernel_rfl) (fun _ => by kernel_rfl) (fun h => by cases h) (fun _ => ?_)
              refine seqR (by kernel_rfl) ?_
              refine regionR 2 (by kernel_rfl) (by kernel_rfl) ?_
              refine (run0 (z := 0) 2 [0, 3, 4, 5, 9, 73] [(0, .slice s.a s.l.length s.c), (3, .pointer (some ⟨k, 0, none⟩)), (4, .int .i64 la), (5, .int .i64 (u : Int)), (9, .int .i64 (la + 1)), (73, .bool true)] (fun _ => by kernel_rfl) (endR ?_) : RT _ _ _ _ _ _ 2 _)
              refine condR (b := true) (by kernel_rfl) (fun _ => by kernel_rfl) (fun _ => ?_) (fun h => by cases h)
              refine regionR 2 (by kernel_rfl) (by kernel_rfl) ?_
              refine (run0 (z := 0) 2 [0, 3, 4, 5] [(0, .slice s.a s.l.length s.c), (3, .pointer (some ⟨k, 0, none⟩)), (4, .int .i64 (la + 1)), (5, .int .i64 (u : Int))] (fun _ => by kernel_rfl) (endR ?_) : RT _ _ _ _ _ _ 2 _)
              refine PT.drop ?_
              refine PT.keep (L' := [(0, .slice s.a s.l.length s.c), (3, .pointer (some ⟨k, 0, none⟩)), (4, .int .i64 (la + 1)), (5, .int .i64 (u : Int))]) [0, 3, 4, 5] rfl ?_
              exact midR (⟨((kgroup z za zb).2, la + 1), e2⟩) rfl rfl
            · rw [pqErr_n h]
              refine (run0 (z := 0) 5 [0, 3, 4, 5, 9, 10] [(0, .slice s.a s.l.length s.c), (3, .pointer (some ⟨k, 0, none⟩)), (4, .int .i64 la), (5, .int .i64 (u : Int)), (9, .int .i64 ((kgroup z za zb).1.1)), (10, .iface 40 (.int .i64 ((kgroup z za zb).1.2)))] (fun _ => by kernel_rfl) (endR ?_) : RT _ _ _ _ _ _ 5 _)
              refine seqR (by kernel_rfl) ?_
              refine regionR 8 (by kernel_rfl) (by kernel_rfl) ?_
              refine (run0 (z := 0) 8 [0, 3, 4, 5, 9, 10, 71] [(0, .slice s.a s.l.length s.c), (3, .pointer (some ⟨k, 0, none⟩)), (4, .int .i64 la), (5, .int .i64 (u : Int)), (9, .int .i64 ((kgroup z za zb).1.1)), (10, .iface 40 (.int .i64 ((kgroup z za zb).1.2))), (71, .bool false)] (fun _ => by kernel_rfl) (endR ?_) : RT _ _ _ _ _ _ 8 _)
              refine condR (b := false) (by kernel_rfl) (fun _ => by kernel_rfl) (fun h => by cases h) (fun _ => ?_)
              refine seqR (by kernel_rfl) ?_
              refine regionR 2 (by kernel_rfl) (by kernel_rfl) ?_
              refine (run0 (z := 0) 2 [0, 3, 4, 5, 9, 73] [(0, .slice s.a s.l.length s.c), (3, .pointer (some ⟨k, 0, none⟩)), (4, .int .i64 la), (5, .int .i64 (u : Int)), (9, .int .i64 ((kgroup z za zb).1.1)), (73, .bool false)] (fun _ => by kernel_rfl) (endR ?_) : RT _ _ _ _ _ _ 2 _)
              refine condR (b := false) (by kernel_rfl) (fun _ => by kernel_rfl) (fun h => by cases h) (fun _ => ?_)
              refine skipR (by kernel_rfl) ?_
              refine PT.drop ?_
              refine PT.keep (L' := [(0, .slice s.a s.l.length s.c), (3, .pointer (some ⟨k, 0, none⟩)), (4, .int .i64 la), (5, .int .i64 (u : Int))]) [0, 3, 4, 5] rfl ?_
              exact midR (⟨((kgroup z za zb).2, la), (hI.group za zb).2 h⟩) rfl rfl
          · skip
            refine seqR (by kernel_rfl) ?_
            refine regionR 2 (by kernel_rfl) (by kernel_rfl) ?_
            refine (run0 (z := 0) 2 [6, 0, 3, 4, 5, 30, 75] [(6, .pointer (some ⟨b1, 0, none⟩)), (0, .slice s.a s.l.length s.c), (3, .pointer (some ⟨k, 0, none⟩)), (4, .int .i64 la), (5, .int .i64 (u : Int)), (30, .int .i64 zw), (75, .bool (zw == 2))] (fun _ => by kernel_rfl) (endR ?_) : RT _ _ _ _ _ _ 2 _)
            refine condR (b := zw == 2) (by kernel_rfl) (fun _ => by kernel_rfl) (fun c3 => ?_) (fun c3 => ?_)
            · skip
              refine regionR 4 (by kernel_rfl) (by kernel_rfl) ?_
              refine (runR (H := (blk b1 27 [.int .i64 zw, .int .i64 zi, .int .i64 za, .int .i64 zb] :: kerS k z :: H)) (z := 1) 3 [0, 3, 4, 5, 77, 79] [(0, .slice s.a s.l.length s.c), (3, .pointer (some ⟨k, 0, none⟩)), (4, .int .i64 la), (5, .int .i64 (u : Int)), (77, .pointer (some ⟨k, 0, none⟩)), (79, .int .i64 zi)] [(⟨b1, 1, none⟩, .int .i64 zi)] (hasC (blkAt (T := 27) (cs := [.int .i64 zw, .int .i64 zi, .int .i64 za, .int .i64 zb]) 0 rfl rfl) has0) (fun _ => by kernel_rfl) ?_ : RT _ _ _ _ _ _ 4 _)
              refine (stepR (z := 0) (callS 14 [.pointer (some ⟨k, 0, none⟩), .int .i64 zi] (some 80) (fun _ => pqErr (kexit z zi).1) (fun _ => (blk b1 27 [.int .i64 zw, .int .i64 zi, .int .i64 za, .int .i64 zb] :: kerS k (kexit z zi).2 :: H)) (fun _ => by kernel_rfl) (chg_at (H := (blk b1 27 [.int .i64 zw, .int .i64 zi, .int .i64 za, .int .i64 zb] :: kerS k z :: H)) 1 rfl (krExit _ k z zi))) (fun _ => ?_) : RT _ _ _ _ _ _ 1 _)
              refine endR ?_
              refine PT.drop ?_
              refine PT.keep (L' := [(0, .slice s.a s.l.length s.c), (3, .pointer (some ⟨k, 0, none⟩)), (4, .int .i64 la), (5, .int .i64 (u : Int))]) [0, 3, 4, 5] rfl ?_
              exact midR (⟨((kexit z zi).2, la), hI.keep (kexit_ok hI.ok zi) (kexit_nx z zi)⟩) rfl rfl
            · skip
              refine seqR (by kernel_rfl) ?_
              refine seqR (by kernel_rfl) ?_
              refine regionR 2 (by kernel_rfl) (by kernel_rfl) ?_
              refine (run0 (z := 0) 2 [0, 3, 4, 5, 30, 81] [(0, .slice s.a s.l.length s.c), (3, .pointer (some ⟨k, 0, none⟩)), (4, .int .i64 la), (5, .int .i64 (u : Int)), (30, .int .i64 zw), (81, .bool (zw == 8))] (fun _ => by kernel_rfl) (endR ?_) : RT _ _ _ _ _ _ 2 _)
              refine condR (b := zw == 8) (by kernel_rfl) (fun _ => by kernel_rfl) (fun c4 => ?_) (fun c4 => ?_)
              · skip
                refine skipR (by kernel_rfl) ?_
                rw [show (zw == 8) = true from c4]
                refine condR (b := true) (by kernel_rfl) (fun _ => by kernel_rfl) (fun _ => ?_) (fun h => by cases h)
                refine seqR (by kernel_rfl) ?_
                refine regionR 7 (by kernel_rfl) (by kernel_rfl) ?_
                refine (run0 (z := 6) 1 [0, 3, 4, 5, 85] [(0, .slice s.a s.l.length s.c), (3, .pointer (some ⟨k, 0, none⟩)), (4, .int .i64 la), (5, .int .i64 (u : Int)), (85, .pointer (some ⟨k, 0, none⟩))] (fun _ => by kernel_rfl) ?_ : RT _ _ _ _ _ _ 7 _)
                refine (stepR (z := 5) (callS 15 [.pointer (some ⟨k, 0, none⟩)] (some 86) (fun _ => .tuple #[.int .i64 (krun z).1.1, .bool (krun z).1.2]) (fun _ => (blk b1 27 [.int .i64 zw, .int .i64 zi, .int .i64 za, .int .i64 zb] :: kerS k (krun z).2 :: H)) (fun _ => by kernel_rfl) (chg_at (H := (blk b1 27 [.int .i64 zw, .int .i64 zi, .int .i64 za, .int .i64 zb] :: kerS k z :: H)) 1 rfl (krRun _ k z))) (fun _ => ?_) : RT _ _ _ _ _ _ 6 _)
                cases hr : (krun z).1.2 with
                | false =>
                  refine (run0 (z := 0) 5 [0, 3, 4, 5, 11, 12] [(0, .slice s.a s.l.length s.c), (3, .pointer (some ⟨k, 0, none⟩)), (4, .int .i64 la), (5, .int .i64 (u : Int)), (11, .int .i64 ((krun z).1.1)), (12, .bool false)] (fun _ => by kernel_rfl) (endR ?_) : RT _ _ _ _ _ _ 5 _)
                  refine seqR (by kernel_rfl) ?_
                  refine regionR 10 (by kernel_rfl) (by kernel_rfl) ?_
                  refine (run0 (z := 0) 10 [0, 3, 4, 5, 98] [(0, .slice s.a s.l.length s.c), (3, .pointer (some ⟨k, 0, none⟩)), (4, .int .i64 la), (5, .int .i64 (u : Int)), (98, .bool false)] (fun _ => by kernel_rfl) (endR ?_) : RT _ _ _ _ _ _ 10 _)
                  refine condR (b := false) (by kernel_rfl) (fun _ => by kernel_rfl) (fun h => by cases h) (fun _ => ?_)
                  refine skipR (by kernel_rfl) ?_
                  refine PT.drop ?_
                  refine PT.keep (L' := [(0, .slice s.a s.l.length s.c), (3, .pointer (some ⟨k, 0, none⟩)), (4, .int .i64 la), (5, .int .i64 (u : Int))]) [0, 3, 4, 5] rfl ?_
                  exact midR (⟨((krun z).2, la), hI.keep (krun_ok hI.ok) rfl⟩) rfl rfl
                | true =>
                  obtain ⟨r1, r2⟩ := krun_id hI.ok hr
                  have r3 := hI.nx
                  refine (run0 (z := 0) 5 [0, 3, 4, 5, 11, 12] [(0, .slice s.a s.l.length s.c), (3, .pointer (some ⟨k, 0, none⟩)), (4, .int .i64 la), (5, .int .i64 (u : Int)), (11, .int .i64 ((krun z).1.1)), (12, .bool true)] (fun _ => by kernel_rfl) (endR ?_) : RT _ _ _ _ _ _ 5 _)
                  refine seqR (by kernel_rfl) ?_
                  refine regionR 10 (by kernel_rfl) (by kernel_rfl) ?_
                  refine (run0 (z := 5) 5 [0, 3, 4, 5, 11, 90, 93] [(0, .slice s.a s.l.length s.c), (3, .pointer (some ⟨k, 0, none⟩)), (4, .int .i64 la), (5, .int .i64 (u : Int)), (11, .int .i64 ((krun z).1.1)), (90, .bool true), (93, .bool (decide (((krun z).1.1) < 1)))] (fun _ => by kernel_rfl) ?_ : RT _ _ _ _ _ _ 10 _)
                  refine (segR (ι := Unit) (z := 1) 4 (fun _ => [(0, .slice s.a s.l.length s.c), (3, .pointer (some ⟨k, 0, none⟩)), (4, .int .i64 la), (5, .int .i64 (u : Int)), (90, .bool true), (97, .bool ((decide (((krun z).1.1) < 1)) || (decide (((krun z).1.1) > la))))]) (fun _ => (blk b1 27 [.int .i64 zw, .int .i64 zi, .int .i64 za, .int .i64 zb] :: kerS k (krun z).2 :: H)) ?_ (fun _ => ?_) : RT _ _ _ _ _ _ 5 _)
                  · cases hg5 : (decide (((krun z).1.1) < 1)) with
                    | true =>
                      refine (run0 (z := 0) 4 [0, 3, 4, 5, 90, 97] [(0, .slice s.a s.l.length s.c), (3, .pointer (some ⟨k, 0, none⟩)), (4, .int .i64 la), (5, .int .i64 (u : Int)), (90, .bool true), (97, .bool true)] (fun _ => by kernel_rfl) (endR ?_) : RT _ _ _ _ _ _ 4 _)
                      refine PT.keep (L' := [(0, .slice s.a s.l.length s.c), (3, .pointer (some ⟨k, 0, none⟩)), (4, .int .i64 la), (5, .int .i64 (u : Int)), (90, .bool true), (97, .bool (true || (decide (((krun z).1.1) > la))))]) [0, 3, 4, 5, 90, 97] rfl ?_
                      exact midR () rfl rfl
                    | false =>
                      refine (run0 (z := 0) 4 [0, 3, 4, 5, 90, 97] [(0, .slice s.a s.l.length s.c), (3, .pointer (some ⟨k, 0, none⟩)), (4, .int .i64 la), (5, .int .i64 (u : Int)), (90, .bool true), (97, .bool (decide (((krun z).1.1) > la)))] (fun _ => by kernel_rfl) (endR ?_) : RT _ _ _ _ _ _ 4 _)
                      refine PT.keep (L' := [(0, .slice s.a s.l.length s.c), (3, .pointer (some ⟨k, 0, none⟩)), (4, .int .i64 la), (5, .int .i64 (u : Int)), (90, .bool true), (97, .bool (false || (decide (((krun z).1.1) > la))))]) [0, 3, 4, 5, 90, 97] rfl ?_
                      exact midR () rfl rfl
                  refine (run0 (z := 0) 1 [0, 3, 4, 5, 98] [(0, .slice s.a s.l.length s.c), (3, .pointer (some ⟨k, 0, none⟩)), (4, .int .i64 la), (5, .int .i64 (u : Int)), (98, .bool ((decide (((krun z).1.1) < 1)) || (decide (((krun z).1.1) > la))))] (fun _ => by kernel_rfl) (endR ?_) : RT _ _ _ _ _ _ 1 _)
                  rw [show ((decide (((krun z).1.1) < 1)) || (decide (((krun z).1.1) > la))) = false from by simp; omega]
                  refine condR (b := false) (by kernel_rfl) (fun _ => by kernel_rfl) (fun h => by cases h) (fun _ => ?_)
                  refine skipR (by kernel_rfl) ?_
                  refine PT.drop ?_
                  refine PT.keep (L' := [(0, .slice s.a s.l.length s.c), (3, .pointer (some ⟨k, 0, none⟩)), (4, .int .i64 la), (5, .int .i64 (u : Int))]) [0, 3, 4, 5] rfl ?_
                  exact midR (⟨((krun z).2, la), hI.keep (krun_ok hI.ok) rfl⟩) rfl rfl
              · skip
                refine regionR 2 (by kernel_rfl) (by kernel_rfl) ?_
                refine (run0 (z := 0) 2 [0, 3, 4, 5, 81] [(0, .slice s.a s.l.length s.c), (3, .pointer (some ⟨k, 0, none⟩)), (4, .int .i64 la), (5, .int .i64 (u : Int)), (81, .bool (zw == 9))] (fun _ => by kernel_rfl) (endR ?_) : RT _ _ _ _ _ _ 2 _)
                refine condR (b := zw == 9) (by kernel_rfl) (fun _ => by kernel_rfl) (fun c5 => ?_) (fun c5 => ?_)
                · skip
                  refine seqR (by kernel_rfl) ?_
                  refine regionR 7 (by kernel_rfl) (by kernel_rfl) ?_
                  refine (run0 (z := 6) 1 [0, 3, 4, 5, 85] [(0, .slice s.a s.l.length s.c), (3, .pointer (some ⟨k, 0, none⟩)), (4, .int .i64 la), (5, .int .i64 (u : Int)), (85, .pointer (some ⟨k, 0, none⟩))] (fun _ => by kernel_rfl) ?_ : RT _ _ _ _ _ _ 7 _)
                  refine (stepR (z := 5) (callS 15 [.pointer (some ⟨k, 0, none⟩)] (some 86) (fun _ => .tuple #[.int .i64 (krun z).1.1, .bool (krun z).1.2]) (fun _ => (blk b1 27 [.int .i64 zw, .int .i64 zi, .int .i64 za, .int .i64 zb] :: kerS k (krun z).2 :: H)) (fun _ => by kernel_rfl) (chg_at (H := (blk b1 27 [.int .i64 zw, .int .i64 zi, .int .i64 za, .int .i64 zb] :: kerS k z :: H)) 1 rfl (krRun _ k z))) (fun _ => ?_) : RT _ _ _ _ _ _ 6 _)
                  cases hr : (krun z).1.2 with
                  | false =>
                    refine (run0 (z := 0) 5 [0, 3, 4, 5, 11, 12] [(0, .slice s.a s.l.length s.c), (3, .pointer (some ⟨k, 0, none⟩)), (4, .int .i64 la), (5, .int .i64 (u : Int)), (11, .int .i64 ((krun z).1.1)), (12, .bool false)] (fun _ => by kernel_rfl) (endR ?_) : RT _ _ _ _ _ _ 5 _)
                    refine seqR (by kernel_rfl) ?_
                    refine regionR 10 (by kernel_rfl) (by kernel_rfl) ?_
                    refine (run0 (z := 0) 10 [0, 3, 4, 5, 98] [(0, .slice s.a s.l.length s.c), (3, .pointer (some ⟨k, 0, none⟩)), (4, .int .i64 la), (5, .int .i64 (u : Int)), (98, .bool false)] (fun _ => by kernel_rfl) (endR ?_) : RT _ _ _ _ _ _ 10 _)
                    refine condR (b := false) (by kernel_rfl) (fun _ => by kernel_rfl) (fun h => by cases h) (fun _ => ?_)
                    refine skipR (by kernel_rfl) ?_
                    refine PT.drop ?_
                    refine PT.keep (L' := [(0, .slice s.a s.l.length s.c), (3, .pointer (some ⟨k, 0, none⟩)), (4, .int .i64 la), (5, .int .i64 (u : Int))]) [0, 3, 4, 5] rfl ?_
                    exact midR (⟨((krun z).2, la), hI.keep (krun_ok hI.ok) rfl⟩) rfl rfl
                  | true =>
                    obtain ⟨r1, r2⟩ := krun_id hI.ok hr
                    have r3 := hI.nx
                    refine (run0 (z := 0) 5 [0, 3, 4, 5, 11, 12] [(0, .slice s.a s.l.length s.c), (3, .pointer (some ⟨k, 0, none⟩)), (4, .int .i64 la), (5, .int .i64 (u : Int)), (11, .int .i64 ((krun z).1.1)), (12, .bool true)] (fun _ => by kernel_rfl) (endR ?_) : RT _ _ _ _ _ _ 5 _)
                    refine seqR (by kernel_rfl) ?_
                    refine regionR 10 (by kernel_rfl) (by kernel_rfl) ?_
                    refine (run0 (z := 5) 5 [0, 3, 4, 5, 11, 90, 93] [(0, .slice s.a s.l.length s.c), (3, .pointer (some ⟨k, 0, none⟩)), (4, .int .i64 la), (5, .int .i64 (u : Int)), (11, .int .i64 ((krun z).1.1)), (90, .bool true), (93, .bool (decide (((krun z).1.1) < 1)))] (fun _ => by kernel_rfl) ?_ : RT _ _ _ _ _ _ 10 _)
                    refine (segR (ι := Unit) (z := 1) 4 (fun _ => [(0, .slice s.a s.l.length s.c), (3, .pointer (some ⟨k, 0, none⟩)), (4, .int .i64 la), (5, .int .i64 (u : Int)), (90, .bool true), (97, .bool ((decide (((krun z).1.1) < 1)) || (decide (((krun z).1.1) > la))))]) (fun _ => (blk b1 27 [.int .i64 zw, .int .i64 zi, .int .i64 za, .int .i64 zb] :: kerS k (krun z).2 :: H)) ?_ (fun _ => ?_) : RT _ _ _ _ _ _ 5 _)
                    · cases hg5 : (decide (((krun z).1.1) < 1)) with
                      | true =>
                        refine (run0 (z := 0) 4 [0, 3, 4, 5, 90, 97] [(0, .slice s.a s.l.length s.c), (3, .pointer (some ⟨k, 0, none⟩)), (4, .int .i64 la), (5, .int .i64 (u : Int)), (90, .bool true), (97, .bool true)] (fun _ => by kernel_rfl) (endR ?_) : RT _ _ _ _ _ _ 4 _)
                        refine PT.keep (L' := [(0, .slice s.a s.l.length s.c), (3, .pointer (some ⟨k, 0, none⟩)), (4, .int .i64 la), (5, .int .i64 (u : Int)), (90, .bool true), (97, .bool (true || (decide (((krun z).1.1) > la))))]) [0, 3, 4, 5, 90, 97] rfl ?_
                        exact midR () rfl rfl
                      | false =>
                        refine (run0 (z := 0) 4 [0, 3, 4, 5, 90, 97] [(0, .slice s.a s.l.length s.c), (3, .pointer (some ⟨k, 0, none⟩)), (4, .int .i64 la), (5, .int .i64 (u : Int)), (90, .bool true), (97, .bool (decide (((krun z).1.1) > la)))] (fun _ => by kernel_rfl) (endR ?_) : RT _ _ _ _ _ _ 4 _)
                        refine PT.keep (L' := [(0, .slice s.a s.l.length s.c), (3, .pointer (some ⟨k, 0, none⟩)), (4, .int .i64 la), (5, .int .i64 (u : Int)), (90, .bool true), (97, .bool (false || (decide (((krun z).1.1) > la))))]) [0, 3, 4, 5, 90, 97] rfl ?_
                        exact midR () rfl rfl
                    refine (run0 (z := 0) 1 [0, 3, 4, 5, 98] [(0, .slice s.a s.l.length s.c), (3, .pointer (some ⟨k, 0, none⟩)), (4, .int .i64 la), (5, .int .i64 (u : Int)), (98, .bool ((decide (((krun z).1.1) < 1)) || (decide (((krun z).1.1) > la))))] (fun _ => by kernel_rfl) (endR ?_) : RT _ _ _ _ _ _ 1 _)
                    rw [show ((decide (((krun z).1.1) < 1)) || (decide (((krun z).1.1) > la))) = false from by simp; omega]
                    refine condR (b := false) (by kernel_rfl) (fun _ => by kernel_rfl) (fun h => by cases h) (fun _ => ?_)
                    refine skipR (by kernel_rfl) ?_
                    refine PT.drop ?_
                    refine PT.keep (L' := [(0, .slice s.a s.l.length s.c), (3, .pointer (some ⟨k, 0, none⟩)), (4, .int .i64 la), (5, .int .i64 (u : Int))]) [0, 3, 4, 5] rfl ?_
                    exact midR (⟨((krun z).2, la), hI.keep (krun_ok hI.ok) rfl⟩) rfl rfl
                · skip
                  refine skipR (by kernel_rfl) ?_
                  refine PT.drop ?_
                  refine PT.keep (L' := [(0, .slice s.a s.l.length s.c), (3, .pointer (some ⟨k, 0, none⟩)), (4, .int .i64 la), (5, .int .i64 (u : Int))]) [0, 3, 4, 5] rfl ?_
                  exact midR (⟨(z, la), hI.keep hI.ok rfl⟩) rfl rfl
      obtain ⟨⟨z', la'⟩, hI'⟩ := Kq
      refine regionR 3 (by kernel_rfl) (by kernel_rfl) ?_
      refine (run0 (z := 0) 3 [0, 3, 4, 5] [(0, .slice s.a s.l.length s.c), (3, .pointer (some ⟨k, 0, none⟩)), (4, .int .i64 la'), (5, .int .i64 (IntKind.i64.wrap ((u : Int) + 1)))] (fun _ => by kernel_rfl) (endR ?_) : RT _ _ _ _ _ _ 3 _)
      rw [show IntKind.i64.wrap ((u : Int) + 1) = ((u : Int) + 1) by rw [w64 (by omega) (by omega)]]
      refine PT.keep (L' := [(0, .slice s.a s.l.length s.c), (3, .pointer (some ⟨k, 0, none⟩)), (4, .int .i64 la'), (5, .int .i64 ((u : Int) + 1))]) [0, 3, 4, 5] rfl ?_
      exact againG (n - 1) (z', la', u + 1) rfl rfl (by omega) ⟨by simp only; omega, hI'⟩
    · skip
      refine exitR 0 (by kernel_rfl) (by kernel_rfl) ?_
      refine thenX ?_
      refine thenX ?_
      refine leaveR ?_
      refine seqR (by kernel_rfl) ?_
      refine regionR 1 (by kernel_rfl) (by kernel_rfl) ?_
      refine (run0 (z := 0) 1 [2] [(2, .bool true)] (fun _ => by kernel_rfl) (endR ?_) : RT _ _ _ _ _ _ 1 _)
      refine retR (by kernel_rfl) ?_
      refine done0 (.bool true) (fun _ => by kernel_rfl) (fun w hs => ?_) .ret (.inr rfl)
      exact ⟨(), rfl, hs.tail⟩
theorem step10_opens (W : World) : Opens Tryz.prog W 27 k10E (fun x => x.2.1 ≤ 9223372036854775807) :=
  (Opens.struct Tryz.underlying27 (by kernel_rfl) (OpensFs.cons rfl (Opens.int (k := .i64) Tryz.underlying3 (by kernel_rfl)) (OpensFs.cons rfl (Opens.int (k := .i64) Tryz.underlying3 (by kernel_rfl)) (OpensFs.cons rfl (Opens.int (k := .i64) Tryz.underlying3 (by kernel_rfl)) (OpensFs.one rfl (Opens.int (k := .i64) Tryz.underlying3 (by kernel_rfl))))))).mono (fun x h => (wf_bounds h.2.1).2)
theorem ids_row (W : World) (ao : Option Addr) (c : Nat) (l : List (Int × Int × Int × Int)) (hrd : Rd k10E W (.slice ao l.length c) l) (hl : ∀ x ∈ l, x.2.1 ≤ 9223372036854775807) : Calls Tryz.prog 3 #[.slice ao l.length c] W (LawPost W) :=
  lawPost (fun _ _ h => h) (ids10_walk [old W] ⟨ao, c, l⟩ (KR.old hrd 0 rfl) W (Sat.start W))
end Go.Proofs.YtlhjibkkkhgonaaGreat
