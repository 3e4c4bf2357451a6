/- Nodes compared; SameNodes. Conditions: none. -/
import Derived.Test.YtjbjngikaiggdaaTl
import Derived.Test.YtjbjngikaiggdaaPq6
set_option linter.unusedVariables false
set_option linter.unusedSimpArgs false
namespace Go.Proofs.Ytjbjngikaiggdaa
open Go.RowKit G
theorem eqFields_bool {P : Program} (w : World) (d : Nat) (xs ys : Array Value) (f : Field) (fs : List Field) (a b : Bool) (hn : (f.name == "_") = false) (hu : P.underlying f.type = some .bool) (hp : P.plainKey f.type = true) (hx : xs[f.offset]? = some (.bool a)) (hy : ys[f.offset]? = some (.bool b)) :
    (Op.eqFields (d + 1) xs ys (f :: fs)).run P w = if (a == b) = true then (Op.eqFields (d + 1) xs ys fs).run P w else .ok false w := by
  have hn' : f.name ≠ "_" := by simpa using hn
  rw [Op.eqFields, if_pos hn']
  simp only [Sem.run_bind, run_part_plain w hp hx, run_part_plain w hp hy, Result.andThen_ok, run_equalIn_bool w d f.type a b hu]
  cases h : (a == b) <;> simp
def ndEq (a b : Nr) : Bool := ((((a.id == b.id && a.par == b.par) && a.wt == b.wt) && a.pass == b.pass) && a.thr == b.thr) && a.rdy == b.rdy
theorem ndEq_self (a : Nr) : ndEq a a = true := by simp [ndEq]
theorem nd_eqv (a b : Nr) (w : World) : (Op.equalIn 10000 53 (ndV a) (ndV b)).run Try.prog w = .ok (ndEq a b) w := by
  unfold ndEq ndV
  rw [run_equalIn_struct w 9999 _ _ _ (by kernel_rfl) (by kernel_rfl)]
  have hl : (Try.prog.fieldsOf 53).toList = [(Try.prog.fieldsOf 53).toList.getD 0 default, (Try.prog.fieldsOf 53).toList.getD 1 default, (Try.prog.fieldsOf 53).toList.getD 2 default, (Try.prog.fieldsOf 53).toList.getD 3 default, (Try.prog.fieldsOf 53).toList.getD 4 default, (Try.prog.fieldsOf 53).toList.getD 5 default] := by kernel_rfl
  rw [hl, eqFields_int w 9998 _ _ _ _ .i64 .i64 a.id b.id (by kernel_rfl) (by kernel_rfl) (by kernel_rfl) (by kernel_rfl) (by kernel_rfl), eqFields_int w 9998 _ _ _ _ .i64 .i64 a.par b.par (by kernel_rfl) (by kernel_rfl) (by kernel_rfl) (by kernel_rfl) (by kernel_rfl),
    eqFields_int w 9998 _ _ _ _ .i64 .i64 a.wt b.wt (by kernel_rfl) (by kernel_rfl) (by kernel_rfl) (by kernel_rfl) (by kernel_rfl), eqFields_int w 9998 _ _ _ _ .i64 .i64 a.pass b.pass (by kernel_rfl) (by kernel_rfl) (by kernel_rfl) (by kernel_rfl) (by kernel_rfl),
    eqFields_bool w 9998 _ _ _ _ a.thr b.thr (by kernel_rfl) (by kernel_rfl) (by kernel_rfl) (by kernel_rfl) (by kernel_rfl), eqFields_bool w 9998 _ _ _ _ a.rdy b.rdy (by kernel_rfl) (by kernel_rfl) (by kernel_rfl) (by kernel_rfl) (by kernel_rfl)]
  cases a.id == b.id <;> cases a.par == b.par <;> cases a.wt == b.wt <;> cases a.pass == b.pass <;> cases a.thr == b.thr <;> cases a.rdy == b.rdy <;> simp [Op.eqFields]
theorem nd_neq (a b : Nr) (x y : Operand) (w : World) : (do eqGuard .neq 53 x y (ndV a) (ndV b); binOp .neq 53 (ndV a) (ndV b) : Sem Value).run Try.prog w = .ok (.bool (!ndEq a b)) w := by
  have h := nd_eqv a b w
  unfold ndV at h ⊢
  rw [Sem.run_bind, run_eqGuard_agg w _ _ _ _ _ _ (by kernel_rfl)]
  simp only [Result.andThen_ok]
  rw [run_neq_struct, h]
  rfl
set_option maxHeartbeats 1000000 in
set_option maxRecDepth 100000 in
theorem sameNodes_walk (H : List SP) (s1 s2 : SV Nr) (h1 : KR H nE s1) (h2 : KR H nE s2) (hl : s1.l.length ≤ 1000000) (hlen : s1.l.length = s2.l.length) (heq : ∀ (i : Nat) x y, s1.l[i]? = some x → s2.l[i]? = some y → ndEq x y = true) : ∀ w, Sat w H → Calls Try.prog 18 #[.slice s1.a s1.l.length s1.c, .slice s2.a s2.l.length s2.c] w (Ret (ι := Unit) (fun _ => .bool true) fun _ => H) := by
  refine enterG (fn := Try.f18) 26 [.slice s1.a s1.l.length s1.c, .slice s2.a s2.l.length s2.c] Try.func18 (by kernel_rfl) (by kernel_rfl) (by kernel_rfl) ?_
  refine seqR (by kernel_rfl) ?_
  refine regionR 1 (by kernel_rfl) (by kernel_rfl) ?_
  refine (run0 (z := 0) 1 [0, 1, 4] [(0, .slice s1.a s1.l.length s1.c), (1, .slice s2.a s2.l.length s2.c), (4, .bool false)] (fun _ => by kernel_rfl) (endR ?_) : RT _ _ _ _ _ _ 1 _)
  refine seqR (by kernel_rfl) ?_
  refine seqR (by kernel_rfl) ?_
  refine regionR 5 (by kernel_rfl) (by kernel_rfl) ?_
  refine (run0 (z := 0) 5 [0, 1, 4, 10] [(0, .slice s1.a s1.l.length s1.c), (1, .slice s2.a s2.l.length s2.c), (4, .bool false), (10, .bool ((s1.l.length : Int) != (s2.l.length : Int)))] (fun _ => by kernel_rfl) (endR ?_) : RT _ _ _ _ _ _ 5 _)
  refine condR (b := (s1.l.length : Int) != (s2.l.length : Int)) (by kernel_rfl) (fun _ => by kernel_rfl) (fun h0 => ?_) (fun h0 => ?_)
  · skip
    exact absurd h0 (by rw [hlen]; simp)
  · skip
    refine skipR (by kernel_rfl) ?_
    refine seqR (by kernel_rfl) ?_
    refine seqR (by kernel_rfl) ?_
    refine regionR 1 (by kernel_rfl) (by kernel_rfl) ?_
    refine (run0 (z := 0) 1 [0, 1, 4, 5] [(0, .slice s1.a s1.l.length s1.c), (1, .slice s2.a s2.l.length s2.c), (4, .bool false), (5, .int .i64 0)] (fun _ => by kernel_rfl) (endR ?_) : RT _ _ _ _ _ _ 1 _)
    refine blockR 0 (by kernel_rfl) (by kernel_rfl) ?_
    refine PT.keep (L' := [(0, .slice s1.a s1.l.length s1.c), (1, .slice s2.a s2.l.length s2.c), (4, .bool false), (5, .int .i64 0)]) [0, 1, 4, 5] rfl ?_
    refine loopG (fun (u : Nat) => [(0, .slice s1.a s1.l.length s1.c), (1, .slice s2.a s2.l.length s2.c), (4, .bool false), (5, .int .i64 (u : Int))]) (fun (u : Nat) => (H)) (fun k (u : Nat) => k + u = s1.l.length) s1.l.length 0 (by kernel_rfl) rfl ?_
    rintro k u hku
    refine seqR (by kernel_rfl) ?_
    refine seqR (by kernel_rfl) ?_
    refine regionR 4 (by kernel_rfl) (by kernel_rfl) ?_
    refine (run0 (z := 0) 4 [0, 1, 4, 5, 14] [(0, .slice s1.a s1.l.length s1.c), (1, .slice s2.a s2.l.length s2.c), (4, .bool false), (5, .int .i64 (u : Int)), (14, .bool (decide ((u : Int) < (s1.l.length : Int))))] (fun _ => by kernel_rfl) (endR ?_) : RT _ _ _ _ _ _ 4 _)
    refine condR (b := decide ((u : Int) < (s1.l.length : Int))) (by kernel_rfl) (fun _ => by kernel_rfl) (fun h3 => ?_) (fun h3 => ?_)
    · skip
      have hu : u < s1.l.length := by have := of_decide_eq_true h3; omega
      obtain ⟨x, hx⟩ : ∃ x, s1.l[u]? = some x := ⟨_, List.getElem?_eq_getElem hu⟩
      obtain ⟨y, hy⟩ : ∃ y, s2.l[u]? = some y := ⟨_, List.getElem?_eq_getElem (by omega)⟩
      have hxy := heq u x y hx hy
      refine PT.know ((h1).isSome (List.ne_nil_of_length_pos (by omega))) ?_
      rintro ⟨b1, o1, hA1⟩
      try rw [hA1]
      refine PT.know ((h2).isSome (List.ne_nil_of_length_pos (by omega))) ?_
      rintro ⟨b2, o2, hA2⟩
      try rw [hA2]
      refine skipR (by kernel_rfl) ?_
      refine seqR (by kernel_rfl) ?_
      refine blockR 1 (by kernel_rfl) (by kernel_rfl) ?_
      refine seqR (by kernel_rfl) ?_
      refine drawR (fun w => Sat w (H)) [] 9 (by kernel_rfl) (by kernel_rfl) (by kernel_rfl) (fun _ h => by first | exact h | exact h.tail | exact h.tail.tail | exact h.tail.tail.tail | exact h.tail.tail.tail.tail) ?_
      refine takesR [0, 1, 4, 5] [0, 1, 4, 5, 17, 18, 21, 22] 5 [true, true, false, false, true, true, false, false, false] [(0, .slice (some ⟨b1, o1, none⟩) s1.l.length s1.c), (1, .slice (some ⟨b2, o2, none⟩) s2.l.length s2.c), (4, .bool false), (5, .int .i64 (u : Int)), (17, .slice (some ⟨b1, o1, none⟩) s1.l.length s1.c), (18, .int .i64 (u : Int)), (21, .slice (some ⟨b2, o2, none⟩) s2.l.length s2.c), (22, .int .i64 (u : Int))] [] rfl (fun _ d _ _ _ h => by cases d <;> exact h) (fun _ h => by first | exact h | exact h.tail | exact h.tail.tail | exact h.tail.tail.tail | exact h.tail.tail.tail.tail) has0 (fun _ => by kernel_rfl) ?_
      refine takeR1 2 4 [true, true, true, false, true, true, false, false, false] rfl rfl (by kernel_rfl) (fun _ d _ _ _ h => by cases d <;> exact h) (fun _ h => by first | exact h | exact h.tail | exact h.tail.tail | exact h.tail.tail.tail | exact h.tail.tail.tail.tail) (idxY 39 (.tmp 17) (.tmp 18) b1 o1 s1.l.length s1.c u 6 53 (u : Int) .i64 (some 19) (fun _ => by kernel_rfl) (by kernel_rfl) (by kernel_rfl) (fun _ => by kernel_rfl) (fun _ => by kernel_rfl) Try.underlying39 (by kernel_rfl) (by first | rfl | assumption | simp) (by first | omega | (simp; done) | (simp; omega) | (simp at *; omega))) ?_
      refine takesR [3] [0, 1, 4, 5, 21, 22, 20] 3 [true, true, true, true, true, true, false, false, false] [(0, .slice (some ⟨b1, o1, none⟩) s1.l.length s1.c), (1, .slice (some ⟨b2, o2, none⟩) s2.l.length s2.c), (4, .bool false), (5, .int .i64 (u : Int)), (21, .slice (some ⟨b2, o2, none⟩) s2.l.length s2.c), (22, .int .i64 (u : Int)), (20, .agg #[.int .i64 x.id, .int .i64 x.par, .int .i64 x.wt, .int .i64 x.pass, .bool x.thr, .bool x.rdy])] [(⟨b1, o1 + u * 6, none⟩, .int .i64 x.id), (⟨b1, o1 + u * 6 + 1, none⟩, .int .i64 x.par), (⟨b1, o1 + u * 6 + 2, none⟩, .int .i64 x.wt), (⟨b1, o1 + u * 6 + 3, none⟩, .int .i64 x.pass), (⟨b1, o1 + u * 6 + 4, none⟩, .bool x.thr), (⟨b1, o1 + u * 6 + 5, none⟩, .bool x.rdy)] rfl (fun _ d _ _ _ h => by cases d <;> exact h) (fun _ h => by first | exact h | exact h.tail | exact h.tail.tail | exact h.tail.tail.tail | exact h.tail.tail.tail.tail) (hasC (h1.cell hA1 (i := u) (x := x) hx (j := 0) rfl) (hasC (h1.cell hA1 (i := u) (x := x) hx (j := 1) rfl) (hasC (h1.cell hA1 (i := u) (x := x) hx (j := 2) rfl) (hasC (h1.cell hA1 (i := u) (x := x) hx (j := 3) rfl) (hasC (h1.cell hA1 (i := u) (x := x) hx (j := 4) rfl) (hasC (h1.cell hA1 (i := u) (x := x) hx (j := 5) rfl) has0)))))) (fun _ => by kernel_rfl) ?_
      refine takeR1 6 2 [true, true, true, true, true, true, true, false, false] rfl rfl (by kernel_rfl) (fun _ d _ _ _ h => by cases d <;> exact h) (fun _ h => by first | exact h | exact h.tail | exact h.tail.tail | exact h.tail.tail.tail | exact h.tail.tail.tail.tail) (idxY 39 (.tmp 21) (.tmp 22) b2 o2 s2.l.length s2.c u 6 53 (u : Int) .i64 (some 23) (fun _ => by kernel_rfl) (by kernel_rfl) (by kernel_rfl) (fun _ => by kernel_rfl) (fun _ => by kernel_rfl) Try.underlying39 (by kernel_rfl) (by first | rfl | assumption | simp) (by first | omega | (simp; done) | (simp; omega) | (simp at *; omega))) ?_
      refine takesR [7] [0, 1, 4, 5, 20, 24] 1 [true, true, true, true, true, true, true, true, false] [(0, .slice (some ⟨b1, o1, none⟩) s1.l.length s1.c), (1, .slice (some ⟨b2, o2, none⟩) s2.l.length s2.c), (4, .bool false), (5, .int .i64 (u : Int)), (20, .agg #[.int .i64 x.id, .int .i64 x.par, .int .i64 x.wt, .int .i64 x.pass, .bool x.thr, .bool x.rdy]), (24, .agg #[.int .i64 y.id, .int .i64 y.par, .int .i64 y.wt, .int .i64 y.pass, .bool y.thr, .bool y.rdy])] [(⟨b2, o2 + u * 6, none⟩, .int .i64 y.id), (⟨b2, o2 + u * 6 + 1, none⟩, .int .i64 y.par), (⟨b2, o2 + u * 6 + 2, none⟩, .int .i64 y.wt), (⟨b2, o2 + u * 6 + 3, none⟩, .int .i64 y.pass), (⟨b2, o2 + u * 6 + 4, none⟩, .bool y.thr), (⟨b2, o2 + u * 6 + 5, none⟩, .bool y.rdy)] rfl (fun _ d _ _ _ h => by cases d <;> exact h) (fun _ h => by first | exact h | exact h.tail | exact h.tail.tail | exact h.tail.tail.tail | exact h.tail.tail.tail.tail) (hasC (h2.cell hA2 (i := u) (x := y) hy (j := 0) rfl) (hasC (h2.cell hA2 (i := u) (x := y) hy (j := 1) rfl) (hasC (h2.cell hA2 (i := u) (x := y) hy (j := 2) rfl) (hasC (h2.cell hA2 (i := u) (x := y) hy (j := 3) rfl) (hasC (h2.cell hA2 (i := u) (x := y) hy (j := 4) rfl) (hasC (h2.cell hA2 (i := u) (x := y) hy (j := 5) rfl) has0)))))) (fun _ => by kernel_rfl) ?_
      refine takeR1 8 0 [true, true, true, true, true, true, true, true, true] rfl rfl (by kernel_rfl) (fun _ d _ _ _ h => by cases d <;> exact h) (fun _ h => by first | exact h | exact h.tail | exact h.tail.tail | exact h.tail.tail.tail | exact h.tail.tail.tail.tail) (binY .neq 53 53 (.tmp 20) (.tmp 24) (.agg #[.int .i64 x.id, .int .i64 x.par, .int .i64 x.wt, .int .i64 x.pass, .bool x.thr, .bool x.rdy]) (.agg #[.int .i64 y.id, .int .i64 y.par, .int .i64 y.wt, .int .i64 y.pass, .bool y.thr, .bool y.rdy]) (.bool (!ndEq x y)) (some 25) (fun _ => by kernel_rfl) (by kernel_rfl) (by kernel_rfl) (fun _ => by kernel_rfl) (fun _ => by kernel_rfl) ((nd_neq x y _ _))) ?_
      rw [show ndEq x y = true by rw [hxy]]
      refine drawnR (by kernel_rfl) ?_
      refine condR (b := false) (by kernel_rfl) (fun _ => by kernel_rfl) (fun h => by cases h) (fun _ => ?_)
      refine skipR (by kernel_rfl) ?_
      refine regionR 3 (by kernel_rfl) (by kernel_rfl) ?_
      refine (run0 (z := 0) 3 [0, 1, 4, 5] [(0, .slice (some ⟨b1, o1, none⟩) s1.l.length s1.c), (1, .slice (some ⟨b2, o2, none⟩) s2.l.length s2.c), (4, .bool false), (5, .int .i64 (IntKind.i64.wrap ((u : Int) + 1)))] (fun _ => by kernel_rfl) (endR ?_) : RT _ _ _ _ _ _ 3 _)
      rw [show IntKind.i64.wrap ((u : Int) + 1) = ((u + 1 : Nat) : Int) by rw [w64 (by omega) (by omega)]; rfl]
      try rw [← hA1]
      try rw [← hA2]
      refine PT.keep (L' := [(0, .slice s1.a s1.l.length s1.c), (1, .slice s2.a s2.l.length s2.c), (4, .bool false), (5, .int .i64 ((u + 1 : Nat) : Int))]) [0, 1, 4, 5] rfl ?_
      exact againG (k - 1) (u + 1) rfl rfl (by omega) (by omega)
    · skip
      refine exitR 0 (by kernel_rfl) (by kernel_rfl) ?_
      refine thenX ?_
      refine thenX ?_
      refine leaveR ?_
      refine seqR (by kernel_rfl) ?_
      refine regionR 1 (by kernel_rfl) (by kernel_rfl) ?_
      refine (run0 (z := 0) 1 [4] [(4, .bool true)] (fun _ => by kernel_rfl) (endR ?_) : RT _ _ _ _ _ _ 1 _)
      refine retR (by kernel_rfl) ?_
      refine done0 (.bool true) (fun _ => by kernel_rfl) (fun w hs => ?_) .ret (.inr rfl)
      exact ⟨(), rfl, hs⟩
end Go.Proofs.Ytjbjngikaiggdaa
