/- Texts put together: G: append to rows, rows and blocks. passq: comparing, finding; New, Min, Len, Pass. passq: New, isPass, Min, Len, Pass. passq: the search for a place; insert. passq: insert, Put, Drop, Rekey. math/bits.Len of small numbers: its walk. slices.SortFunc of entries that are in order: it changes nothing. Conditions: the row is in order. passq: All, Shift. errors.Is of numbered errors: its walk. passq: entries compared; errors; what the laws know first. Trees: their nodes as a list, what each operation makes of it; nodes in memory. A map's keys, sorted: slices.Sorted(maps.Keys(m)), by the shelf's contracts. Whole numbers below 2^53 as floats: exact, in their order, back again; sums and products. Whole numbers as floats: comparisons, sums, conversions as operations. Trees: what an index holds of a group, when one node changes. A builtin of two operands in G; the greater of two whole numbers as floats. tree: strides, passes as floats; New, Deep, Node. tree: New, Deep, Node. Conditions: none. -/
import Derived.Test.YtfhkgohokbkgiaaGreatDoorMgWb0
import Derived.Lib.BitFns
import Derived.Lib.Tables
import Derived.LaidEql
import Derived.Stop.Asserts
import Derived.RowKitTokens
import Derived.Lib.IfaceEq
import Derived.Laws.StructEq
import Derived.ChangeKeysEq
import Derived.Shelf.SlIterI.Sorted
import Derived.Shelf.SortM.Plain
import Derived.Shelf.SortM.SortNone
import Derived.Laws.FloatArith
import Ieee.Arith
set_option linter.unusedVariables false
set_option linter.unusedSimpArgs false
namespace Go.Proofs.YtfhkgohokbkgiaaGreatDoor
open Go.RowKit G
namespace G
section
variable {α : Type} {E : Enc α} {T : TypeId} {H : List SP} {P : Program} {n : Nat} {L : List (Nat × Value)} {c : Code}
theorem Row.uniq {w : World} {F F' : Nat → Prop} {v : Value} {xs : List α} (h : Row E T w F v xs) (h' : Row E T w F' v xs) : F = F' := by
  rcases h with ⟨h1, _, rfl⟩ | ⟨b, o, c, cur, h1, rfl, _⟩ <;> rcases h' with ⟨g1, _, rfl⟩ | ⟨b', o', c', cur', g1, rfl, _⟩
  · rfl
  · rw [h1] at g1; cases g1
  · rw [h1] at g1; cases g1
  · rw [h1] at g1; injection g1 with e1; injection e1 with e2; injection e2 with e3; rw [e3]
theorem row_form {w : World} {F : Nat → Prop} {v : Value} {xs : List α} (h : Row E T w F v xs) : ∃ A c, v = .slice A xs.length c := by
  rcases h with ⟨h1, h2, _⟩ | ⟨b, o, c, cur, h1, _⟩
  · exact ⟨none, 0, by rw [h1, h2]; rfl⟩
  · exact ⟨_, _, h1⟩
theorem rowKR {A : Option Addr} {k : Nat} {xs : List α} : KR (row E T (.slice A xs.length k) xs :: H) E ⟨A, k, xs⟩ := by
  intro w hs
  obtain ⟨G, hG⟩ := hs.head
  exact hG.rd
theorem rowKRat (i : Nat) {A : Option Addr} {k : Nat} {xs : List α} (hi : H[i]? = some (row E T (.slice A xs.length k) xs)) : KR H E ⟨A, k, xs⟩ := fun w hs => rowKR w (hs.pick i hi)
theorem Sat.rowNil {w : World} (h : Sat w H) : Sat w (row E T (.slice none 0 0) [] :: H) := h.fresh (Upd.refl _ w) (Row.nil E T w) (fun b hb => hb.elim)
theorem PT.rowNil (E : Enc α) (T : TypeId) {Φ : Act → World → Prop} (h : PT n L (row E T (.slice none 0 0) [] :: H) Φ) : PT n L H Φ := PT.sat (fun w hs => Sat.rowNil hs) h
theorem Sat.blkRow {w : World} {b : Nat} {x : α} (h : Sat w (blk b T (E.enc x) :: H)) : Sat w (row E T (.slice (some ⟨b, 0, none⟩) 1 1) [x] :: H) :=
  Sat.change h fun G hG => by
    refine ⟨Upd.refl _ w, OneB b, .inr ⟨b, 0, 1, _, rfl, rfl, hG.1, by simp, by simp [maxLen], by simp [E.len], ?_⟩, fun x hx => .inl ((hG.2 x).2 hx)⟩
    simp only [List.drop_zero, List.length_singleton, Nat.one_mul, Enc.flat_one]
    rw [← E.len x]; exact List.take_length
theorem PT.blkRow {b : Nat} {x : α} {Φ : Act → World → Prop} (h : PT n L (row E T (.slice (some ⟨b, 0, none⟩) 1 1) [x] :: H) Φ) : PT n L (blk b T (E.enc x) :: H) Φ := PT.sat (fun w hs => Sat.blkRow hs) h
theorem blkRd (i : Nat) {b : Nat} {x : α} (hi : H[i]? = some (blk b T (E.enc x))) : ∀ w, Sat w H → Rd E w (.slice (some ⟨b, 0, none⟩) 1 1) [x] := by
  intro w hs
  obtain ⟨G, hG⟩ := (hs.pick i hi).head
  exact Rd.one hG.1
theorem Ety.of {z : Value} {b : Nat} (hi : (P.info? T).map (fun i => (i.zero, i.size, i.bytes)) = some (some z, E.k, b)) (hb : b ≤ 65536) (hz : z.cells.size = E.k) : Ety P E T z := by
  cases h : P.info? T with
  | none => rw [h] at hi; cases hi
  | some i =>
    rw [h] at hi
    simp only [Option.map_some, Option.some.injEq, Prod.mk.injEq] at hi
    exact ⟨⟨i, h, hi.1, hi.2.1, by rw [hi.2.2]; exact hb⟩, hz⟩
/-- A cell of an element of a row is stored. -/
theorem setS {i b o m k J j : Nat} {xs : List α} (x x' : α) (u : Value) (ad : Addr) (h : ∀ rest, storesOk P n c i L rest = some [(ad, u)]) (had : ad = ⟨b, o + J * E.k + j, none⟩) (hx : xs[J]? = some x) (he : E.enc x' = (E.enc x).set j u) (hj : j < E.k) :
    Step (ι := Unit) P n L (row E T (.slice (some ⟨b, o, none⟩) m k) xs :: H) c i none (fun _ => undef) (fun _ => row E T (.slice (some ⟨b, o, none⟩) m k) (xs.set J x') :: H) := by
  subst had
  refine skipS _ (fun rest => (storesOk_spec (h rest)).1) (storesOk_spec (h fun _ => undef)).2.1 ?_
  intro rest w _ hs
  obtain ⟨G, hG⟩ := hs.head
  have hme : m = xs.length := hG.lenEq
  subst hme
  refine ⟨_, writesL_run _ (storesOk_spec (h rest)).2.2 ?_, ?_⟩
  · intro q hq
    simp only [List.mem_singleton] at hq
    subst hq
    refine ⟨?_, hG.frozen rfl _⟩
    have hr : Rd E w _ xs := hG.rd
    obtain ⟨b', o', k', hv, _, _, hc⟩ := hr.at (i := J) (List.getElem?_eq_some_iff.1 hx).1
    cases hv
    have hjl : j < (E.enc x).length := by rw [E.len]; exact hj
    rw [hc J j x _ hx (List.getElem?_eq_getElem hjl)]
    rfl
  · refine Sat.change hs fun G' hG' => ?_
    have hu := Row.uniq hG' hG
    subst hu
    refine ⟨?_, G', Row.set hG' hx he hj, fun x hx => .inl hx⟩
    rcases hG' with ⟨hv, _, _⟩ | ⟨b', o', c', cur, hv, hF, _⟩
    · cases hv
    · cases hv
      exact Upd.setCell w _ _ (by rw [hF]; rfl)
theorem appS {z : Value} {i : Nat} (t : TypeId) (s x : Operand) (A : Option Addr) (cap : Nat) (xs ys : List α) (vy : Value) (d : Option Tmp)
    (hg : ∀ rest, goes n c i L rest = true) (hd : (opAt c i).dst = d) (hop : (opAt c i).op = .call { callee := .builtin .append, args := #[s, x], argTypes := #[t, t] })
    (hs : ∀ rest, evalL L rest s = .slice A xs.length cap) (hx : ∀ rest, evalL L rest x = vy)
    (ht : P.underlying t = some (.slice T)) (hE : Ety P E T z)
    (hy : ∀ w, Sat w (row E T (.slice A xs.length cap) xs :: H) → Rd E w vy ys) (hn : xs.length + ys.length ≤ 1073741824) :
    Step P n L (row E T (.slice A xs.length cap) xs :: H) c i d (fun p : Option Addr × Nat => .slice p.1 (xs ++ ys).length p.2) (fun p => row E T (.slice p.1 (xs ++ ys).length p.2) (xs ++ ys) :: H) := by
  refine valueS d _ _ hg hd ?_
  intro rest w _ hsat
  obtain ⟨G, hG⟩ := hsat.head
  obtain ⟨v', w', F', h1, h2, h3, h4, _⟩ := run_append_row (ty := (opAt c i).type) ht hE hG (hy w hsat) hn
  obtain ⟨A', k', rfl⟩ := row_form h2
  refine ⟨(A', k'), w', ?_, ?_⟩
  · rw [show execOp (evalL L rest) (opAt c i) = _ from rfl]
    unfold execOp
    simp only [hop, resolve, invoke, builtin, Sem.run_bind, Sem.run_pure, Result.andThen_ok, List.map_toArray, List.map_cons, List.map_nil, hs, hx, h1]
  · exact Sat.change hsat fun G' hG' => by
      have := Row.uniq hG' hG
      subst this
      exact ⟨h3, F', h2, h4⟩
end
theorem cvtY {P : Program} {n : Nat} {L : List (Nat × Value)} {c : Code} {S : World → Prop} {i : Nat} (src dst : TypeId) (x : Operand) (vx v : Value) (d : Option Tmp) (hg : ∀ rest, goes n c i L rest = true) (hd : (opAt c i).dst = d) (hop : (opAt c i).op = .convert src dst x)
    (hx : ∀ rest, evalL L rest x = vx) (hr : ∀ w, (convert src dst vx).run P w = .ok v w) : Yld P n L S c i d v := by
  refine ⟨hg, hd, fun rest w _ _ => ?_⟩
  unfold execOp
  simp only [hop, hx rest, Sem.run_bind, hr w, Result.andThen_ok]
  rfl
theorem quoR {P : Program} {t t' : TypeId} {x y : Operand} {k : IntKind} {a b : Int} (hb : b ≠ 0) (w : World) : (do eqGuard .quo t x y (.int k a) (.int k b); binOp .quo t (.int k a) (.int k b) : Sem Value).run P w = .ok (.int k (k.wrap (a.tdiv b))) w := by
  simp [eqGuard, binOp, Op.intDiv, hb, Sem.run_bind]
theorem remR {P : Program} {t t' : TypeId} {x y : Operand} {k : IntKind} {a b : Int} (hb : b ≠ 0) (w : World) : (do eqGuard .rem t x y (.int k a) (.int k b); binOp .rem t (.int k a) (.int k b) : Sem Value).run P w = .ok (.int k (a.tmod b)) w := by
  simp [eqGuard, binOp, Op.intDiv, hb, Sem.run_bind]
end G
end Go.Proofs.YtfhkgohokbkgiaaGreatDoor
namespace Go.Proofs.YtfhkgohokbkgiaaGreatDoor.G
section
variable {α : Type} {E : Enc α} {T : TypeId} {H : List SP} {P : Program} {n : Nat} {L : List (Nat × Value)} {c : Code}
theorem Xf {z : Value} {i : Nat} (t : TypeId) (s x : Operand) (A : Option Addr) (cap : Nat) (xs ys : List α) (vy : Value) (d : Nat) (ht : P.underlying t = some (.slice T)) (hE : Ety P E T z) (hy : ∀ w, Sat w (row E T (.slice A xs.length cap) xs :: H) → Rd E w vy ys) (hn : xs.length + ys.length ≤ 1073741824)
    (hg : ∀ rest, goes n c i L rest = true := by intro _; kernel_rfl) (hd : (opAt c i).dst = some d := by kernel_rfl) (hop : (opAt c i).op = .call { callee := .builtin .append, args := #[s, x], argTypes := #[t, t] } := by kernel_rfl) (hs : ∀ rest, evalL L rest s = .slice A xs.length cap := by intro _; kernel_rfl) (hx : ∀ rest, evalL L rest x = vy := by intro _; kernel_rfl) :
    Step P n L (row E T (.slice A xs.length cap) xs :: H) c i (some d) (fun p : Option Addr × Nat => .slice p.1 (xs ++ ys).length p.2) (fun p => row E T (.slice p.1 (xs ++ ys).length p.2) (xs ++ ys) :: H) := appS t s x A cap xs ys vy (some d) hg hd hop hs hx ht hE hy hn
end
end Go.Proofs.YtfhkgohokbkgiaaGreatDoor.G
set_option linter.unusedVariables false
set_option linter.unusedSimpArgs false
namespace Go.Proofs.YtfhkgohokbkgiaaGreatDoor
open Go.RowKit G
def cmpI (x y : Int) : Int := if x < y then -1 else if x > y then 1 else 0
set_option maxRecDepth 100000 in
theorem isNaN_walk (H : List SP) (x : Int) : ∀ w, Sat w H → Calls Tryz.prog 236 #[vi x] w (Ret (ι := Unit) (fun _ => .bool false) fun _ => H) := by
 refine enterG (fn := Tryz.f236) 6 [vi x] Tryz.func236 (by kernel_rfl) (by kernel_rfl) (by kernel_rfl) ?_
 refine Xq (Xg 1 (Xe [(0,vi x), (2,.bool false)] ?_ 1))
 refine Xq (Xg 4 (Xe [(2,.bool (x != x))] ?_ 4))
 refine Xv (Y0 (.bool (x != x)) (fun w hs => ?_))
 exact ⟨(), by simp, hs⟩
set_option maxRecDepth 100000 in
theorem cmpI_walk (H : List SP) (x y : Int) : ∀ w, Sat w H → Calls Tryz.prog 226 #[vi x, vi y] w (Ret (ι := Unit) (fun _ => vi (cmpI x y)) fun _ => H) := by
 refine enterG (fn := Tryz.f226) 20 [vi x, vi y] Tryz.func226 (by kernel_rfl) (by kernel_rfl) (by kernel_rfl) ?_
 refine Xq (Xg 1 (Xe [(0,vi x), (1,vi y), (4,vi 0)] ?_ 1))
 refine Xq (Xg 3 (Xr [(0,vi x), (1,vi y), (4,vi 0), (7,vi x)] ?_ 2 1))
 refine Xs (Xa (some 8) (fun _ => .bool false) (isNaN_walk _ x)) (fun _ => ?_) 1
 refine Xe [(0,vi x), (1,vi y), (4,vi 0), (5,.bool false)] ?_ 1
 refine Xq (Xg 3 (Xr [(0,vi x), (1,vi y), (4,vi 0), (5,.bool false), (9,vi y)] ?_ 2 1))
 refine Xs (Xa (some 10) (fun _ => .bool false) (isNaN_walk _ y)) (fun _ => ?_) 1
 refine Xe [(0,vi x), (1,vi y), (4,vi 0), (5,.bool false), (6,.bool false)] ?_ 1
 refine Xq (Xq (Xg 1 (Xe [(0,vi x), (1,vi y), (4,vi 0), (6,.bool false), (11,.bool false)] ?_ 1)))
 refine Xc false (fun h => by cases h) (fun _ => ?_)
 refine Xk (Xq (Xq (Xg 1 (Xe [(0,vi x), (1,vi y), (4,vi 0), (13,.bool false)] ?_ 1))))
 refine Xc false (fun h => by cases h) (fun _ => ?_)
 refine Xk (Xq (Xq (Xg 3 (Xe [(0,vi x), (1,vi y), (4,vi 0), (16,.bool (decide (x < y)))] ?_ 3))))
 refine Xc (decide (x < y)) (fun h1 => ?_) (fun h1 => ?_)
 ·skip
  refine Xq (Xg 1 (Xe [(0,vi x), (1,vi y), (4,vi (-1))] ?_ 1))
  refine Xv (thenV (Y0 (vi (-1)) (fun w hs => ?_)))
  exact ⟨(), by rw [cmpI, if_pos (of_decide_eq_true h1)], hs⟩
 ·skip
  refine Xk (Xq (Xq (Xg 3 (Xe [(4,vi 0), (19,.bool (decide (x > y)))] ?_ 3))))
  refine Xc (decide (x > y)) (fun h2 => ?_) (fun h2 => ?_)
  ·skip
   refine Xq (Xg 1 (Xe [(4,vi 1)] ?_ 1))
   refine Xv (thenV (Y0 (vi 1) (fun w hs => ?_)))
   exact ⟨(), by rw [cmpI, if_neg (of_decide_eq_false h1), if_pos (of_decide_eq_true h2)], hs⟩
  ·skip
   refine Xk (Xq (Xg 1 (Xe [(4,vi 0)] ?_ 1)))
   refine Xv (Y0 (vi 0) (fun w hs => ?_))
   exact ⟨(), by rw [cmpI, if_neg (of_decide_eq_false h1), if_neg (of_decide_eq_false h2)], hs⟩
def orI (x y : Int) : Int := if x != 0 then x else y
set_option maxRecDepth 100000 in
theorem or_walk (H : List SP) (b : Nat) (x y : Int) : ∀ w, Sat w (blk b 3 [vi x, vi y] :: H) → Calls Tryz.prog 225 #[.slice (some ⟨b, 0, none⟩) 2 2] w (Ret (ι := Unit) (fun _ => vi (orI x y)) fun _ => blk b 3 [vi x, vi y] :: H) := by
 refine enterG (fn := Tryz.f225) 18 [.slice (some ⟨b, 0, none⟩) 2 2] Tryz.func225 (by kernel_rfl) (by kernel_rfl) (by kernel_rfl) ?_
 refine Xq (Xg 1 (Xe [(0,.slice (some ⟨b, 0, none⟩) 2 2), (2,vi 0)] ?_ 1))
 refine Xq (Xg 1 (Xe [(0,.slice (some ⟨b, 0, none⟩) 2 2), (2,vi 0), (3,vi 0)] ?_ 1))
 refine Xq (Xq (Xg 3 (Xe [(2,vi 0), (3,vi 0), (6,.slice (some ⟨b, 0, none⟩) 2 2), (7,vi 2), (8,vi 0)] ?_ 3)))
 refine Xb 0 (Xp [(2,vi 0), (3,vi 0), (6,.slice (some ⟨b, 0, none⟩) 2 2), (7,vi 2), (8,vi 0)] (Xl0 (fun (u : Nat) => [(2,vi 0), (3,vi 0), (6,.slice (some ⟨b, 0, none⟩) 2 2), (7,vi 2), (8,vi u)]) (fun k (u : Nat) => k + u = 2 ∧ (1 ≤ u → x = 0) ∧ (2 ≤ u → y = 0)) 2 0 (by kernel_rfl) ⟨rfl, by omega, by omega⟩ ?_))
 rintro k u ⟨hku, hx, hy⟩
 have hu3 : u = 0 ∨ u = 1 ∨ u = 2 := by omega
 rcases hu3 with rfl | rfl | rfl
 ·skip
  refine Xq (Xg 1 (Xe [(2,vi 0), (3,vi 0), (6,.slice (some ⟨b, 0, none⟩) 2 2), (7,vi 2), (8,vi 0), (9,.bool true)] ?_ 1))
  refine Xq (Xc true (fun _ => ?_) (fun h => by cases h))
  refine Xk (Xq (Xb 1 (Xq (Xg 3 (Xs (yldS (Xi 42 (.tmp 6) (.tmp 8) b 0 2 2 0 1 3 0 10 Tryz.underlying42)) (fun _ => ?_) 2)))))
  refine Xm [(2,vi 0), (3,vi 0), (6,.slice (some ⟨b, 0, none⟩) 2 2), (7,vi 2), (8,vi 0), (5,vi x)] [(⟨b, 0 + 0 * 1, none⟩, vi x)] (hasC ((ba 0)) has0) ?_ 2
  refine Xq (Xg 3 (Xe [(2,vi 0), (3,vi 0), (6,.slice (some ⟨b, 0, none⟩) 2 2), (7,vi 2), (8,vi 0), (5,vi x), (14,.bool (x != 0))] ?_ 3))
  refine Xc (x != 0) (fun h1 => ?_) (fun h1 => ?_)
  ·skip
   refine Xq (Xg 2 (Xe [(2,vi x), (3,vi 0), (6,.slice (some ⟨b, 0, none⟩) 2 2), (7,vi 2), (8,vi 0)] ?_ 2))
   refine Xv (blockV (thenV (thenV (blockV (thenV (Y0 (vi x) (fun w hs => ?_)))))))
   exact ⟨(), by rw [orI, if_pos h1], hs⟩
  ·skip
   refine Xk (Xg 2 (Xe [(2,vi 0), (3,vi 0), (6,.slice (some ⟨b, 0, none⟩) 2 2), (7,vi 2), (8,vi (IntKind.i64.wrap (0 + 1)))] ?_ 2))
   refine Xp [(2,vi 0), (3,vi 0), (6,.slice (some ⟨b, 0, none⟩) 2 2), (7,vi 2), (8,vi (IntKind.i64.wrap (0 + 1)))] ?_
   exact againG (k - 1) 1 rfl rfl (by omega) ⟨by omega, fun _ => by simpa using h1, by omega⟩
 ·skip
  refine Xq (Xg 1 (Xe [(2,vi 0), (3,vi 0), (6,.slice (some ⟨b, 0, none⟩) 2 2), (7,vi 2), (8,vi 1), (9,.bool true)] ?_ 1))
  refine Xq (Xc true (fun _ => ?_) (fun h => by cases h))
  refine Xk (Xq (Xb 1 (Xq (Xg 3 (Xs (yldS (Xi 42 (.tmp 6) (.tmp 8) b 0 2 2 1 1 3 1 10 Tryz.underlying42)) (fun _ => ?_) 2)))))
  refine Xm [(2,vi 0), (3,vi 0), (6,.slice (some ⟨b, 0, none⟩) 2 2), (7,vi 2), (8,vi 1), (5,vi y)] [(⟨b, 0 + 1 * 1, none⟩, vi y)] (hasC ((ba 0)) has0) ?_ 2
  refine Xq (Xg 3 (Xe [(2,vi 0), (3,vi 0), (6,.slice (some ⟨b, 0, none⟩) 2 2), (7,vi 2), (8,vi 1), (5,vi y), (14,.bool (y != 0))] ?_ 3))
  have hx0 := hx (by omega)
  refine Xc (y != 0) (fun h1 => ?_) (fun h1 => ?_)
  ·skip
   refine Xq (Xg 2 (Xe [(2,vi y), (3,vi 0), (6,.slice (some ⟨b, 0, none⟩) 2 2), (7,vi 2), (8,vi 1)] ?_ 2))
   refine Xv (blockV (thenV (thenV (blockV (thenV (Y0 (vi y) (fun w hs => ?_)))))))
   exact ⟨(), by rw [orI, hx0]; rfl, hs⟩
  ·skip
   refine Xk (Xg 2 (Xe [(2,vi 0), (3,vi 0), (6,.slice (some ⟨b, 0, none⟩) 2 2), (7,vi 2), (8,vi (IntKind.i64.wrap (1 + 1)))] ?_ 2))
   refine Xp [(2,vi 0), (3,vi 0), (6,.slice (some ⟨b, 0, none⟩) 2 2), (7,vi 2), (8,vi (IntKind.i64.wrap (1 + 1)))] ?_
   exact againG (k - 1) 2 rfl rfl (by omega) ⟨by omega, fun _ => hx0, fun _ => by simpa using h1⟩
 ·skip
  refine Xq (Xg 1 (Xe [(2,vi 0), (3,vi 0), (6,.slice (some ⟨b, 0, none⟩) 2 2), (7,vi 2), (8,vi 2), (9,.bool false)] ?_ 1))
  refine Xq (Xc false (fun h => by cases h) (fun _ => ?_))
  refine Xx 0 (thenX (thenX (leaveR (Xq (Xg 2 (Xe [(2,vi 0)] ?_ 2))))))
  refine Xv ?_
  have hx0 := hx (by omega)
  have hy0 := hy (by omega)
  refine Y0 (vi 0) (fun w hs => ?_)
  exact ⟨(), by rw [orI, hx0, hy0]; rfl, hs⟩
def byI (a b : Int × Int) : Int := orI (cmpI a.1 b.1) (cmpI a.2 b.2)
set_option maxRecDepth 100000 in
theorem by_walk (H : List SP) (p i q j : Int) : ∀ w, Sat w H → Calls Tryz.prog 194 #[.agg #[vi p, vi i], .agg #[vi q, vi j]] w (Ret (ι := Unit) (fun _ => vi (byI (p, i) (q, j))) fun _ => H) := by
 refine enterG (fn := Tryz.f194) 17 [.agg #[vi p, vi i], .agg #[vi q, vi j]] Tryz.func194 (by kernel_rfl) (by kernel_rfl) (by kernel_rfl) ?_
 refine Xq (Xg 3 (Xs (Xn 230 [vi p, vi i] (some 2) (fun b => vp b)) (fun b1 => ?_) 2))
 refine Xs (Xn 230 [vi q, vi j] (some 3) (fun b => vp b)) (fun b2 => ?_) 1
 refine Xe [(3,vp b2), (2,vp b1), (4,vi 0)] ?_ 1
 refine Xq (Xy0 0 [] 13 ?_)
 refine Xt [0, 1, 2, 3, 5, 6, 7, 8] [(4,vi 0), (6,vi p), (8,vi q), (11,vi i), (13,vi j)] [(⟨b1, 0, none⟩, vi p), (⟨b2, 0, none⟩, vi q), (⟨b1, 1, none⟩, vi i), (⟨b2, 1, none⟩, vi j)] (hasC (ba 1) (hasC (ba 0) (hasC (ba 1) (hasC (ba 0) has0)))) ?_
 refine Xo 4 (Xa (some 9) (fun _ => vi (cmpI p q)) (cmpI_walk _ p q)) (fun _ => ?_)
 refine Xo 9 (Xa (some 14) (fun _ => vi (cmpI i j)) (cmpI_walk _ i j)) (fun _ => ?_)
 refine Xo 10 (Xn 3 [vi (cmpI p q), vi (cmpI i j)] (some 15) (fun b => .slice (some ⟨b, 0, none⟩) 2 2)) (fun b3 => ?_)
 refine Xo 11 (Xa (some 16) (fun _ => vi (byI (p, i) (q, j))) (or_walk _ b3 (cmpI p q) (cmpI i j))) (fun _ => ?_)
 refine Xt [12] [(4,vi (byI (p, i) (q, j)))] [] has0 ?_
 refine Xd (Xv (Y0 (vi (byI (p, i) (q, j))) (fun w hs => ?_)))
 exact ⟨(), rfl, hs.tail.tail.tail⟩
/-- Where an entry is. -/
def findI (l : List (Int × Int)) (id : Int) : Int := match l.findIdx? (fun e => e.2 == id) with | some i => (i : Int) | none => -1
theorem find_none {l : List (Int × Int)} {id : Int} (h : ∀ e ∈ l, e.2 ≠ id) : findI l id = -1 := by
 have : l.findIdx? (fun e => e.2 == id) = none := List.findIdx?_eq_none_iff.2 fun e he => by simpa using h e he
 unfold findI; rw [this]
theorem find_some {l : List (Int × Int)} {id : Int} {i : Nat} {e : Int × Int} (he : l[i]? = some e) (hid : e.2 = id) (hno : ∀ v e, v < i → l[v]? = some e → e.2 ≠ id) : findI l id = i := by
 obtain ⟨hil, hie⟩ := List.getElem?_eq_some_iff.1 he
 have : l.findIdx? (fun e => e.2 == id) = some i := by
  rw [List.findIdx?_eq_some_iff_getElem]
  refine ⟨hil, by rw [hie]; simpa using hid, fun j hj => ?_⟩
  have hjl : j < l.length := by omega
  have := hno j l[j] hj (by simp)
  simpa using this
 unfold findI; rw [this]
set_option maxRecDepth 100000 in
theorem find_walk (H : List SP) (b : Nat) (A : Option Addr) (cap : Nat) (room : Int) (l : List (Int × Int)) (id : Int) (hl : l.length ≤ 1000000) : ∀ w, Sat w (blk b 279 [.slice A l.length cap, vi room] :: row slE 230 (.slice A l.length cap) l :: H) → Calls Tryz.prog 190 #[vp b, vi id] w (Ret (ι := Unit) (fun _ => vi (findI l id)) fun _ => blk b 279 [.slice A l.length cap, vi room] :: row slE 230 (.slice A l.length cap) l :: H) := by
 refine enterG (fn := Tryz.f190) 28 [vp b, vi id] Tryz.func190 (by kernel_rfl) (by kernel_rfl) (by kernel_rfl) ?_
 refine Xq (Xg 1 (Xe [(0,vp b), (1,vi id), (4,vi 0)] ?_ 1))
 refine scopeG 0 (fun (u : Nat) => [(0, vp b), (1, vi id), (5, vi u)]) (fun _ => (blk b 279 [.slice A l.length cap, vi room] :: row slE 230 (.slice A l.length cap) l :: H)) (fun k (u : Nat) => k + u = l.length ∧ ∀ v e, v < u → l[v]? = some e → e.2 ≠ id) (by kernel_rfl) (by kernel_rfl) (by kernel_rfl) (by kernel_rfl) ?_ ?_
 ·skip
  rintro k u ⟨hku, hno⟩ K hK
  refine Xq (Xb 0 (Xq (Xg 8 (Xm [(0,vp b), (1,vi id), (5,vi u), (6,.bool ((u : Int) == (l.length : Int)))] [(⟨b, 0, none⟩, .slice A l.length cap)] (hasC (ba 0) has0) ?_ 8))))
  refine Xc ((u : Int) == (l.length : Int)) (fun h1 => ?_) (fun h1 => ?_)
  ·skip
   have hu0 : (u : Int) = (l.length : Int) := eq_of_beq h1
   have hu : u = l.length := by omega
   refine Xq (Xg 1 (Xe [(0,vp b), (1,vi id), (5,vi u), (4,vi (-1))] ?_ 1))
   refine Xv (blockV (thenV (jumpV (Y0 (vi (-1)) (fun w hs => ?_)))))
   exact ⟨(), by rw [find_none (fun e he => by obtain ⟨v, hv⟩ := List.getElem?_of_mem he; exact hno v e (by have := (List.getElem?_eq_some_iff.1 hv).1; omega) hv)], hs⟩
  ·skip
   have hu0 : ¬ (u : Int) = (l.length : Int) := beq_eq_false_iff_ne.1 h1
   have hu : u < l.length := by omega
   obtain ⟨e, he⟩ : ∃ e, l[u]? = some e := ⟨_, by simp [hu]; rfl⟩
   refine PT.know (KR.isSome (s := ⟨A, cap, l⟩) (rowKRat 1 rfl) (List.ne_nil_of_length_pos (by show 0 < l.length; omega))) ?_
   rintro ⟨sb, so, hA⟩
   dsimp only at hA
   subst hA
   refine Xq (Xg 11 (Xl [(0,vp b), (1,vi id), (5,vi u), (18,.slice (some ⟨sb, so, none⟩) l.length cap), (19,vi u)] [(⟨b, 0, none⟩, .slice (some ⟨sb, so, none⟩) l.length cap)] (hasC (ba 0) has0) ?_ 6 5))
   refine Xs (yldS (Xi 277 (.tmp 18) (.tmp 19) sb so l.length cap u 2 230 (u : Int) 20 Tryz.underlying277)) (fun _ => ?_) 5
   refine Xm [(0,vp b), (1,vi id), (5,vi u), (14,.bool (e.2 == id))] [(⟨sb, so + u * 2 + 1, none⟩, vi e.2)] (hasC ((rowKRat (xs := l) (A := some ⟨sb, so, none⟩) (k := cap) (E := slE) (T := 230) 1 rfl).cell rfl (i := u) (x := e) he (j := 1) rfl) has0) ?_ 5
   refine Xc (e.2 == id) (fun h2 => ?_) (fun h2 => ?_)
   ·skip
    refine Xq (Xg 2 (Xe [(0,vp b), (1,vi id), (5,vi u), (4,vi u)] ?_ 2))
    refine Xv (blockV (thenV (jumpV (Y0 (vi u) (fun w hs => ?_)))))
    exact ⟨(), by rw [find_some (i := u) he (by simpa using h2) hno], hs⟩
   ·skip
    refine Xk (Xq (Xg 3 (Xe [(0,vp b), (1,vi id), (5,vi (IntKind.i64.wrap ((u : Int) + 1)))] ?_ 3)))
    refine gotoR 0 (by kernel_rfl) (by kernel_rfl) ?_
    rw [show IntKind.i64.wrap ((u : Int) + 1) = ((u + 1 : Nat) : Int) by rw [IntKind.wrap_i64]; omega]
    have hno2 : ∀ v e, v < u + 1 → l[v]? = some e → e.2 ≠ id := by
     intro v e' hv hv2
     by_cases c : v = u
     ·subst c; rw [he] at hv2; cases hv2; simpa using h2
     ·exact hno v e' (by omega) hv2
    refine Xp [(0,vp b), (1,vi id), (5,vi ((u + 1 : Nat) : Int))] ?_
    exact jumpR (hK (k - 1) (u + 1) (by omega) ⟨by omega, hno2⟩)
 ·skip
  intro K hK
  refine Xq (Xg 1 (Xe [(0,vp b), (1,vi id), (4,vi 0), (5,vi 0)] ?_ 1))
  refine Xq ?_
  refine labelR (by kernel_rfl) ?_
  refine Xp [(0,vp b), (1,vi id), (5,vi 0)] ?_
  refine codeR (by kernel_rfl) (hK l.length 0 ⟨by omega, fun v e hv => by omega⟩)
end Go.Proofs.YtfhkgohokbkgiaaGreatDoor
set_option linter.unusedVariables false
set_option linter.unusedSimpArgs false
namespace Go.Proofs.YtfhkgohokbkgiaaGreatDoor
open Go.RowKit G
/-- An index in memory: its entries, its room. -/
def idxS (b : Nat) (room : Int) (l : List (Int × Int)) : SP := exS fun p : Option Addr × Nat => two (blk b 279 [.slice p.1 l.length p.2, .int .i64 room]) (row slE 230 (.slice p.1 l.length p.2) l)
theorem Sat.idx {w : World} {H : List SP} {b : Nat} {A : Option Addr} {cap : Nat} {room : Int} {l : List (Int × Int)} (h : Sat w (blk b 279 [.slice A l.length cap, .int .i64 room] :: row slE 230 (.slice A l.length cap) l :: H)) : Sat w (idxS b room l :: H) := Sat.closeEx (A, cap) (Sat.closeTwo h)
theorem idx_open {Φ : World → Prop} {H : List SP} {b : Nat} {room : Int} {l : List (Int × Int)} (h : ∀ A cap w, Sat w (blk b 279 [.slice A l.length cap, .int .i64 room] :: row slE 230 (.slice A l.length cap) l :: H) → Φ w) : ∀ w, Sat w (idxS b room l :: H) → Φ w := fun w hs => by
 obtain ⟨⟨A, cap⟩, h2⟩ := Sat.openEx hs
 exact h A cap w (Sat.openTwo h2)
theorem idx_same {H : List SP} {b : Nat} {room : Int} {l : List (Int × Int)} {P : Program} {f : FuncId} {vs : Array Value} {v : Value} (h : ∀ A cap w, Sat w (blk b 279 [.slice A l.length cap, vi room] :: row slE 230 (.slice A l.length cap) l :: H) → Calls P f vs w (Ret (ι := Unit) (fun _ => v) fun _ => blk b 279 [.slice A l.length cap, vi room] :: row slE 230 (.slice A l.length cap) l :: H)) :
  ∀ w, Sat w (idxS b room l :: H) → Calls P f vs w (Ret (ι := Unit) (fun _ => v) fun _ => idxS b room l :: H) :=
 idx_open fun A cap w hs => (h A cap w hs).mono fun e w' ⟨_, he, hx⟩ => ⟨(), he, Sat.idx hx⟩
theorem find_idx (H : List SP) (b : Nat) (room : Int) (l : List (Int × Int)) (id : Int) (hl : l.length ≤ 1000000) : ∀ w, Sat w (idxS b room l :: H) → Calls Tryz.prog 190 #[vp b, vi id] w (Ret (ι := Unit) (fun _ => vi (findI l id)) fun _ => idxS b room l :: H) :=
 idx_same fun A cap => find_walk H b A cap room l id hl
theorem Sat.erase {l : List SP} {w : World} (i : Nat) {P : SP} (hi : l[i]? = some P) (h : Sat w l) : Sat w (l.eraseIdx i) := (h.pick i hi).tail
def isPassB (n : Int) : Bool := decide (n ≥ 0) && decide (n ≤ 1099511627776)
set_option maxRecDepth 100000 in
theorem isPass_walk (H : List SP) (n : Int) : ∀ w, Sat w H → Calls Tryz.prog 189 #[vi n] w (Ret (ι := Unit) (fun _ => .bool (isPassB n)) fun _ => H) := by
 refine enterG (fn := Tryz.f189) 9 [vi n] Tryz.func189 (by kernel_rfl) (by kernel_rfl) (by kernel_rfl) ?_
 refine Xq (Xg 1 (Xe [(0,vi n), (2,.bool false)] ?_ 1))
 refine Xq (Xg 7 (Xr [(0,vi n), (2,.bool false), (5,.bool (decide (n ≥ 0)))] ?_ 4 3))
 refine (Xs0 1 3 [(2,.bool false), (8,.bool ((decide (n ≥ 0)) && (decide (n ≤ 1099511627776))))] ?_ ?_ : RT _ _ _ _ _ _ 4 _)
 ·cases hg3 : (decide (n ≥ 0)) with
  | true =>
   refine Xe [(2,.bool false), (8,.bool (decide (n ≤ 1099511627776)))] ?_ 3
   refine Xp [(2,.bool false), (8,.bool (true && (decide (n ≤ 1099511627776))))] ?_
   exact midR () rfl rfl
  | false =>
   refine Xe [(2,.bool false), (8,.bool false)] ?_ 3
   refine Xp [(2,.bool false), (8,.bool (false && (decide (n ≤ 1099511627776))))] ?_
   exact midR () rfl rfl
 refine Xe [(2,.bool ((decide (n ≥ 0)) && (decide (n ≤ 1099511627776))))] ?_ 1
 refine Xv (Y0 (.bool ((decide (n ≥ 0)) && (decide (n ≤ 1099511627776)))) (fun w hs => ?_))
 exact ⟨(), rfl, hs⟩
def roomOf (r : Int) : Int := mnI (mxI r 0) 64
set_option maxRecDepth 100000 in
theorem new_walk (H : List SP) (r : Int) : ∀ w, Sat w H → Calls Tryz.prog 116 #[vi r] w (Ret (ι := Nat) (fun b => vp b) fun b => idxS b (roomOf r) [] :: H) := by
 refine enterG (fn := Tryz.f116) 8 [vi r] Tryz.func116 (by kernel_rfl) (by kernel_rfl) (by kernel_rfl) ?_
 refine Xq (Xg 1 (Xe [(0,vi r), (2,.pointer none)] ?_ 1))
 refine Xq (Xg 6 (Xr [(2,.pointer none), (6,.agg #[.slice none 0 0, vi (mnI (mxI r 0) 64)])] ?_ 2 4))
 refine Xs (Xn 279 [.slice none 0 0, vi (mnI (mxI r 0) 64)] (some 7) (fun b => vp b)) (fun b1 => ?_) 1
 refine Xe [(2,vp b1)] ?_ 1
 refine Xv (Y0 (vp b1) (fun w hs => ?_))
 exact ⟨b1, rfl, Sat.idx (A := none) (cap := 0) (SatF.swap (Sat.rowNil hs))⟩
set_option maxRecDepth 100000 in
theorem len_walk (H : List SP) (b : Nat) (A : Option Addr) (cap : Nat) (room : Int) (l : List (Int × Int)) : ∀ w, Sat w (blk b 279 [.slice A l.length cap, vi room] :: row slE 230 (.slice A l.length cap) l :: H) → Calls Tryz.prog 144 #[vp b] w (Ret (ι := Unit) (fun _ => vi (l.length : Int)) fun _ => blk b 279 [.slice A l.length cap, vi room] :: row slE 230 (.slice A l.length cap) l :: H) := by
 refine enterG (fn := Tryz.f144) 8 [vp b] Tryz.func144 (by kernel_rfl) (by kernel_rfl) (by kernel_rfl) ?_
 refine Xq (Xg 1 (Xe [(0,vp b), (2,vi 0)] ?_ 1))
 refine Xq (Xg 6 (Xm [(2,vi (l.length : Int))] [(⟨b, 0, none⟩, .slice A l.length cap)] (hasC (ba 0) has0) ?_ 6))
 refine Xv (Y0 (vi (l.length : Int)) (fun w hs => ?_))
 exact ⟨(), rfl, hs⟩
theorem len_idx (H : List SP) (b : Nat) (room : Int) (l : List (Int × Int)) : ∀ w, Sat w (idxS b room l :: H) → Calls Tryz.prog 144 #[vp b] w (Ret (ι := Unit) (fun _ => vi (l.length : Int)) fun _ => idxS b room l :: H) :=
 idx_same fun A cap => len_walk H b A cap room l
def minE (l : List (Int × Int)) : (Int × Int) × Bool := match l with | [] => ((0, 0), false) | e :: _ => (e, true)
set_option maxRecDepth 100000 in
theorem min_walk (H : List SP) (b : Nat) (A : Option Addr) (cap : Nat) (room : Int) (l : List (Int × Int)) : ∀ w, Sat w (blk b 279 [.slice A l.length cap, vi room] :: row slE 230 (.slice A l.length cap) l :: H) → Calls Tryz.prog 102 #[vp b] w (Ret (ι := Unit) (fun _ => .tuple #[.agg #[vi (minE l).1.1, vi (minE l).1.2], .bool (minE l).2]) fun _ => blk b 279 [.slice A l.length cap, vi room] :: row slE 230 (.slice A l.length cap) l :: H) := by
 refine enterG (fn := Tryz.f102) 17 [vp b] Tryz.func102 (by kernel_rfl) (by kernel_rfl) (by kernel_rfl) ?_
 refine Xq (Xg 2 (Xs (Xn 230 [vi 0, vi 0] (some 2) (fun b => vp b)) (fun b1 => ?_) 1))
 refine Xe [(2,vp b1), (0,vp b), (3,.bool false)] ?_ 1
 refine Xq (Xq (Xg 6 (Xm [(2,vp b1), (0,vp b), (3,.bool false), (9,.bool ((l.length : Int) == 0))] [(⟨b, 0, none⟩, .slice A l.length cap)] (hasC (ba 1) has0) ?_ 6)))
 refine Xc ((l.length : Int) == 0) (fun h1 => ?_) (fun h1 => ?_)
 ·skip
  have hl0 : (l.length : Int) = 0 := eq_of_beq h1
  obtain rfl : l = [] := List.eq_nil_of_length_eq_zero (by omega)
  refine Xq (Xg 3 (Xr [(2,vp b1), (0,vp b), (3,.bool false), (10,.agg #[vi 0, vi 0])] ?_ 2 1))
  refine Xs (Xz [(0,vi 0), (1,vi 0)]) (fun _ => ?_) 1
  refine Xe [(2,vp b1), (0,vp b), (3,.bool false)] ?_ 1
  refine Xv (thenV ?_)
  refine doneG (.tuple #[.agg #[.int .i64 0, .int .i64 0], .bool false]) [(⟨b1, 0, none⟩, .int .i64 0), (⟨b1, 1, none⟩, .int .i64 0)] (hasC (blkAt (T := 230) (cs := [.int .i64 0, .int .i64 0]) 0 rfl rfl) (hasC (blkAt (T := 230) (cs := [.int .i64 0, .int .i64 0]) 0 rfl rfl) has0)) (fun _ => by kernel_rfl) (fun w hs => ?_) .ret (.inr rfl)
  exact ⟨(), rfl, hs.tail⟩
 ·skip
  have hl0 : ¬ (l.length : Int) = 0 := beq_eq_false_iff_ne.1 h1
  obtain ⟨e, r, rfl⟩ : ∃ e r, l = e :: r := List.exists_cons_of_length_pos (by omega)
  refine PT.know (KR.isSome (s := ⟨A, cap, e :: r⟩) (rowKRat 2 rfl) (by simp)) ?_
  rintro ⟨sb, so, hA⟩
  dsimp only at hA
  subst hA
  refine Xk (Xq (Xg 8 (Xl [(2,vp b1), (3,.bool false), (14,.slice (some ⟨sb, so, none⟩) ((e :: r).length) cap)] [(⟨b, 0, none⟩, .slice (some ⟨sb, so, none⟩) ((e :: r).length) cap)] (hasC (ba 1) has0) ?_ 4 4)))
  refine Xs (yldS (Xi 277 (.tmp 14) (.const (.int .i64 0)) sb so ((e :: r).length) cap 0 2 230 0 15 Tryz.underlying277)) (fun _ => ?_) 3
  refine Xl [(2,vp b1), (3,.bool false), (16,.agg #[vi e.1, vi e.2])] [(⟨sb, so + 0 * 2, none⟩, vi e.1), (⟨sb, so + 0 * 2 + 1, none⟩, vi e.2)] (hasC ((rowKRat (xs := e :: r) (A := some ⟨sb, so, none⟩) (k := cap) (E := slE) (T := 230) 2 rfl).cell rfl (i := 0) (x := e) rfl (j := 0) rfl) (hasC ((rowKRat (xs := e :: r) (A := some ⟨sb, so, none⟩) (k := cap) (E := slE) (T := 230) 2 rfl).cell rfl (i := 0) (x := e) rfl (j := 1) rfl) has0)) ?_ 2 1
  refine Xs (Xz [(0,vi e.1), (1,vi e.2)]) (fun _ => ?_) 1
  refine Xe [(2,vp b1), (3,.bool true)] ?_ 1
  refine Xv ?_
  refine doneG (.tuple #[.agg #[.int .i64 e.1, .int .i64 e.2], .bool true]) [(⟨b1, 0, none⟩, .int .i64 e.1), (⟨b1, 1, none⟩, .int .i64 e.2)] (hasC (blkAt (T := 230) (cs := [.int .i64 e.1, .int .i64 e.2]) 0 rfl rfl) (hasC (blkAt (T := 230) (cs := [.int .i64 e.1, .int .i64 e.2]) 0 rfl rfl) has0)) (fun _ => by kernel_rfl) (fun w hs => ?_) .ret (.inr rfl)
  exact ⟨(), rfl, hs.tail⟩
theorem min_idx (H : List SP) (b : Nat) (room : Int) (l : List (Int × Int)) : ∀ w, Sat w (idxS b room l :: H) → Calls Tryz.prog 102 #[vp b] w (Ret (ι := Unit) (fun _ => .tuple #[.agg #[vi (minE l).1.1, vi (minE l).1.2], .bool (minE l).2]) fun _ => idxS b room l :: H) :=
 idx_same fun A cap => min_walk H b A cap room l
theorem findI_cases (l : List (Int × Int)) (id : Int) : (findI l id = -1 ∧ ∀ e ∈ l, e.2 ≠ id) ∨ ∃ (i : Nat) (e : Int × Int), findI l id = i ∧ l[i]? = some e ∧ e.2 = id ∧ ∀ v e, v < i → l[v]? = some e → e.2 ≠ id := by
 unfold findI
 cases h : l.findIdx? (fun e => e.2 == id) with
 | none => exact .inl ⟨rfl, fun e he => by simpa using List.findIdx?_eq_none_iff.1 h e he⟩
 | some i =>
  right
  obtain ⟨h1, h2, h3⟩ := List.findIdx?_eq_some_iff_getElem.1 h
  refine ⟨i, l[i], rfl, by simp, by simpa using h2, fun v e hv hve => ?_⟩
  obtain ⟨hvl, rfl⟩ := List.getElem?_eq_some_iff.1 hve
  have := h3 v hv
  simpa using this
def passI (l : List (Int × Int)) (id : Int) : Int × Bool := if findI l id < 0 then (0, false) else ((l.getD (findI l id).toNat (0, 0)).1, true)
end Go.Proofs.YtfhkgohokbkgiaaGreatDoor
set_option linter.unusedVariables false
set_option linter.unusedSimpArgs false
namespace Go.Proofs.YtfhkgohokbkgiaaGreatDoor
open Go.RowKit G
def eLt (a b : Int × Int) : Prop := a.1 < b.1 ∨ a.1 = b.1 ∧ a.2 < b.2
instance (a b : Int × Int) : Decidable (eLt a b) := by unfold eLt; infer_instance
theorem byI_lt (a b : Int × Int) : byI a b < 0 ↔ eLt a b := by
 unfold byI orI cmpI eLt
 by_cases h1 : a.1 < b.1
 ·simp [h1]
 ·by_cases h2 : a.1 > b.1
  ·simp [h1, h2]; omega
  ·have h3 : a.1 = b.1 := by omega
   by_cases h4 : a.2 < b.2
   ·simp [h3, h4]
   ·by_cases h5 : a.2 > b.2 <;> simp [h3, h4, h5]
theorem eLt_trans {a b c : Int × Int} (h : eLt a b) (g : eLt b c) : eLt a c := by unfold eLt at *; omega
theorem eLt_irrefl (a : Int × Int) : ¬ eLt a a := by unfold eLt; omega
theorem eLt_total {a b : Int × Int} (h : ¬ eLt a b) : a = b ∨ eLt b a := by
 unfold eLt at *
 by_cases h1 : a.1 = b.1
 ·by_cases h2 : a.2 = b.2
  ·exact .inl (Prod.ext h1 h2)
  ·exact .inr (by omega)
 ·exact .inr (by omega)
def SrtE (l : List (Int × Int)) : Prop := l.Pairwise eLt
theorem SrtE.at {l : List (Int × Int)} (h : SrtE l) {u v : Nat} {x y : Int × Int} (hu : l[u]? = some x) (hv : l[v]? = some y) (huv : u < v) : eLt x y := by
 obtain ⟨hu1, rfl⟩ := List.getElem?_eq_some_iff.1 hu
 obtain ⟨hv1, rfl⟩ := List.getElem?_eq_some_iff.1 hv
 exact List.pairwise_iff_getElem.1 h u v hu1 hv1 huv
/-- Where an entry belongs. -/
def CutE (l : List (Int × Int)) (e : Int × Int) (i : Nat) : Prop := i ≤ l.length ∧ (∀ v x, v < i → l[v]? = some x → eLt x e) ∧ ∀ v x, i ≤ v → l[v]? = some x → ¬ eLt x e
theorem half_of {i j : Nat} (h : i < 1000000) (h2 : j < 1000000) : IntKind.i64.wrap (Int.fdiv (IntKind.u64.wrap (IntKind.i64.wrap ((i : Int) + (j : Int)))) 2) = (((i + j) / 2 : Nat) : Int) := by
 have h3 : IntKind.i64.wrap ((i : Int) + (j : Int)) = ((i + j : Nat) : Int) := by rw [IntKind.wrap_i64]; omega
 have h4 : IntKind.u64.wrap ((i + j : Nat) : Int) = ((i + j : Nat) : Int) := by rw [IntKind.wrap_u64]; omega
 rw [h3, h4, Int.fdiv_eq_ediv_of_nonneg _ (by omega), IntKind.wrap_i64]
 omega
set_option maxHeartbeats 1000000 in
set_option maxRecDepth 100000 in
theorem bs_walk (H : List SP) (s : SV (Int × Int)) (p i : Int) (hk : KR H slE s) (hsr : SrtE s.l) (hl : s.l.length < 1000000) : ∀ w, Sat w H → Calls Tryz.prog 222 #[.slice s.a s.l.length s.c, .agg #[vi p, vi i], .func (.func 194) #[] #[]] w (Ret (ι := {x : Nat × Bool // CutE s.l (p, i) x.1}) (fun x => .tuple #[vi (x.1.1 : Int), .bool x.1.2]) fun _ => H) := by
 refine enterG (fn := Tryz.f222) 49 [.slice s.a s.l.length s.c, .agg #[vi p, vi i], .func (.func 194) #[] #[]] Tryz.func222 (by kernel_rfl) (by kernel_rfl) (by kernel_rfl) ?_
 refine Xq (Xg 3 (Xs (Xn 230 [vi p, vi i] (some 4) (fun b => vp b)) (fun b1 => ?_) 2))
 refine Xe [(4,vp b1), (0,.slice s.a s.l.length s.c), (2,.func (.func 194) #[] #[]), (6,vi 0), (7,.bool false)] ?_ 2
 refine Xq (Xg 3 (Xe [(4,vp b1), (0,.slice s.a s.l.length s.c), (2,.func (.func 194) #[] #[]), (6,vi 0), (7,.bool false), (8,vi (s.l.length : Int))] ?_ 3))
 refine Xq (Xg 3 (Xe [(4,vp b1), (0,.slice s.a s.l.length s.c), (2,.func (.func 194) #[] #[]), (6,vi 0), (7,.bool false), (8,vi (s.l.length : Int)), (9,vi 0), (10,vi (s.l.length : Int))] ?_ 3))
 refine Xq (Xb 0 (Xp [(0,.slice s.a s.l.length s.c), (2,.func (.func 194) #[] #[]), (4,vp b1), (6,vi 0), (7,.bool false), (8,vi (s.l.length : Int)), (9,vi 0), (10,vi (s.l.length : Int))] (Xl0 (fun (x : Nat × Nat) => [(0,.slice s.a s.l.length s.c), (2,.func (.func 194) #[] #[]), (4,vp b1), (6,vi 0), (7,.bool false), (8,vi (s.l.length : Int)), (9,vi (x.1 : Int)), (10,vi (x.2 : Int))]) (fun k (x : Nat × Nat) => k = x.2 - x.1 ∧ x.1 ≤ x.2 ∧ x.2 ≤ s.l.length ∧ (∀ v y, v < x.1 → s.l[v]? = some y → eLt y (p, i)) ∧ (∀ v y, x.2 ≤ v → s.l[v]? = some y → ¬ eLt y (p, i))) s.l.length (0,s.l.length) (by kernel_rfl) ⟨by simp, by simp, by simp, fun v y hv => by simp at hv, fun v y hv hy => by have := (List.getElem?_eq_some_iff.1 hy).1; simp at hv; omega⟩ ?_)))
 rintro k ⟨a, z⟩ ⟨hk1, haz, hzl, hlo, hhi⟩
 dsimp only at hk1 haz hzl hlo hhi ⊢
 refine Xq (Xq (Xg 3 (Xe [(0,.slice s.a s.l.length s.c), (2,.func (.func 194) #[] #[]), (4,vp b1), (6,vi 0), (7,.bool false), (8,vi (s.l.length : Int)), (9,vi a), (10,vi z), (17,.bool (decide ((a : Int) < (z : Int))))] ?_ 3)))
 refine Xc (decide ((a : Int) < (z : Int))) (fun h1 => ?_) (fun h1 => ?_)
 ·skip
  have h1' : a < z := by have := of_decide_eq_true h1; omega
  refine Xk (Xb 1 (Xq (Xg 7 (Xe [(0,.slice s.a s.l.length s.c), (2,.func (.func 194) #[] #[]), (4,vp b1), (6,vi 0), (7,.bool false), (8,vi (s.l.length : Int)), (9,vi a), (10,vi z), (11,vi (IntKind.i64.wrap (Int.fdiv (IntKind.u64.wrap (IntKind.i64.wrap ((a : Int) + (z : Int)))) 2)))] ?_ 7))))
  refine Xq (Xy0 0 [] 8 ?_)
  refine Xt [0, 1, 2, 5] [(0,.slice s.a s.l.length s.c), (2,.func (.func 194) #[] #[]), (4,vp b1), (6,vi 0), (7,.bool false), (8,vi (s.l.length : Int)), (9,vi a), (10,vi z), (11,vi (IntKind.i64.wrap (Int.fdiv (IntKind.u64.wrap (IntKind.i64.wrap ((a : Int) + (z : Int)))) 2))), (24,.func (.func 194) #[] #[]), (25,.slice s.a s.l.length s.c), (26,vi (IntKind.i64.wrap (Int.fdiv (IntKind.u64.wrap (IntKind.i64.wrap ((a : Int) + (z : Int)))) 2))), (29,.agg #[vi p, vi i])] [(⟨b1, 0, none⟩, vi p), (⟨b1, 1, none⟩, vi i)] (hasC (ba 0) (hasC (ba 0) has0)) ?_
  rw [half_of (by omega) (by omega)]
  obtain ⟨h, hh⟩ : ∃ h, h = (a + z) / 2 := ⟨_, rfl⟩
  rw [← hh]
  have hhl : h < s.l.length := by omega
  obtain ⟨y, hy⟩ : ∃ y, s.l[h]? = some y := ⟨_, by simp [hhl]; rfl⟩
  refine PT.know ((hk).up.isSome (List.ne_nil_of_length_pos (by omega))) ?_
  rintro ⟨sb, so, hA⟩
  try rw [hA]
  refine Xu 3 (Xi 277 (.tmp 25) (.tmp 26) sb so s.l.length s.c h 2 230 (h : Int) 27 Tryz.underlying277) ?_
  refine Xt [4] [(0,.slice (some ⟨sb, so, none⟩) s.l.length s.c), (2,.func (.func 194) #[] #[]), (4,vp b1), (6,vi 0), (7,.bool false), (8,vi (s.l.length : Int)), (9,vi a), (10,vi z), (11,vi h), (24,.func (.func 194) #[] #[]), (29,.agg #[vi p, vi i]), (28,.agg #[vi y.1, vi y.2])] [(⟨sb, so + h * 2, none⟩, vi y.1), (⟨sb, so + h * 2 + 1, none⟩, vi y.2)] (hasC (up (hk.cell hA (i := h) (x := y) hy (j := 0) rfl)) (hasC (up (hk.cell hA (i := h) (x := y) hy (j := 1) rfl)) has0)) ?_
  refine Xo 6 (Xa (some 30) (fun _ => vi (byI (y.1, y.2) (p, i))) (by_walk _ y.1 y.2 p i)) (fun _ => ?_)
  refine Xt [7] [(0,.slice (some ⟨sb, so, none⟩) s.l.length s.c), (2,.func (.func 194) #[] #[]), (4,vp b1), (6,vi 0), (7,.bool false), (8,vi (s.l.length : Int)), (9,vi a), (10,vi z), (11,vi h), (31,.bool (decide ((byI (y.1, y.2) (p, i)) < 0)))] [] has0 ?_
  refine Xd ?_
  try rw [← hA]
  refine Xc (decide ((byI (y.1, y.2) (p, i)) < 0)) (fun h2 => ?_) (fun h2 => ?_)
  ·skip
   have h2' : eLt y (p, i) := (byI_lt y (p, i)).1 (of_decide_eq_true h2)
   have hw : IntKind.i64.wrap ((h : Int) + 1) = ((h + 1 : Nat) : Int) := by rw [IntKind.wrap_i64]; omega
   have hlo2 : ∀ v y', v < h + 1 → s.l[v]? = some y' → eLt y' (p, i) := by
    intro v y' hv hy'
    by_cases c : v = h
    ·subst c; rw [hy] at hy'; cases hy'; exact h2'
    ·exact eLt_trans (hsr.at hy' hy (by omega)) h2'
   refine Xg 3 (Xe [(0,.slice s.a s.l.length s.c), (2,.func (.func 194) #[] #[]), (4,vp b1), (6,vi 0), (7,.bool false), (8,vi (s.l.length : Int)), (9,vi (IntKind.i64.wrap ((h : Int) + 1))), (10,vi z)] ?_ 3)
   refine Xp [(0,.slice s.a s.l.length s.c), (2,.func (.func 194) #[] #[]), (4,vp b1), (6,vi 0), (7,.bool false), (8,vi (s.l.length : Int)), (9,vi (IntKind.i64.wrap ((h : Int) + 1))), (10,vi z)] ?_
   exact againG (z - (h + 1)) (h + 1, z) (by rw [hw]) rfl (by omega) ⟨rfl, by simp only; omega, hzl, hlo2, hhi⟩
  ·skip
   have h2' : ¬ eLt y (p, i) := fun h => of_decide_eq_false h2 ((byI_lt y (p, i)).2 h)
   have hhi2 : ∀ v y', h ≤ v → s.l[v]? = some y' → ¬ eLt y' (p, i) := by
    intro v y' hv hy'
    by_cases c : v = h
    ·subst c; rw [hy] at hy'; cases hy'; exact h2'
    ·exact fun h3 => h2' (eLt_trans (hsr.at hy hy' (by omega)) h3)
   refine Xg 2 (Xe [(0,.slice s.a s.l.length s.c), (2,.func (.func 194) #[] #[]), (4,vp b1), (6,vi 0), (7,.bool false), (8,vi (s.l.length : Int)), (9,vi a), (10,vi h)] ?_ 2)
   refine Xp [(0,.slice s.a s.l.length s.c), (2,.func (.func 194) #[] #[]), (4,vp b1), (6,vi 0), (7,.bool false), (8,vi (s.l.length : Int)), (9,vi a), (10,vi h)] ?_
   exact againG (h - a) (a, h) rfl rfl (by omega) ⟨rfl, by simp only; omega, by simp only; omega, hlo, hhi2⟩
 ·skip
  have h1' : a = z := by have := of_decide_eq_false h1; omega
  subst h1'
  refine Xx 0 (thenX (thenX (leaveR (Xq (Xy0 0 [] 16 ?_)))))
  refine Xt [0, 1, 2, 3, 4] [(0,.slice s.a s.l.length s.c), (2,.func (.func 194) #[] #[]), (4,vp b1), (6,vi 0), (7,.bool false), (9,vi a), (35,vi a), (39,.bool (decide ((a : Int) < (s.l.length : Int))))] [] has0 ?_
  cases h2 : (decide ((a : Int) < (s.l.length : Int))) with
  | true =>
   have hal : a < s.l.length := by have := of_decide_eq_true h2; omega
   obtain ⟨y, hy⟩ : ∃ y, s.l[a]? = some y := ⟨_, by simp [hal]; rfl⟩
   refine PT.know ((hk).up.isSome (List.ne_nil_of_length_pos (by omega))) ?_
   rintro ⟨sb, so, hA⟩
   try rw [hA]
   refine Xt [5, 6, 7, 10] [(6,vi 0), (7,.bool false), (35,vi a), (39,.bool true), (40,.func (.func 194) #[] #[]), (41,.slice (some ⟨sb, so, none⟩) s.l.length s.c), (42,vi a), (45,.agg #[vi p, vi i])] [(⟨b1, 0, none⟩, vi p), (⟨b1, 1, none⟩, vi i)] (hasC (ba 0) (hasC (ba 0) has0)) ?_
   refine Xu 8 (Xi 277 (.tmp 41) (.tmp 42) sb so s.l.length s.c a 2 230 (a : Int) 43 Tryz.underlying277) ?_
   refine Xt [9] [(6,vi 0), (7,.bool false), (35,vi a), (39,.bool true), (40,.func (.func 194) #[] #[]), (45,.agg #[vi p, vi i]), (44,.agg #[vi y.1, vi y.2])] [(⟨sb, so + a * 2, none⟩, vi y.1), (⟨sb, so + a * 2 + 1, none⟩, vi y.2)] (hasC (up (hk.cell hA (i := a) (x := y) hy (j := 0) rfl)) (hasC (up (hk.cell hA (i := a) (x := y) hy (j := 1) rfl)) has0)) ?_
   refine Xo 11 (Xa (some 46) (fun _ => vi (byI (y.1, y.2) (p, i))) (by_walk _ y.1 y.2 p i)) (fun _ => ?_)
   refine Xt [12, 13, 14, 15] [(6,vi a), (7,.bool ((byI (y.1, y.2) (p, i)) == 0))] [] has0 ?_
   refine Xd (Xv (Y0 (.tuple #[vi a, .bool ((byI (y.1, y.2) (p, i)) == 0)]) (fun w hs => ?_)))
   exact ⟨⟨(a, byI (y.1, y.2) (p, i) == 0), hzl, hlo, hhi⟩, rfl, hs.tail⟩
  | false =>
   refine Xt [5, 6, 7, 8, 9, 10, 11, 12, 13, 14, 15] [(6,vi a), (7,.bool false)] [] has0 ?_
   refine Xd (Xv (Y0 (.tuple #[vi a, .bool false]) (fun w hs => ?_)))
   exact ⟨⟨(a, false), hzl, hlo, hhi⟩, rfl, hs.tail⟩
end Go.Proofs.YtfhkgohokbkgiaaGreatDoor
set_option linter.unusedVariables false
set_option linter.unusedSimpArgs false
namespace Go.Proofs.YtfhkgohokbkgiaaGreatDoor
open Go.RowKit G
def pinS (P : SP) (G : Nat → Prop) : SP := ⟨fun w F => P.holds w F ∧ F = G, fun h => P.lt h.1, fun h a => ⟨P.stay h.1 a, h.2⟩⟩
/-- A call that changes a row, by what it says of the row. -/
theorem rowCall {α : Type} {E : Enc α} {T : TypeId} {v : Value} {xs zs : List α} {H : List SP} {P : Program} {f : FuncId} {vs : Array Value}
  (h : ∀ w F, Row E T w F v xs → SatF H w (fun b => True ∧ ¬ F b) → Calls P f vs w (RowPost E T F w zs)) :
  ∀ w, Sat w (row E T v xs :: H) → Calls P f vs w (Ret (ι := Option Addr × Nat) (fun p => .slice p.1 zs.length p.2) fun p => row E T (.slice p.1 zs.length p.2) zs :: H) := by
 rintro w ⟨G, hG, _, h3⟩
 refine (h w G hG h3).mono ?_
 rintro e w' ⟨v', F', rfl, hr, hu, hf⟩
 have hp : Sat w (pinS (row E T v xs) G :: H) := ⟨G, ⟨hG, rfl⟩, fun _ _ => trivial, h3⟩
 have key : Sat w' (row E T v' zs :: H) := hp.change fun G' hG' => by
  obtain ⟨_, rfl⟩ := hG'
  exact ⟨hu, F', hr, hf⟩
 rcases hr with ⟨rfl, h0, _⟩ | ⟨b, o, c, cur, rfl, _⟩
 ·subst h0; exact ⟨(none, 0), rfl, key⟩
 ·exact ⟨(some ⟨b, o, none⟩, c), rfl, key⟩
theorem ins_walk (H : List SP) (j : Nat) (v : Value) (xs : List (Int × Int)) (x : Int × Int) (yb : Nat) (T' : TypeId) (hj : H[j]? = some (blk yb T' (slE.enc x))) (i : Nat) (hi : i ≤ xs.length) (hn : xs.length ≤ 1000000000) :
  ∀ w, Sat w (row slE 230 v xs :: H) → Calls Tryz.prog 223 #[v, .int .i64 i, .slice (some ⟨yb, 0, none⟩) 1 1] w (Ret (ι := Option Addr × Nat) (fun p => .slice p.1 (xs.take i ++ x :: xs.drop i).length p.2) fun p => row slE 230 (.slice p.1 (xs.take i ++ x :: xs.drop i).length p.2) (xs.take i ++ x :: xs.drop i) :: H) :=
 rowCall fun w F hr h3 => by
  obtain ⟨K, ⟨hk1, hk2⟩, hk3, _⟩ := SatF.pick j hj h3
  exact ins_sl w F v xs x hr yb T' hk1 ((hk3 yb ((hk2 yb).2 rfl)).2) i hi hn
theorem del_walk (H : List SP) (v : Value) (xs : List (Int × Int)) (i : Nat) (hi : i < xs.length) (hn : xs.length ≤ 1000000000) :
  ∀ w, Sat w (row slE 230 v xs :: H) → Calls Tryz.prog 192 #[v, .int .i64 i, .int .i64 ((i : Int) + 1)] w (Ret (ι := Option Addr × Nat) (fun p => .slice p.1 (xs.take i ++ xs.drop (i + 1)).length p.2) fun p => row slE 230 (.slice p.1 (xs.take i ++ xs.drop (i + 1)).length p.2) (xs.take i ++ xs.drop (i + 1)) :: H) :=
 rowCall fun w F hr _ => del_sl w F v xs hr i hi hn
/-- An entry where it belongs. -/
def insE (e : Int × Int) : List (Int × Int) → List (Int × Int)
 | [] => [e]
 | x :: r => if eLt x e then x :: insE e r else e :: x :: r
theorem insE_cut (e : Int × Int) : ∀ (l : List (Int × Int)) (i : Nat), CutE l e i → l.take i ++ e :: l.drop i = insE e l
 | [], i, h => by simp [insE]
 | x :: r, 0, h => by
  have := h.2.2 0 x (by omega) rfl
  simp [insE, this]
 | x :: r, i + 1, h => by
  have h1 := h.2.1 0 x (by omega) rfl
  have ih := insE_cut e r i ⟨by have := h.1; simp at this; omega, fun v y hv hy => h.2.1 (v + 1) y (by omega) (by simpa using hy), fun v y hv hy => h.2.2 (v + 1) y (by omega) (by simpa using hy)⟩
  simp only [insE, List.take_succ_cons, List.drop_succ_cons, List.cons_append, if_pos h1, ih]
set_option maxHeartbeats 1000000 in
set_option maxRecDepth 100000 in
theorem insert_walk (H : List SP) (b : Nat) (A : Option Addr) (cap : Nat) (room : Int) (l : List (Int × Int)) (p i : Int) (hsr : SrtE l) (hl : l.length < 1000000) : ∀ w, Sat w (blk b 279 [.slice A l.length cap, vi room] :: row slE 230 (.slice A l.length cap) l :: H) → Calls Tryz.prog 191 #[vp b, .agg #[vi p, vi i]] w (Ret (ι := Option Addr × Nat) (fun _ => .tuple #[]) fun x => blk b 279 [.slice x.1 (insE (p, i) l).length x.2, vi room] :: row slE 230 (.slice x.1 (insE (p, i) l).length x.2) (insE (p, i) l) :: H) := by
 refine enterG (fn := Tryz.f191) 26 [vp b, .agg #[vi p, vi i]] Tryz.func191 (by kernel_rfl) (by kernel_rfl) (by kernel_rfl) ?_
 refine Xq (Xg 1 (Xs (Xn 230 [vi p, vi i] (some 3) (fun b => vp b)) (fun b1 => ?_) 0))
 refine endR ?_
 refine Xq (Xy0 0 [] 11 ?_)
 refine Xt [0, 1, 2, 3, 4] [(3,vp b1), (0,vp b), (10,.slice A l.length cap), (11,.agg #[vi p, vi i])] [(⟨b, 0, none⟩, .slice A l.length cap), (⟨b1, 0, none⟩, vi p), (⟨b1, 1, none⟩, vi i)] (hasC (ba 1) (hasC (ba 0) (hasC (ba 0) has0))) ?_
 refine Xo 5 (Xa (some 12) (fun (x : {x : Nat × Bool // CutE l (p, i) x.1}) => .tuple #[vi (x.1.1 : Int), .bool x.1.2]) (bs_walk _ ⟨A, cap, l⟩ p i (rowKRat 2 rfl) hsr hl)) (fun (x : {x : Nat × Bool // CutE l (p, i) x.1}) => ?_)
 obtain ⟨⟨m, fo⟩, hcut⟩ := x
 dsimp only
 refine Xt [6, 7, 8, 9, 10] [(3,vp b1), (0,vp b), (4,vi m)] [] has0 ?_
 refine Xd ?_
 refine PT.pick 2 rfl ?_
 refine Xy0 1 [11] 12 ?_
 refine Xt [0, 1, 2, 3, 4, 5, 6] [(15,vp b), (19,.slice A l.length cap), (20,vi m), (21,.agg #[vi p, vi i])] [(⟨b, 0, none⟩, .slice A l.length cap), (⟨b1, 0, none⟩, vi p), (⟨b1, 1, none⟩, vi i)] (hasC (ba 1) (hasC (ba 0) (hasC (ba 0) has0))) ?_
 refine Xo 7 (Xn 230 [vi p, vi i] (some 22) (fun b => .slice (some ⟨b, 0, none⟩) 1 1)) (fun b2 => ?_)
 refine DT.pick 1 rfl ?_
 refine Xo 8 (Xa (some 23) (fun (r : Option Addr × Nat) => .slice r.1 (l.take m ++ (p, i) :: l.drop m).length r.2) (ins_walk (blk b2 230 [.int .i64 p, .int .i64 i] :: blk b1 230 [.int .i64 p, .int .i64 i] :: blk b 279 [.slice A l.length cap, .int .i64 room] :: H) 0 (.slice A l.length cap) l (p, i) b2 _ rfl m hcut.1 (by omega))) (fun (r : Option Addr × Nat) => ?_)
 rw [insE_cut (p, i) l m hcut]
 refine Xt [9, 10] [(23,.slice r.1 ((insE (p, i) l).length) r.2), (25,vp b)] [] has0 ?_
 refine DT.pick 3 rfl ?_
 refine Xo 11 (Xz [(0,.slice r.1 ((insE (p, i) l).length) r.2)]) (fun _ => ?_)
 refine Xd (Y1 (.tuple #[]) (fun w hs => ?_))
 exact ⟨r, rfl, Sat.erase 2 rfl (Sat.erase 2 rfl hs)⟩
def pqErr (e : Int) : Value := if e = 0 then .nilIface else .iface 126 (.int .i64 e)
def putE (room : Int) (l : List (Int × Int)) (p id : Int) : Int × List (Int × Int) :=
 if ((!isPassB p) || decide (id < 0)) = true then (10, l) else if findI l id ≥ 0 then (20, l) else if (l.length : Int) ≥ room then (14, l) else (0, insE (p, id) l)
set_option maxRecDepth 100000 in
theorem put_walk (H : List SP) (b : Nat) (A : Option Addr) (cap : Nat) (room : Int) (l : List (Int × Int)) (p id : Int) (hsr : SrtE l) (hl : l.length < 1000000) : ∀ w, Sat w (blk b 279 [.slice A l.length cap, vi room] :: row slE 230 (.slice A l.length cap) l :: H) → Calls Tryz.prog 143 #[vp b, vi p, vi id] w (Ret (ι := Option Addr × Nat) (fun _ => pqErr (putE room l p id).1) fun x => blk b 279 [.slice x.1 (putE room l p id).2.length x.2, vi room] :: row slE 230 (.slice x.1 (putE room l p id).2.length x.2) (putE room l p id).2 :: H) := by
 refine enterG (fn := Tryz.f143) 39 [vp b, vi p, vi id] Tryz.func143 (by kernel_rfl) (by kernel_rfl) (by kernel_rfl) ?_
 refine Xq (Xg 1 (Xe [(0,vp b), (1,vi p), (2,vi id), (6,.nilIface)] ?_ 1))
 refine Xq (Xb 0 (Xq (Xg 8 (Xr [(0,vp b), (1,vi p), (2,vi id), (6,.nilIface), (8,vi p)] ?_ 7 1))))
 refine Xs (Xa (some 9) (fun _ => .bool (isPassB p)) (isPass_walk _ p)) (fun _ => ?_) 6
 refine Xr [(0,vp b), (1,vi p), (2,vi id), (6,.nilIface), (11,.bool (!(isPassB p)))] ?_ 4 2
 refine (Xs0 1 3 [(0,vp b), (1,vi p), (2,vi id), (6,.nilIface), (14,.bool ((!(isPassB p)) || (decide (id < 0))))] ?_ ?_ : RT _ _ _ _ _ _ 4 _)
 ·cases hg4 : (!(isPassB p)) with
  | true =>
   refine Xe [(0,vp b), (1,vi p), (2,vi id), (6,.nilIface), (14,.bool true)] ?_ 3
   refine Xp [(0,vp b), (1,vi p), (2,vi id), (6,.nilIface), (14,.bool (true || (decide (id < 0))))] ?_
   exact midR () rfl rfl
  | false =>
   refine Xe [(0,vp b), (1,vi p), (2,vi id), (6,.nilIface), (14,.bool (decide (id < 0)))] ?_ 3
   refine Xp [(0,vp b), (1,vi p), (2,vi id), (6,.nilIface), (14,.bool (false || (decide (id < 0))))] ?_
   exact midR () rfl rfl
 refine Xe [(0,vp b), (1,vi p), (2,vi id), (6,.nilIface), (7,.bool ((!(isPassB p)) || (decide (id < 0))))] ?_ 1
 refine Xc ((!(isPassB p)) || (decide (id < 0))) (fun h1 => ?_) (fun h1 => ?_)
 ·skip
  refine Xq (Xg 2 (Xe [(0,vp b), (1,vi p), (2,vi id), (6,.iface 126 (vi 10))] ?_ 2))
  refine Xv (blockV (thenV (Y0 (.iface 126 (vi 10)) (fun w hs => ?_))))
  rw [putE, if_pos h1]; exact ⟨(A, cap), rfl, hs⟩
 ·skip
  have h1' : ¬ ((!isPassB p) || decide (id < 0)) = true := by rw [show ((!isPassB p) || decide (id < 0)) = false from h1]; simp
  refine Xq (Xg 5 (Xr [(0,vp b), (1,vi p), (2,vi id), (6,.nilIface), (17,vp b), (18,vi id)] ?_ 3 2))
  refine Xs (Xa (some 19) (fun _ => vi (findI l id)) (find_walk _ b A cap room l id (by omega))) (fun _ => ?_) 2
  refine Xe [(0,vp b), (1,vi p), (2,vi id), (6,.nilIface), (16,.bool (decide ((findI l id) ≥ 0)))] ?_ 2
  refine Xc (decide ((findI l id) ≥ 0)) (fun h2 => ?_) (fun h2 => ?_)
  ·skip
   refine Xq (Xg 2 (Xe [(0,vp b), (1,vi p), (2,vi id), (6,.iface 126 (vi 20))] ?_ 2))
   refine Xv (blockV (thenV (Y0 (.iface 126 (vi 20)) (fun w hs => ?_))))
   rw [putE, if_neg h1', if_pos (of_decide_eq_true h2)]; exact ⟨(A, cap), rfl, hs⟩
  ·skip
   refine Xq (Xy0 0 [] 11 ?_)
   refine Xt [0, 1, 2, 3, 4, 5, 6, 7, 8, 9, 10] [(0,vp b), (1,vi p), (2,vi id), (6,.nilIface), (22,.bool (decide ((l.length : Int) ≥ room)))] [(⟨b, 0, none⟩, .slice A l.length cap), (⟨b, 1, none⟩, vi room)] (hasC (ba 0) (hasC (ba 0) has0)) ?_
   refine Xd (Xc (decide ((l.length : Int) ≥ room)) (fun h3 => ?_) (fun h3 => ?_))
   ·skip
    refine Xq (Xg 2 (Xe [(0,vp b), (1,vi p), (2,vi id), (6,.iface 126 (vi 14))] ?_ 2))
    refine Xv (blockV (thenV (Y0 (.iface 126 (vi 14)) (fun w hs => ?_))))
    rw [putE, if_neg h1', if_neg (of_decide_eq_false h2), if_pos (of_decide_eq_true h3)]; exact ⟨(A, cap), rfl, hs⟩
   ·skip
    refine Xk (Xq (Xg 5 (Xr [(6,.nilIface), (34,vp b), (37,.agg #[vi p, vi id])] ?_ 1 4)))
    refine Xs (Xa (some 38) (fun (r : Option Addr × Nat) => .tuple #[]) (insert_walk _ b A cap room l p id hsr hl)) (fun (r : Option Addr × Nat) => ?_) 0
    refine endR ?_
    refine Xq (Xg 1 (Xe [(6,.nilIface)] ?_ 1))
    refine Xv (Y0 (.nilIface) (fun w hs => ?_))
    rw [putE, if_neg h1', if_neg (of_decide_eq_false h2), if_neg (of_decide_eq_false h3)]; exact ⟨r, rfl, hs⟩
def dropE (l : List (Int × Int)) (id : Int) : Int × List (Int × Int) := if findI l id < 0 then (13, l) else (0, l.take (findI l id).toNat ++ l.drop ((findI l id).toNat + 1))
set_option maxRecDepth 100000 in
theorem drop_walk (H : List SP) (b : Nat) (A : Option Addr) (cap : Nat) (room : Int) (l : List (Int × Int)) (id : Int) (hl : l.length < 1000000) : ∀ w, Sat w (blk b 279 [.slice A l.length cap, vi room] :: row slE 230 (.slice A l.length cap) l :: H) → Calls Tryz.prog 145 #[vp b, vi id] w (Ret (ι := Option Addr × Nat) (fun _ => pqErr (dropE l id).1) fun x => blk b 279 [.slice x.1 (dropE l id).2.length x.2, vi room] :: row slE 230 (.slice x.1 (dropE l id).2.length x.2) (dropE l id).2 :: H) := by
 refine enterG (fn := Tryz.f145) 23 [vp b, vi id] Tryz.func145 (by kernel_rfl) (by kernel_rfl) (by kernel_rfl) ?_
 refine Xq (Xg 1 (Xe [(0,vp b), (1,vi id), (4,.nilIface)] ?_ 1))
 refine Xq (Xg 4 (Xr [(0,vp b), (4,.nilIface), (6,vp b), (7,vi id)] ?_ 2 2))
 refine Xs (Xa (some 8) (fun _ => vi (findI l id)) (find_walk _ b A cap room l id (by omega))) (fun _ => ?_) 1
 refine Xe [(0,vp b), (4,.nilIface), (5,vi (findI l id))] ?_ 1
 refine Xq (Xq (Xg 2 (Xe [(0,vp b), (4,.nilIface), (5,vi (findI l id)), (10,.bool (decide ((findI l id) < 0)))] ?_ 2)))
 refine Xc (decide ((findI l id) < 0)) (fun h1 => ?_) (fun h1 => ?_)
 ·skip
  refine Xq (Xg 2 (Xe [(0,vp b), (4,.iface 126 (vi 13)), (5,vi (findI l id))] ?_ 2))
  refine Xv (thenV (Y0 (.iface 126 (vi 13)) (fun w hs => ?_)))
  rw [dropE, if_pos (of_decide_eq_true h1)]; exact ⟨(A, cap), rfl, hs⟩
 ·skip
  have h1' := of_decide_eq_false h1
  rcases findI_cases l id with ⟨hf, _⟩ | ⟨i, e, hf, he, hid, _⟩
  ·omega
  have hil := (List.getElem?_eq_some_iff.1 he).1
  have hd : dropE l id = (0, l.take i ++ l.drop (i + 1)) := by rw [dropE, if_neg h1', hf, Int.toNat_natCast]
  rw [hf, hd]
  have hw : IntKind.i64.wrap ((i : Int) + 1) = (i : Int) + 1 := by rw [IntKind.wrap_i64]; omega
  refine Xk (Xq (Xg 12 (Xl [(4,.nilIface), (12,vp b), (16,.slice A l.length cap), (17,vi i), (19,vi (IntKind.i64.wrap ((i : Int) + 1)))] [(⟨b, 0, none⟩, .slice A l.length cap)] (hasC (ba 0) has0) ?_ 4 8)))
  rw [hw]
  refine Xh0 ?_ 1 4
  refine Xs (Xa (some 20) (fun (r : Option Addr × Nat) => .slice r.1 (l.take i ++ l.drop (i + 1)).length r.2) (del_walk (blk b 279 [.slice A l.length cap, .int .i64 room] :: H) (.slice A l.length cap) l i hil (by omega))) (fun (r : Option Addr × Nat) => ?_) 3
  refine Xr [(20,.slice r.1 ((l.take i ++ l.drop (i + 1)).length) r.2), (4,.nilIface), (22,vp b)] ?_ 1 2
  refine Xh0 ?_ 1 1
  refine Xs (Xz [(0,.slice r.1 ((l.take i ++ l.drop (i + 1)).length) r.2)]) (fun _ => ?_) 0
  refine endR ?_
  refine Xq (Xg 1 (Xe [(4,.nilIface)] ?_ 1))
  refine Xv (Y0 (.nilIface) (fun w hs => ?_))
  exact ⟨r, rfl, hs⟩
def rekeyE (l : List (Int × Int)) (id p : Int) : Int × List (Int × Int) := if isPassB p = false then (10, l) else if findI l id < 0 then (13, l) else (0, insE (p, id) (l.take (findI l id).toNat ++ l.drop ((findI l id).toNat + 1)))
theorem SrtE.drop {l : List (Int × Int)} (h : SrtE l) (id : Int) : SrtE (dropE l id).2 := by
 unfold dropE
 split
 ·exact h
 ·rw [← List.eraseIdx_eq_take_drop_succ]; exact h.sublist (List.eraseIdx_sublist _ _)
theorem dropE_len (l : List (Int × Int)) (id : Int) : (dropE l id).2.length ≤ l.length := by
 unfold dropE
 split
 ·exact Nat.le_refl _
 ·rw [← List.eraseIdx_eq_take_drop_succ]; exact (List.eraseIdx_sublist _ _).length_le
set_option maxRecDepth 100000 in
theorem rekey_walk (H : List SP) (b : Nat) (A : Option Addr) (cap : Nat) (room : Int) (l : List (Int × Int)) (id p : Int) (hsr : SrtE l) (hl : l.length < 1000000) : ∀ w, Sat w (blk b 279 [.slice A l.length cap, vi room] :: row slE 230 (.slice A l.length cap) l :: H) → Calls Tryz.prog 149 #[vp b, vi id, vi p] w (Ret (ι := Option Addr × Nat) (fun _ => pqErr (rekeyE l id p).1) fun x => blk b 279 [.slice x.1 (rekeyE l id p).2.length x.2, vi room] :: row slE 230 (.slice x.1 (rekeyE l id p).2.length x.2) (rekeyE l id p).2 :: H) := by
 refine enterG (fn := Tryz.f149) 23 [vp b, vi id, vi p] Tryz.func149 (by kernel_rfl) (by kernel_rfl) (by kernel_rfl) ?_
 refine Xq (Xg 1 (Xe [(0,vp b), (1,vi id), (2,vi p), (6,.nilIface)] ?_ 1))
 refine Xq (Xq (Xg 3 (Xr [(0,vp b), (1,vi id), (2,vi p), (6,.nilIface), (8,vi p)] ?_ 2 1)))
 refine Xs (Xa (some 9) (fun _ => .bool (isPassB p)) (isPass_walk _ p)) (fun _ => ?_) 1
 refine Xe [(0,vp b), (1,vi id), (2,vi p), (6,.nilIface), (10,.bool (!(isPassB p)))] ?_ 1
 cases h1 : (isPassB p) with
 | true =>
  refine Xc false (fun h => by cases h) (fun _ => ?_)
  refine Xk (Xq (Xq (Xg 4 (Xr [(0,vp b), (1,vi id), (2,vi p), (6,.nilIface), (12,vp b), (13,vi id)] ?_ 2 2))))
  refine Xs (Xa (some 14) (fun (r : Option Addr × Nat) => pqErr (dropE l id).1) (drop_walk _ b A cap room l id hl)) (fun (r : Option Addr × Nat) => ?_) 1
  rcases Int.lt_or_le (findI l id) 0 with h2 | h2
  ·rw [show dropE l id = (13, l) by rw [dropE, if_pos h2]]
   refine Xe [(0,vp b), (1,vi id), (2,vi p), (6,.nilIface), (7,.iface 126 (vi 13))] ?_ 1
   refine Xq (Xg 2 (Xe [(0,vp b), (1,vi id), (2,vi p), (6,.nilIface), (7,.iface 126 (vi 13)), (16,.bool true)] ?_ 2))
   refine Xc true (fun _ => ?_) (fun h => by cases h)
   refine Xq (Xg 2 (Xe [(0,vp b), (1,vi id), (2,vi p), (6,.iface 126 (vi 13))] ?_ 2))
   refine Xv (thenV ?_)
   have hk2 : rekeyE l id p = (13, l) := by rw [rekeyE, if_neg (by rw [h1]; simp), if_pos h2]
   refine Y0 (.iface 126 (vi 13)) (fun w hs => ?_)
   rw [hk2]; exact ⟨r, rfl, hs⟩
  ·skip
   have hd0 : (dropE l id).1 = 0 := by rw [dropE, if_neg (by omega)]
   have hk2 : rekeyE l id p = (0, insE (p, id) (dropE l id).2) := by rw [rekeyE, if_neg (by rw [h1]; simp), if_neg (by omega), dropE, if_neg (by omega)]
   rw [hd0]
   refine Xe [(0,vp b), (1,vi id), (2,vi p), (6,.nilIface), (7,.nilIface)] ?_ 1
   refine Xq (Xg 2 (Xe [(0,vp b), (1,vi id), (2,vi p), (6,.nilIface), (7,.nilIface), (16,.bool false)] ?_ 2))
   refine Xc false (fun h => by cases h) (fun _ => ?_)
   refine Xk (Xq (Xg 5 (Xr [(6,.nilIface), (18,vp b), (21,.agg #[vi p, vi id])] ?_ 1 4)))
   refine Xs (Xa (some 22) (fun (q : Option Addr × Nat) => .tuple #[]) (insert_walk _ b r.1 r.2 room (dropE l id).2 p id (hsr.drop id) (Nat.lt_of_le_of_lt (dropE_len l id) hl))) (fun (q : Option Addr × Nat) => ?_) 0
   refine endR ?_
   refine Xq (Xg 1 (Xe [(6,.nilIface)] ?_ 1))
   refine Xv (Y0 (.nilIface) (fun w hs => ?_))
   rw [hk2]; exact ⟨q, rfl, hs⟩
 | false =>
  refine Xc true (fun _ => ?_) (fun h => by cases h)
  refine Xq (Xg 2 (Xe [(0,vp b), (1,vi id), (2,vi p), (6,.iface 126 (vi 10))] ?_ 2))
  refine Xv (thenV (Y0 (.iface 126 (vi 10)) (fun w hs => ?_)))
  rw [rekeyE, if_pos h1]; exact ⟨(A, cap), rfl, hs⟩
end Go.Proofs.YtfhkgohokbkgiaaGreatDoor
set_option linter.unusedVariables false
set_option linter.unusedSimpArgs false
namespace Go.Proofs.YtfhkgohokbkgiaaGreatDoor
open Go.RowKit G Go.Lib
theorem len8_big : ∀ n : Fin 65, 0 ≤ len8 (n.val : Int) ∧ len8 (n.val : Int) ≤ 7 ∧ (12 < n.val → len8 (n.val : Int) ≠ 0) := by decide +kernel
set_option maxHeartbeats 1000000 in
set_option maxRecDepth 100000 in
theorem len64_w (w : World) (n : Int) (h0 : 0 ≤ n) (h1 : n ≤ 64) : Calls Tryz.prog 221 #[.int .u64 n] w fun e w' => e = .returned (vi (len8 n)) ∧ w' = w := by
 have d1 : decide (n ≥ 4294967296) = false := decide_eq_false (by omega)
 have d2 : decide (n ≥ 65536) = false := decide_eq_false (by omega)
 have d3 : decide (n ≥ 256) = false := decide_eq_false (by omega)
 have hb := len8_big ⟨n.toNat, by omega⟩
 rw [show ((⟨n.toNat, by omega⟩ : Fin 65).val : Int) = n by show (n.toNat : Int) = n; omega] at hb
 go_enter Tryz.func221, Tryz.ntmps221
 have hlt : n < (len8tab.size : Int) := by rw [len8tab_size]; omega
 have hsz : n.toNat < len8tab.size := by omega
 have he : ((len8tab[n.toNat]).toNat : Int) = len8 n := by
  unfold len8
  rw [getElem?_pos len8tab n.toNat hsz]; rfl
 go_wp2
 go_ret
 exact ⟨rfl, rfl⟩
theorem len64_walk (H : List SP) (n : Int) (h0 : 0 ≤ n) (h1 : n ≤ 64) : ∀ w, Sat w H → Calls Tryz.prog 221 #[.int .u64 n] w (Ret (ι := Unit) (fun _ => vi (len8 n)) fun _ => H) := fun w hs =>
 (len64_w w n h0 h1).mono fun e w' ⟨he, hw⟩ => ⟨(), he, hw ▸ hs⟩
set_option maxRecDepth 100000 in
theorem bitsLen_walk (H : List SP) (n : Int) (h0 : 0 ≤ n) (h1 : n ≤ 64) : ∀ w, Sat w H → Calls Tryz.prog 188 #[.int .u64 n] w (Ret (ι := Unit) (fun _ => vi (len8 n)) fun _ => H) := by
 refine enterG (fn := Tryz.f188) 8 [.int .u64 n] Tryz.func188 (by kernel_rfl) (by kernel_rfl) (by kernel_rfl) ?_
 refine Xq (Xg 1 (Xe [(0,.int .u64 n), (2,vi 0)] ?_ 1))
 refine Xq (Xc false (fun h => by cases h) (fun _ => ?_))
 refine Xk (Xq (Xg 3 (Xr [(2,vi 0), (6,.int .u64 n)] ?_ 2 1)))
 refine Xs (Xa (some 7) (fun _ => vi (len8 n)) (len64_walk _ n h0 h1)) (fun _ => ?_) 1
 refine Xe [(2,vi (len8 n))] ?_ 1
 refine Xv (Y0 (vi (len8 n)) (fun w hs => ?_))
 exact ⟨(), rfl, hs⟩
end Go.Proofs.YtfhkgohokbkgiaaGreatDoor
set_option linter.unusedVariables false
set_option linter.unusedSimpArgs false
namespace Go.Proofs.YtfhkgohokbkgiaaGreatDoor
open Go.RowKit G Go.Lib
theorem SrtE.not {l : List (Int × Int)} (h : SrtE l) {u v : Nat} {x y : Int × Int} (hu : l[u]? = some x) (hv : l[v]? = some y) (huv : u < v) : decide (byI (y.1, y.2) (x.1, x.2) < 0) = false :=
 decide_eq_false fun hl => eLt_irrefl x (eLt_trans (h.at hu hv huv) ((byI_lt y x).1 hl))
set_option maxRecDepth 100000 in
theorem order2_walk (H : List SP) (s : SV (Int × Int)) (hk : KR H slE s) (hsr : SrtE s.l) (u v : Nat) (huv : u < v) (hv : v < s.l.length) (q : Value) : ∀ w, Sat w H → Calls Tryz.prog 256 #[.slice s.a s.l.length s.c, vi u, vi v, q, .func (.func 194) #[] #[]] w (Ret (ι := Unit) (fun _ => .tuple #[vi u, vi v]) fun _ => H) := by
 obtain ⟨x, hx⟩ : ∃ x, s.l[u]? = some x := ⟨s.l[u]'(by omega), by simp⟩
 obtain ⟨y, hy⟩ : ∃ y, s.l[v]? = some y := ⟨s.l[v]'(by omega), by simp⟩
 refine enterG (fn := Tryz.f256) 32 [.slice s.a s.l.length s.c, vi u, vi v, q, .func (.func 194) #[] #[]] Tryz.func256 (by kernel_rfl) (by kernel_rfl) (by kernel_rfl) ?_
 refine PT.know ((hk).isSome (List.ne_nil_of_length_pos (by omega))) ?_
 rintro ⟨sb, so, hA⟩
 try rw [hA]
 refine Xq (Xg 2 (Xe [(0,.slice (some ⟨sb, so, none⟩) s.l.length s.c), (1,vi u), (2,vi v), (3,q), (4,.func (.func 194) #[] #[]), (10,vi 0), (11,vi 0)] ?_ 2))
 refine Xq (Xq (Xy0 0 [] 11 ?_))
 refine Xt [0, 1, 2, 5, 6] [(1,vi u), (2,vi v), (3,q), (10,vi 0), (11,vi 0), (12,.func (.func 194) #[] #[]), (13,.slice (some ⟨sb, so, none⟩) s.l.length s.c), (14,vi v), (17,.slice (some ⟨sb, so, none⟩) s.l.length s.c), (18,vi u)] [] has0 ?_
 refine Xu 3 (Xi 277 (.tmp 13) (.tmp 14) sb so s.l.length s.c v 2 230 (v : Int) 15 Tryz.underlying277) ?_
 refine Xt [4] [(1,vi u), (2,vi v), (3,q), (10,vi 0), (11,vi 0), (12,.func (.func 194) #[] #[]), (17,.slice (some ⟨sb, so, none⟩) s.l.length s.c), (18,vi u), (16,.agg #[vi y.1, vi y.2])] [(⟨sb, so + v * 2, none⟩, vi y.1), (⟨sb, so + v * 2 + 1, none⟩, vi y.2)] (hasC (hk.cell hA (i := v) (x := y) hy (j := 0) rfl) (hasC (hk.cell hA (i := v) (x := y) hy (j := 1) rfl) has0)) ?_
 refine Xu 7 (Xi 277 (.tmp 17) (.tmp 18) sb so s.l.length s.c u 2 230 (u : Int) 19 Tryz.underlying277) ?_
 refine Xt [8] [(1,vi u), (2,vi v), (3,q), (10,vi 0), (11,vi 0), (12,.func (.func 194) #[] #[]), (16,.agg #[vi y.1, vi y.2]), (20,.agg #[vi x.1, vi x.2])] [(⟨sb, so + u * 2, none⟩, vi x.1), (⟨sb, so + u * 2 + 1, none⟩, vi x.2)] (hasC (hk.cell hA (i := u) (x := x) hx (j := 0) rfl) (hasC (hk.cell hA (i := u) (x := x) hx (j := 1) rfl) has0)) ?_
 refine Xo 9 (Xa (some 21) (fun _ => vi (byI (y.1, y.2) (x.1, x.2))) (by_walk _ y.1 y.2 x.1 x.2)) (fun _ => ?_)
 refine Xt [10] [(1,vi u), (2,vi v), (3,q), (10,vi 0), (11,vi 0), (22,.bool (decide ((byI (y.1, y.2) (x.1, x.2)) < 0)))] [] has0 ?_
 refine Xd ?_
 rw [hsr.not hx hy huv]
 refine Xc false (fun h => by cases h) (fun _ => ?_)
 refine Xk (Xq (Xg 4 (Xe [(10,vi u), (11,vi v)] ?_ 4)))
 refine Xv (Y0 (.tuple #[vi u, vi v]) (fun w hs => ?_))
 exact ⟨(), rfl, hs⟩
set_option maxRecDepth 100000 in
theorem median_walk (H : List SP) (s : SV (Int × Int)) (hk : KR H slE s) (hsr : SrtE s.l) (u v t : Nat) (huv : u < v) (hvt : v < t) (ht : t < s.l.length) (q : Value) : ∀ w, Sat w H → Calls Tryz.prog 253 #[.slice s.a s.l.length s.c, vi u, vi v, vi t, q, .func (.func 194) #[] #[]] w (Ret (ι := Unit) (fun _ => vi v) fun _ => H) := by
 refine enterG (fn := Tryz.f253) 41 [.slice s.a s.l.length s.c, vi u, vi v, vi t, q, .func (.func 194) #[] #[]] Tryz.func253 (by kernel_rfl) (by kernel_rfl) (by kernel_rfl) ?_
 refine Xq (Xg 1 (Xe [(0,.slice s.a s.l.length s.c), (1,vi u), (2,vi v), (3,vi t), (4,q), (5,.func (.func 194) #[] #[]), (12,vi 0)] ?_ 1))
 refine Xq (Xg 11 (Xr [(0,.slice s.a s.l.length s.c), (1,vi u), (2,vi v), (3,vi t), (4,q), (5,.func (.func 194) #[] #[]), (12,vi 0), (14,.slice s.a s.l.length s.c), (15,vi u), (16,vi v), (17,q), (18,.func (.func 194) #[] #[])] ?_ 6 5))
 refine Xs (Xa (some 19) (fun _ => .tuple #[vi u, vi v]) (order2_walk _ s hk hsr u v huv (by omega) q)) (fun _ => ?_) 5
 refine Xe [(0,.slice s.a s.l.length s.c), (1,vi u), (2,vi v), (3,vi t), (4,q), (5,.func (.func 194) #[] #[]), (12,vi 0)] ?_ 5
 refine Xq (Xg 11 (Xr [(0,.slice s.a s.l.length s.c), (1,vi u), (2,vi v), (4,q), (5,.func (.func 194) #[] #[]), (12,vi 0), (23,.slice s.a s.l.length s.c), (24,vi v), (25,vi t), (26,q), (27,.func (.func 194) #[] #[])] ?_ 6 5))
 refine Xs (Xa (some 28) (fun _ => .tuple #[vi v, vi t]) (order2_walk _ s hk hsr v t hvt ht q)) (fun _ => ?_) 5
 refine Xe [(0,.slice s.a s.l.length s.c), (1,vi u), (2,vi v), (4,q), (5,.func (.func 194) #[] #[]), (12,vi 0)] ?_ 5
 refine Xq (Xg 11 (Xr [(2,vi v), (12,vi 0), (32,.slice s.a s.l.length s.c), (33,vi u), (34,vi v), (35,q), (36,.func (.func 194) #[] #[])] ?_ 6 5))
 refine Xs (Xa (some 37) (fun _ => .tuple #[vi u, vi v]) (order2_walk _ s hk hsr u v huv (by omega) q)) (fun _ => ?_) 5
 refine Xe [(2,vi v), (12,vi 0)] ?_ 5
 refine Xq (Xg 2 (Xe [(12,vi v)] ?_ 2))
 refine Xv (Y0 (vi v) (fun w hs => ?_))
 exact ⟨(), rfl, hs⟩
set_option maxRecDepth 100000 in
theorem medianAdj_walk (H : List SP) (s : SV (Int × Int)) (hk : KR H slE s) (hsr : SrtE s.l) (v : Nat) (hv0 : 0 < v) (hv : v + 1 < s.l.length) (hl : s.l.length < 1000000) (q : Value) : ∀ w, Sat w H → Calls Tryz.prog 252 #[.slice s.a s.l.length s.c, vi v, q, .func (.func 194) #[] #[]] w (Ret (ι := Unit) (fun _ => vi v) fun _ => H) := by
 refine enterG (fn := Tryz.f252) 18 [.slice s.a s.l.length s.c, vi v, q, .func (.func 194) #[] #[]] Tryz.func252 (by kernel_rfl) (by kernel_rfl) (by kernel_rfl) ?_
 refine Xq (Xg 1 (Xe [(0,.slice s.a s.l.length s.c), (1,vi v), (2,q), (3,.func (.func 194) #[] #[]), (8,vi 0)] ?_ 1))
 refine Xq (Xg 10 (Xr [(8,vi 0), (9,.slice s.a s.l.length s.c), (11,vi (IntKind.i64.wrap ((v : Int) - 1))), (12,vi v), (14,vi (IntKind.i64.wrap ((v : Int) + 1))), (15,q), (16,.func (.func 194) #[] #[])] ?_ 2 8))
 rw [show IntKind.i64.wrap ((v : Int) - 1) = ((v - 1 : Nat) : Int) by rw [IntKind.wrap_i64]; omega, show IntKind.i64.wrap ((v : Int) + 1) = ((v + 1 : Nat) : Int) by rw [IntKind.wrap_i64]; omega]
 refine Xs (Xa (some 17) (fun _ => vi v) (median_walk _ s hk hsr (v - 1) v (v + 1) (by omega) (by omega) hv q)) (fun _ => ?_) 1
 refine Xe [(8,vi v)] ?_ 1
 refine Xv (Y0 (vi v) (fun w hs => ?_))
 exact ⟨(), rfl, hs⟩
theorem quart {n : Nat} (hn : n ≤ 1000) : IntKind.i64.wrap (Int.tdiv (n : Int) 4) = ((n / 4 : Nat) : Int) := by rw [Int.tdiv_eq_ediv_of_nonneg (by omega), IntKind.wrap_i64]; omega
set_option maxHeartbeats 1000000 in
set_option maxRecDepth 100000 in
theorem pivot_walk (H : List SP) (s : SV (Int × Int)) (hk : KR H slE s) (hsr : SrtE s.l) (hl : s.l.length ≤ 64) (hl2 : 12 < s.l.length) : ∀ w, Sat w H → Calls Tryz.prog 242 #[.slice s.a s.l.length s.c, vi 0, vi (s.l.length : Int), .func (.func 194) #[] #[]] w (Ret (ι := Unit) (fun _ => .tuple #[vi ((s.l.length / 4 * 2 : Nat) : Int), vi 1]) fun _ => H) := by
 obtain ⟨n, hn⟩ : ∃ n, n = s.l.length := ⟨_, rfl⟩
 have hq := quart (n := n) (by omega)
 obtain ⟨m, hm⟩ : ∃ m, m = n / 4 := ⟨_, rfl⟩
 refine enterG (fn := Tryz.f242) 63 [.slice s.a s.l.length s.c, vi 0, vi (s.l.length : Int), .func (.func 194) #[] #[]] Tryz.func242 (by kernel_rfl) (by kernel_rfl) (by kernel_rfl) ?_
 refine Xq (Xg 2 (Xe [(0,.slice s.a s.l.length s.c), (1,vi 0), (2,vi (s.l.length : Int)), (3,.func (.func 194) #[] #[]), (8,vi 0), (9,vi 0)] ?_ 2))
 refine Xq (Xg 4 (Xe [(0,.slice s.a s.l.length s.c), (1,vi 0), (3,.func (.func 194) #[] #[]), (8,vi 0), (9,vi 0), (10,vi (IntKind.i64.wrap ((s.l.length : Int) - 0)))] ?_ 4))
 refine Xq (Xg 1 (Xs (Xn 3 [vi 0] (some 11) (fun b => vp b)) (fun b1 => ?_) 0))
 refine endR ?_
 refine Xq (Xg 6 (Xe [(11,vp b1), (0,.slice s.a s.l.length s.c), (1,vi 0), (3,.func (.func 194) #[] #[]), (8,vi 0), (9,vi 0), (10,vi (IntKind.i64.wrap ((s.l.length : Int) - 0))), (12,vi (IntKind.i64.wrap (0 + (IntKind.i64.wrap ((IntKind.i64.wrap (Int.tdiv (IntKind.i64.wrap ((s.l.length : Int) - 0)) 4)) * 1)))))] ?_ 6))
 refine Xq (Xg 6 (Xe [(11,vp b1), (0,.slice s.a s.l.length s.c), (1,vi 0), (3,.func (.func 194) #[] #[]), (8,vi 0), (9,vi 0), (10,vi (IntKind.i64.wrap ((s.l.length : Int) - 0))), (12,vi (IntKind.i64.wrap (0 + (IntKind.i64.wrap ((IntKind.i64.wrap (Int.tdiv (IntKind.i64.wrap ((s.l.length : Int) - 0)) 4)) * 1))))), (13,vi (IntKind.i64.wrap (0 + (IntKind.i64.wrap ((IntKind.i64.wrap (Int.tdiv (IntKind.i64.wrap ((s.l.length : Int) - 0)) 4)) * 2)))))] ?_ 6))
 refine Xq (Xg 6 (Xe [(11,vp b1), (0,.slice s.a s.l.length s.c), (3,.func (.func 194) #[] #[]), (8,vi 0), (9,vi 0), (10,vi (IntKind.i64.wrap ((s.l.length : Int) - 0))), (12,vi (IntKind.i64.wrap (0 + (IntKind.i64.wrap ((IntKind.i64.wrap (Int.tdiv (IntKind.i64.wrap ((s.l.length : Int) - 0)) 4)) * 1))))), (13,vi (IntKind.i64.wrap (0 + (IntKind.i64.wrap ((IntKind.i64.wrap (Int.tdiv (IntKind.i64.wrap ((s.l.length : Int) - 0)) 4)) * 2))))), (14,vi (IntKind.i64.wrap (0 + (IntKind.i64.wrap ((IntKind.i64.wrap (Int.tdiv (IntKind.i64.wrap ((s.l.length : Int) - 0)) 4)) * 3)))))] ?_ 6))
 refine Xq (Xq (Xg 2 (Xe [(11,vp b1), (0,.slice s.a s.l.length s.c), (3,.func (.func 194) #[] #[]), (8,vi 0), (9,vi 0), (10,vi (IntKind.i64.wrap ((s.l.length : Int) - 0))), (12,vi (IntKind.i64.wrap (0 + (IntKind.i64.wrap ((IntKind.i64.wrap (Int.tdiv (IntKind.i64.wrap ((s.l.length : Int) - 0)) 4)) * 1))))), (13,vi (IntKind.i64.wrap (0 + (IntKind.i64.wrap ((IntKind.i64.wrap (Int.tdiv (IntKind.i64.wrap ((s.l.length : Int) - 0)) 4)) * 2))))), (14,vi (IntKind.i64.wrap (0 + (IntKind.i64.wrap ((IntKind.i64.wrap (Int.tdiv (IntKind.i64.wrap ((s.l.length : Int) - 0)) 4)) * 3))))), (34,.bool (decide ((IntKind.i64.wrap ((s.l.length : Int) - 0)) ≥ 8)))] ?_ 2)))
 rw [show IntKind.i64.wrap ((s.l.length : Int) - 0) = (s.l.length : Int) by rw [IntKind.wrap_i64]; omega, ← hn, hq, ← hm]
 rw [show IntKind.i64.wrap (0 + IntKind.i64.wrap ((m : Int) * 1)) = (m : Int) by rw [IntKind.wrap_i64, IntKind.wrap_i64]; omega, show IntKind.i64.wrap (0 + IntKind.i64.wrap ((m : Int) * 2)) = ((m * 2 : Nat) : Int) by rw [IntKind.wrap_i64, IntKind.wrap_i64]; omega, show IntKind.i64.wrap (0 + IntKind.i64.wrap ((m : Int) * 3)) = ((m * 3 : Nat) : Int) by rw [IntKind.wrap_i64, IntKind.wrap_i64]; omega]
 rw [hn]
 rw [show decide ((s.l.length : Int) ≥ 8) = true from decide_eq_true (by omega)]
 refine Xc true (fun _ => ?_) (fun h => by cases h)
 refine Xq (Xq (Xg 2 (Xe [(11,vp b1), (0,.slice s.a s.l.length s.c), (3,.func (.func 194) #[] #[]), (8,vi 0), (9,vi 0), (12,vi m), (13,vi ((m * 2 : Nat) : Int)), (14,vi ((m * 3 : Nat) : Int)), (36,.bool (decide ((s.l.length : Int) ≥ 50)))] ?_ 2)))
 refine Xc (decide ((s.l.length : Int) ≥ 50)) (fun h1 => ?_) (fun h1 => ?_)
 ·skip
  have h1' : 50 ≤ s.l.length := by have := of_decide_eq_true h1; omega
  refine Xq (Xg 5 (Xr [(11,vp b1), (0,.slice s.a s.l.length s.c), (3,.func (.func 194) #[] #[]), (8,vi 0), (9,vi 0), (12,vi m), (13,vi ((m * 2 : Nat) : Int)), (14,vi ((m * 3 : Nat) : Int)), (37,.slice s.a s.l.length s.c), (38,vi m), (39,.func (.func 194) #[] #[])] ?_ 2 3))
  refine Xs (Xa (some 40) (fun _ => vi m) (medianAdj_walk _ s hk.up hsr m (by omega) (by omega) (by omega) (.pointer (some ⟨b1, 0, none⟩)))) (fun _ => ?_) 1
  refine Xe [(11,vp b1), (0,.slice s.a s.l.length s.c), (3,.func (.func 194) #[] #[]), (8,vi 0), (9,vi 0), (12,vi m), (13,vi ((m * 2 : Nat) : Int)), (14,vi ((m * 3 : Nat) : Int))] ?_ 1
  refine Xq (Xg 5 (Xr [(11,vp b1), (0,.slice s.a s.l.length s.c), (3,.func (.func 194) #[] #[]), (8,vi 0), (9,vi 0), (12,vi m), (13,vi ((m * 2 : Nat) : Int)), (14,vi ((m * 3 : Nat) : Int)), (41,.slice s.a s.l.length s.c), (42,vi ((m * 2 : Nat) : Int)), (43,.func (.func 194) #[] #[])] ?_ 2 3))
  refine Xs (Xa (some 44) (fun _ => vi ((m * 2 : Nat) : Int)) (medianAdj_walk _ s hk.up hsr (m * 2) (by omega) (by omega) (by omega) (.pointer (some ⟨b1, 0, none⟩)))) (fun _ => ?_) 1
  refine Xe [(11,vp b1), (0,.slice s.a s.l.length s.c), (3,.func (.func 194) #[] #[]), (8,vi 0), (9,vi 0), (12,vi m), (13,vi ((m * 2 : Nat) : Int)), (14,vi ((m * 3 : Nat) : Int))] ?_ 1
  refine Xg 5 (Xr [(11,vp b1), (0,.slice s.a s.l.length s.c), (3,.func (.func 194) #[] #[]), (8,vi 0), (9,vi 0), (12,vi m), (13,vi ((m * 2 : Nat) : Int)), (14,vi ((m * 3 : Nat) : Int)), (45,.slice s.a s.l.length s.c), (46,vi ((m * 3 : Nat) : Int)), (47,.func (.func 194) #[] #[])] ?_ 2 3)
  refine Xs (Xa (some 48) (fun _ => vi ((m * 3 : Nat) : Int)) (medianAdj_walk _ s hk.up hsr (m * 3) (by omega) (by omega) (by omega) (.pointer (some ⟨b1, 0, none⟩)))) (fun _ => ?_) 1
  refine Xe [(11,vp b1), (0,.slice s.a s.l.length s.c), (3,.func (.func 194) #[] #[]), (8,vi 0), (9,vi 0), (12,vi m), (13,vi ((m * 2 : Nat) : Int)), (14,vi ((m * 3 : Nat) : Int))] ?_ 1
  refine Xg 7 (Xr [(11,vp b1), (8,vi 0), (9,vi 0), (13,vi ((m * 2 : Nat) : Int)), (49,.slice s.a s.l.length s.c), (50,vi m), (51,vi ((m * 2 : Nat) : Int)), (52,vi ((m * 3 : Nat) : Int)), (53,.func (.func 194) #[] #[])] ?_ 2 5)
  refine Xs (Xa (some 54) (fun _ => vi ((m * 2 : Nat) : Int)) (median_walk _ s hk.up hsr m (m * 2) (m * 3) (by omega) (by omega) (by omega) (.pointer (some ⟨b1, 0, none⟩)))) (fun _ => ?_) 1
  refine Xe [(11,vp b1), (8,vi 0), (9,vi 0), (13,vi ((m * 2 : Nat) : Int))] ?_ 1
  refine Xq (Xg 1 (Xm [(8,vi 0), (9,vi 0), (13,vi ((m * 2 : Nat) : Int)), (55,vi 0)] [(⟨b1, 0, none⟩, vi 0)] (hasC (ba 0) has0) ?_ 1))
  refine Xb 0 (Xq (Xg 2 (Xe [(8,vi 0), (9,vi 0), (13,vi ((m * 2 : Nat) : Int)), (55,vi 0), (57,.bool true)] ?_ 2)))
  refine Xc true (fun _ => ?_) (fun h => by cases h)
  refine Xq (Xg 3 (Xe [(8,vi ((m * 2 : Nat) : Int)), (9,vi 1)] ?_ 3))
  refine Xv (blockV (Y0 (.tuple #[vi ((m * 2 : Nat) : Int), vi 1]) (fun w hs => ?_)))
  exact ⟨(), rfl, hs.tail⟩
 ·skip
  refine Xk (Xg 7 (Xr [(11,vp b1), (8,vi 0), (9,vi 0), (13,vi ((m * 2 : Nat) : Int)), (49,.slice s.a s.l.length s.c), (50,vi m), (51,vi ((m * 2 : Nat) : Int)), (52,vi ((m * 3 : Nat) : Int)), (53,.func (.func 194) #[] #[])] ?_ 2 5))
  refine Xs (Xa (some 54) (fun _ => vi ((m * 2 : Nat) : Int)) (median_walk _ s hk.up hsr m (m * 2) (m * 3) (by omega) (by omega) (by omega) (.pointer (some ⟨b1, 0, none⟩)))) (fun _ => ?_) 1
  refine Xe [(11,vp b1), (8,vi 0), (9,vi 0), (13,vi ((m * 2 : Nat) : Int))] ?_ 1
  refine Xq (Xg 1 (Xm [(8,vi 0), (9,vi 0), (13,vi ((m * 2 : Nat) : Int)), (55,vi 0)] [(⟨b1, 0, none⟩, vi 0)] (hasC (ba 0) has0) ?_ 1))
  refine Xb 0 (Xq (Xg 2 (Xe [(8,vi 0), (9,vi 0), (13,vi ((m * 2 : Nat) : Int)), (55,vi 0), (57,.bool true)] ?_ 2)))
  refine Xc true (fun _ => ?_) (fun h => by cases h)
  refine Xq (Xg 3 (Xe [(8,vi ((m * 2 : Nat) : Int)), (9,vi 1)] ?_ 3))
  refine Xv (blockV (Y0 (.tuple #[vi ((m * 2 : Nat) : Int), vi 1]) (fun w hs => ?_)))
  exact ⟨(), rfl, hs.tail⟩
set_option maxHeartbeats 1000000 in
set_option maxRecDepth 100000 in
theorem partial_walk (H : List SP) (s : SV (Int × Int)) (hk : KR H slE s) (hsr : SrtE s.l) (hl : s.l.length ≤ 64) (hl2 : 12 < s.l.length) : ∀ w, Sat w H → Calls Tryz.prog 244 #[.slice s.a s.l.length s.c, vi 0, vi (s.l.length : Int), .func (.func 194) #[] #[]] w (Ret (ι := Unit) (fun _ => .bool true) fun _ => H) := by
 refine enterG (fn := Tryz.f244) 141 [.slice s.a s.l.length s.c, vi 0, vi (s.l.length : Int), .func (.func 194) #[] #[]] Tryz.func244 (by kernel_rfl) (by kernel_rfl) (by kernel_rfl) ?_
 refine Xq (Xg 1 (Xe [(0,.slice s.a s.l.length s.c), (1,vi 0), (2,vi (s.l.length : Int)), (3,.func (.func 194) #[] #[]), (8,.bool false)] ?_ 1))
 refine Xq (Xg 3 (Xe [(0,.slice s.a s.l.length s.c), (1,vi 0), (2,vi (s.l.length : Int)), (3,.func (.func 194) #[] #[]), (8,.bool false), (9,vi (IntKind.i64.wrap (0 + 1)))] ?_ 3))
 refine Xq (Xq (Xg 1 (Xe [(0,.slice s.a s.l.length s.c), (1,vi 0), (2,vi (s.l.length : Int)), (3,.func (.func 194) #[] #[]), (8,.bool false), (9,vi (IntKind.i64.wrap (0 + 1))), (10,vi 0)] ?_ 1)))
 refine Xb 0 ?_
 rw [show IntKind.i64.wrap ((0 : Int) + 1) = 1 from rfl]
 refine Xp [(0,.slice s.a s.l.length s.c), (1,vi 0), (2,vi (s.l.length : Int)), (3,.func (.func 194) #[] #[]), (8,.bool false), (9,vi 1), (10,vi 0)] (Xl0 (fun (x : Unit) => [(0,.slice s.a s.l.length s.c), (1,vi 0), (2,vi (s.l.length : Int)), (3,.func (.func 194) #[] #[]), (8,.bool false), (9,vi 1), (10,vi 0)]) (fun k (x : Unit) => k = 0) 0 () (by kernel_rfl) rfl ?_)
 rintro k x hk0
 refine Xq (Xq (Xg 2 (Xe [(0,.slice s.a s.l.length s.c), (1,vi 0), (2,vi (s.l.length : Int)), (3,.func (.func 194) #[] #[]), (8,.bool false), (9,vi 1), (10,vi 0), (16,.bool true)] ?_ 2)))
 refine Xc true (fun _ => ?_) (fun h => by cases h)
 refine Xk (Xq (Xb 1 (Xq (Xb 2 (Xp [(0,.slice s.a s.l.length s.c), (1,vi 0), (2,vi (s.l.length : Int)), (3,.func (.func 194) #[] #[]), (8,.bool false), (9,vi 1), (10,vi 0)] (Xl0 (fun (u : Nat) => [(0,.slice s.a s.l.length s.c), (1,vi 0), (2,vi (s.l.length : Int)), (3,.func (.func 194) #[] #[]), (8,.bool false), (9,vi u), (10,vi 0)]) (fun k (u : Nat) => k + u = s.l.length ∧ 1 ≤ u) (s.l.length - 1) 1 (by kernel_rfl) ⟨by omega, by omega⟩ ?_))))))
 rintro k2 u ⟨hku, hu1⟩
 refine Xq (Xq (Xy0 0 [] 18 ?_))
 refine Xt [0, 1, 2, 3] [(0,.slice s.a s.l.length s.c), (1,vi 0), (2,vi (s.l.length : Int)), (3,.func (.func 194) #[] #[]), (8,.bool false), (9,vi u), (10,vi 0), (22,.bool (decide ((u : Int) < (s.l.length : Int))))] [] has0 ?_
 cases h1 : (decide ((u : Int) < (s.l.length : Int))) with
 | true =>
  have hu : u < s.l.length := by have := of_decide_eq_true h1; omega
  obtain ⟨x, hx⟩ : ∃ x, s.l[u - 1]? = some x := ⟨s.l[u - 1]'(by omega), by simp⟩
  obtain ⟨y, hy⟩ : ∃ y, s.l[u]? = some y := ⟨s.l[u]'(by omega), by simp⟩
  refine PT.know ((hk).isSome (List.ne_nil_of_length_pos (by omega))) ?_
  rintro ⟨sb, so, hA⟩
  try rw [hA]
  refine Xt [4, 5, 6, 9, 10, 11] [(0,.slice (some ⟨sb, so, none⟩) s.l.length s.c), (1,vi 0), (2,vi (s.l.length : Int)), (3,.func (.func 194) #[] #[]), (8,.bool false), (9,vi u), (10,vi 0), (22,.bool true), (23,.func (.func 194) #[] #[]), (24,.slice (some ⟨sb, so, none⟩) s.l.length s.c), (25,vi u), (28,.slice (some ⟨sb, so, none⟩) s.l.length s.c), (30,vi (IntKind.i64.wrap ((u : Int) - 1)))] [] has0 ?_
  refine Xu 7 (Xi 277 (.tmp 24) (.tmp 25) sb so s.l.length s.c u 2 230 (u : Int) 26 Tryz.underlying277) ?_
  refine Xt [8] [(0,.slice (some ⟨sb, so, none⟩) s.l.length s.c), (1,vi 0), (2,vi (s.l.length : Int)), (3,.func (.func 194) #[] #[]), (8,.bool false), (9,vi u), (10,vi 0), (22,.bool true), (23,.func (.func 194) #[] #[]), (28,.slice (some ⟨sb, so, none⟩) s.l.length s.c), (30,vi (IntKind.i64.wrap ((u : Int) - 1))), (27,.agg #[vi y.1, vi y.2])] [(⟨sb, so + u * 2, none⟩, vi y.1), (⟨sb, so + u * 2 + 1, none⟩, vi y.2)] (hasC (hk.cell hA (i := u) (x := y) hy (j := 0) rfl) (hasC (hk.cell hA (i := u) (x := y) hy (j := 1) rfl) has0)) ?_
  rw [show IntKind.i64.wrap ((u : Int) - 1) = ((u - 1 : Nat) : Int) by rw [IntKind.wrap_i64]; omega]
  refine Xu 12 (Xi 277 (.tmp 28) (.tmp 30) sb so s.l.length s.c (u - 1) 2 230 ((u - 1 : Nat) : Int) 31 Tryz.underlying277) ?_
  refine Xt [13] [(0,.slice (some ⟨sb, so, none⟩) s.l.length s.c), (1,vi 0), (2,vi (s.l.length : Int)), (3,.func (.func 194) #[] #[]), (8,.bool false), (9,vi u), (10,vi 0), (22,.bool true), (23,.func (.func 194) #[] #[]), (27,.agg #[vi y.1, vi y.2]), (32,.agg #[vi x.1, vi x.2])] [(⟨sb, so + (u - 1) * 2, none⟩, vi x.1), (⟨sb, so + (u - 1) * 2 + 1, none⟩, vi x.2)] (hasC (hk.cell hA (i := u - 1) (x := x) hx (j := 0) rfl) (hasC (hk.cell hA (i := u - 1) (x := x) hx (j := 1) rfl) has0)) ?_
  refine Xo 14 (Xa (some 33) (fun _ => vi (byI (y.1, y.2) (x.1, x.2))) (by_walk _ y.1 y.2 x.1 x.2)) (fun _ => ?_)
  refine Xt [15, 16, 17] [(0,.slice (some ⟨sb, so, none⟩) s.l.length s.c), (1,vi 0), (2,vi (s.l.length : Int)), (3,.func (.func 194) #[] #[]), (8,.bool false), (9,vi u), (10,vi 0), (36,.bool (!(decide ((byI (y.1, y.2) (x.1, x.2)) < 0))))] [] has0 ?_
  refine Xd ?_
  try rw [← hA]
  rw [hsr.not hx hy (by omega)]
  refine Xc true (fun _ => ?_) (fun h => by cases h)
  refine Xk (Xb 3 (Xg 3 (Xe [(0,.slice s.a s.l.length s.c), (1,vi 0), (2,vi (s.l.length : Int)), (3,.func (.func 194) #[] #[]), (8,.bool false), (9,vi (IntKind.i64.wrap ((u : Int) + 1))), (10,vi 0)] ?_ 3)))
  rw [show IntKind.i64.wrap ((u : Int) + 1) = ((u + 1 : Nat) : Int) by rw [IntKind.wrap_i64]; omega]
  refine Xp [(0,.slice s.a s.l.length s.c), (1,vi 0), (2,vi (s.l.length : Int)), (3,.func (.func 194) #[] #[]), (8,.bool false), (9,vi ((u + 1 : Nat) : Int)), (10,vi 0)] ?_
  exact againG (k2 - 1) (u + 1) rfl rfl (by omega) ⟨by omega, by omega⟩
 | false =>
  have hu : u = s.l.length := by have := of_decide_eq_false h1; omega
  refine Xt [4, 5, 6, 7, 8, 9, 10, 11, 12, 13, 14, 15, 16, 17] [(0,.slice s.a s.l.length s.c), (1,vi 0), (2,vi (s.l.length : Int)), (3,.func (.func 194) #[] #[]), (8,.bool false), (9,vi u), (10,vi 0), (36,.bool false)] [] has0 ?_
  refine Xd (Xc false (fun h => by cases h) (fun _ => ?_))
  refine Xx 2 (thenX (thenX (leaveR (Xq (Xq (Xg 3 (Xe [(0,.slice s.a s.l.length s.c), (1,vi 0), (2,vi (s.l.length : Int)), (3,.func (.func 194) #[] #[]), (8,.bool false), (9,vi u), (10,vi 0), (41,.bool ((u : Int) == (s.l.length : Int)))] ?_ 3)))))))
  rw [show ((u : Int) == (s.l.length : Int)) = true by rw [hu]; simp]
  refine Xc true (fun _ => ?_) (fun h => by cases h)
  refine Xq (Xg 1 (Xe [(0,.slice s.a s.l.length s.c), (1,vi 0), (2,vi (s.l.length : Int)), (3,.func (.func 194) #[] #[]), (8,.bool true), (9,vi u), (10,vi 0)] ?_ 1))
  refine Xv (thenV (blockV (thenV (thenV (blockV (thenV (Y0 (.bool true) (fun w hs => ?_))))))))
  exact ⟨(), rfl, hs⟩
set_option maxHeartbeats 1000000 in
set_option maxRecDepth 100000 in
theorem isort_walk (H : List SP) (s : SV (Int × Int)) (hk : KR H slE s) (hsr : SrtE s.l) (hl : s.l.length ≤ 64) : ∀ w, Sat w H → Calls Tryz.prog 239 #[.slice s.a s.l.length s.c, vi 0, vi (s.l.length : Int), .func (.func 194) #[] #[]] w (Ret (ι := Unit) (fun _ => .tuple #[]) fun _ => H) := by
 refine enterG (fn := Tryz.f239) 53 [.slice s.a s.l.length s.c, vi 0, vi (s.l.length : Int), .func (.func 194) #[] #[]] Tryz.func239 (by kernel_rfl) (by kernel_rfl) (by kernel_rfl) ?_
 refine Xq (Xg 3 (Xe [(0,.slice s.a s.l.length s.c), (1,vi 0), (2,vi (s.l.length : Int)), (3,.func (.func 194) #[] #[]), (8,vi (IntKind.i64.wrap (0 + 1)))] ?_ 3))
 refine Xb 0 ?_
 rw [show IntKind.i64.wrap ((0 : Int) + 1) = 1 from rfl]
 refine Xp [(0,.slice s.a s.l.length s.c), (1,vi 0), (2,vi (s.l.length : Int)), (3,.func (.func 194) #[] #[]), (8,vi 1)] (Xl0 (fun (u : Nat) => [(0,.slice s.a s.l.length s.c), (1,vi 0), (2,vi (s.l.length : Int)), (3,.func (.func 194) #[] #[]), (8,vi u)]) (fun k (u : Nat) => k = s.l.length - u ∧ 1 ≤ u) (s.l.length - 1) 1 (by kernel_rfl) ⟨rfl, by omega⟩ ?_)
 rintro k u ⟨hku, hu1⟩
 refine Xq (Xq (Xg 3 (Xe [(0,.slice s.a s.l.length s.c), (1,vi 0), (2,vi (s.l.length : Int)), (3,.func (.func 194) #[] #[]), (8,vi u), (14,.bool (decide ((u : Int) < (s.l.length : Int))))] ?_ 3)))
 refine Xc (decide ((u : Int) < (s.l.length : Int))) (fun h1 => ?_) (fun h1 => ?_)
 ·skip
  have hu : u < s.l.length := by have := of_decide_eq_true h1; omega
  obtain ⟨x, hx⟩ : ∃ x, s.l[u - 1]? = some x := ⟨s.l[u - 1]'(by omega), by simp⟩
  obtain ⟨y, hy⟩ : ∃ y, s.l[u]? = some y := ⟨s.l[u]'(by omega), by simp⟩
  refine Xk (Xq (Xb 1 (Xq (Xg 2 (Xe [(0,.slice s.a s.l.length s.c), (1,vi 0), (2,vi (s.l.length : Int)), (3,.func (.func 194) #[] #[]), (8,vi u), (9,vi u)] ?_ 2)))))
  refine Xb 2 (Xp [(0,.slice s.a s.l.length s.c), (1,vi 0), (2,vi (s.l.length : Int)), (3,.func (.func 194) #[] #[]), (8,vi u), (9,vi u)] (Xl0 (fun (x : Unit) => [(0,.slice s.a s.l.length s.c), (1,vi 0), (2,vi (s.l.length : Int)), (3,.func (.func 194) #[] #[]), (8,vi u), (9,vi u)]) (fun k (x : Unit) => k = 0) 0 () (by kernel_rfl) rfl ?_))
  rintro k2 _ hk0
  refine Xq (Xq (Xy0 0 [] 17 ?_))
  refine Xt [0, 1, 2, 3] [(0,.slice s.a s.l.length s.c), (1,vi 0), (2,vi (s.l.length : Int)), (3,.func (.func 194) #[] #[]), (8,vi u), (9,vi u), (21,.bool (decide ((u : Int) > 0)))] [] has0 ?_
  rw [show decide ((u : Int) > 0) = true by exact decide_eq_true (by omega)]
  refine PT.know ((hk).isSome (List.ne_nil_of_length_pos (by omega))) ?_
  rintro ⟨sb, so, hA⟩
  try rw [hA]
  refine Xt [4, 5, 6, 9, 10, 11] [(0,.slice (some ⟨sb, so, none⟩) s.l.length s.c), (1,vi 0), (2,vi (s.l.length : Int)), (3,.func (.func 194) #[] #[]), (8,vi u), (9,vi u), (21,.bool true), (22,.func (.func 194) #[] #[]), (23,.slice (some ⟨sb, so, none⟩) s.l.length s.c), (24,vi u), (27,.slice (some ⟨sb, so, none⟩) s.l.length s.c), (29,vi (IntKind.i64.wrap ((u : Int) - 1)))] [] has0 ?_
  refine Xu 7 (Xi 277 (.tmp 23) (.tmp 24) sb so s.l.length s.c u 2 230 (u : Int) 25 Tryz.underlying277) ?_
  refine Xt [8] [(0,.slice (some ⟨sb, so, none⟩) s.l.length s.c), (1,vi 0), (2,vi (s.l.length : Int)), (3,.func (.func 194) #[] #[]), (8,vi u), (9,vi u), (21,.bool true), (22,.func (.func 194) #[] #[]), (27,.slice (some ⟨sb, so, none⟩) s.l.length s.c), (29,vi (IntKind.i64.wrap ((u : Int) - 1))), (26,.agg #[vi y.1, vi y.2])] [(⟨sb, so + u * 2, none⟩, vi y.1), (⟨sb, so + u * 2 + 1, none⟩, vi y.2)] (hasC (hk.cell hA (i := u) (x := y) hy (j := 0) rfl) (hasC (hk.cell hA (i := u) (x := y) hy (j := 1) rfl) has0)) ?_
  rw [show IntKind.i64.wrap ((u : Int) - 1) = ((u - 1 : Nat) : Int) by rw [IntKind.wrap_i64]; omega]
  refine Xu 12 (Xi 277 (.tmp 27) (.tmp 29) sb so s.l.length s.c (u - 1) 2 230 ((u - 1 : Nat) : Int) 30 Tryz.underlying277) ?_
  refine Xt [13] [(0,.slice (some ⟨sb, so, none⟩) s.l.length s.c), (1,vi 0), (2,vi (s.l.length : Int)), (3,.func (.func 194) #[] #[]), (8,vi u), (9,vi u), (21,.bool true), (22,.func (.func 194) #[] #[]), (26,.agg #[vi y.1, vi y.2]), (31,.agg #[vi x.1, vi x.2])] [(⟨sb, so + (u - 1) * 2, none⟩, vi x.1), (⟨sb, so + (u - 1) * 2 + 1, none⟩, vi x.2)] (hasC (hk.cell hA (i := u - 1) (x := x) hx (j := 0) rfl) (hasC (hk.cell hA (i := u - 1) (x := x) hx (j := 1) rfl) has0)) ?_
  refine Xo 14 (Xa (some 32) (fun _ => vi (byI (y.1, y.2) (x.1, x.2))) (by_walk _ y.1 y.2 x.1 x.2)) (fun _ => ?_)
  refine Xt [15, 16] [(0,.slice (some ⟨sb, so, none⟩) s.l.length s.c), (1,vi 0), (2,vi (s.l.length : Int)), (3,.func (.func 194) #[] #[]), (8,vi u), (9,vi u), (34,.bool (decide ((byI (y.1, y.2) (x.1, x.2)) < 0)))] [] has0 ?_
  refine Xd ?_
  try rw [← hA]
  rw [show decide ((byI (y.1, y.2) (x.1, x.2)) < 0) = false by exact hsr.not hx hy (by omega)]
  refine Xc false (fun h => by cases h) (fun _ => ?_)
  refine Xx 2 (thenX (thenX (leaveR (Xg 3 (Xe [(0,.slice s.a s.l.length s.c), (1,vi 0), (2,vi (s.l.length : Int)), (3,.func (.func 194) #[] #[]), (8,vi (IntKind.i64.wrap ((u : Int) + 1)))] ?_ 3)))))
  rw [show IntKind.i64.wrap ((u : Int) + 1) = ((u + 1 : Nat) : Int) by rw [IntKind.wrap_i64]; omega]
  refine Xp [(0,.slice s.a s.l.length s.c), (1,vi 0), (2,vi (s.l.length : Int)), (3,.func (.func 194) #[] #[]), (8,vi ((u + 1 : Nat) : Int))] ?_
  exact againG (k - 1) (u + 1) rfl rfl (by omega) ⟨by omega, by omega⟩
 ·skip
  refine Xx 0 (thenX (thenX (leaveR (Y1 (.tuple #[]) (fun w hs => ?_)))))
  exact ⟨(), rfl, hs⟩
set_option maxHeartbeats 1000000 in
set_option maxRecDepth 100000 in
theorem pdq_walk (H : List SP) (s : SV (Int × Int)) (lim : Int) (hlim : 12 < s.l.length → lim ≠ 0) (hk : KR H slE s) (hsr : SrtE s.l) (hl : s.l.length ≤ 64) : ∀ w, Sat w H → Calls Tryz.prog 224 #[.slice s.a s.l.length s.c, vi 0, vi (s.l.length : Int), vi lim, .func (.func 194) #[] #[]] w (Ret (ι := Unit) (fun _ => .tuple #[]) fun _ => H) := by
 refine enterG (fn := Tryz.f224) 148 [.slice s.a s.l.length s.c, vi 0, vi (s.l.length : Int), vi lim, .func (.func 194) #[] #[]] Tryz.func224 (by kernel_rfl) (by kernel_rfl) (by kernel_rfl) ?_
 refine Xq (Xg 1 (Xe [(0,.slice s.a s.l.length s.c), (1,vi 0), (2,vi (s.l.length : Int)), (3,vi lim), (4,.func (.func 194) #[] #[]), (10,.bool true)] ?_ 1))
 refine Xq (Xg 1 (Xe [(0,.slice s.a s.l.length s.c), (1,vi 0), (2,vi (s.l.length : Int)), (3,vi lim), (4,.func (.func 194) #[] #[]), (10,.bool true), (11,.bool true)] ?_ 1))
 refine Xb 0 (Xp [(0,.slice s.a s.l.length s.c), (1,vi 0), (2,vi (s.l.length : Int)), (3,vi lim), (4,.func (.func 194) #[] #[]), (10,.bool true), (11,.bool true)] (Xl0 (fun (x : Unit) => [(0,.slice s.a s.l.length s.c), (1,vi 0), (2,vi (s.l.length : Int)), (3,vi lim), (4,.func (.func 194) #[] #[]), (10,.bool true), (11,.bool true)]) (fun k (x : Unit) => k = 0) 0 () (by kernel_rfl) rfl ?_))
 rintro k _ hk0
 refine Xb 1 (Xq (Xg 4 (Xe [(0,.slice s.a s.l.length s.c), (1,vi 0), (2,vi (s.l.length : Int)), (3,vi lim), (4,.func (.func 194) #[] #[]), (10,.bool true), (11,.bool true), (12,vi (IntKind.i64.wrap ((s.l.length : Int) - 0)))] ?_ 4)))
 refine Xq (Xq (Xg 2 (Xe [(0,.slice s.a s.l.length s.c), (1,vi 0), (2,vi (s.l.length : Int)), (3,vi lim), (4,.func (.func 194) #[] #[]), (10,.bool true), (11,.bool true), (12,vi (IntKind.i64.wrap ((s.l.length : Int) - 0))), (25,.bool (decide ((IntKind.i64.wrap ((s.l.length : Int) - 0)) ≤ 12)))] ?_ 2)))
 rw [show IntKind.i64.wrap ((s.l.length : Int) - 0) = (s.l.length : Int) by rw [IntKind.wrap_i64]; omega]
 refine Xc (decide ((s.l.length : Int) ≤ 12)) (fun h1 => ?_) (fun h1 => ?_)
 ·skip
  refine Xq (Xg 5 (Xr [(0,.slice s.a s.l.length s.c), (1,vi 0), (2,vi (s.l.length : Int)), (3,vi lim), (4,.func (.func 194) #[] #[]), (10,.bool true), (11,.bool true), (12,vi (s.l.length : Int)), (26,.slice s.a s.l.length s.c), (27,vi 0), (28,vi (s.l.length : Int)), (29,.func (.func 194) #[] #[])] ?_ 1 4))
  refine Xs (Xa (some 30) (fun _ => .tuple #[]) (isort_walk _ s hk hsr hl)) (fun _ => ?_) 0
  refine endR ?_
  refine Xv (thenV (blockV (thenV (blockV (Y0 (.tuple #[]) (fun w hs => ?_))))))
  exact ⟨(), rfl, hs⟩
 ·skip
  have hl2 : 12 < s.l.length := by have := of_decide_eq_false h1; omega
  refine Xk (Xq (Xq (Xg 2 (Xe [(0,.slice s.a s.l.length s.c), (1,vi 0), (2,vi (s.l.length : Int)), (3,vi lim), (4,.func (.func 194) #[] #[]), (10,.bool true), (11,.bool true), (12,vi (s.l.length : Int)), (32,.bool (lim == 0))] ?_ 2))))
  rw [show (lim == 0) = false from beq_eq_false_iff_ne.2 (hlim hl2)]
  refine Xc false (fun h => by cases h) (fun _ => ?_)
  refine Xk (Xq (Xq (Xg 2 (Xe [(0,.slice s.a s.l.length s.c), (1,vi 0), (2,vi (s.l.length : Int)), (3,vi lim), (4,.func (.func 194) #[] #[]), (10,.bool true), (11,.bool true), (12,vi (s.l.length : Int)), (39,.bool false)] ?_ 2))))
  refine Xc false (fun h => by cases h) (fun _ => ?_)
  refine Xk (Xq (Xg 10 (Xr [(0,.slice s.a s.l.length s.c), (1,vi 0), (2,vi (s.l.length : Int)), (3,vi lim), (4,.func (.func 194) #[] #[]), (10,.bool true), (11,.bool true), (12,vi (s.l.length : Int)), (48,.slice s.a s.l.length s.c), (49,vi 0), (50,vi (s.l.length : Int)), (51,.func (.func 194) #[] #[])] ?_ 6 4)))
  refine Xs (Xa (some 52) (fun _ => .tuple #[vi ((s.l.length / 4 * 2 : Nat) : Int), vi 1]) (pivot_walk _ s hk hsr hl hl2)) (fun _ => ?_) 5
  refine Xe [(0,.slice s.a s.l.length s.c), (1,vi 0), (2,vi (s.l.length : Int)), (3,vi lim), (4,.func (.func 194) #[] #[]), (10,.bool true), (11,.bool true), (12,vi (s.l.length : Int)), (13,vi ((s.l.length / 4 * 2 : Nat) : Int)), (14,vi 1)] ?_ 5
  refine Xq (Xq (Xg 2 (Xe [(0,.slice s.a s.l.length s.c), (1,vi 0), (2,vi (s.l.length : Int)), (3,vi lim), (4,.func (.func 194) #[] #[]), (10,.bool true), (11,.bool true), (12,vi (s.l.length : Int)), (13,vi ((s.l.length / 4 * 2 : Nat) : Int)), (14,vi 1), (56,.bool false)] ?_ 2)))
  refine Xc false (fun h => by cases h) (fun _ => ?_)
  refine Xk (Xq (Xq (Xg 8 (Xe [(0,.slice s.a s.l.length s.c), (1,vi 0), (2,vi (s.l.length : Int)), (3,vi lim), (4,.func (.func 194) #[] #[]), (10,.bool true), (11,.bool true), (12,vi (s.l.length : Int)), (13,vi ((s.l.length / 4 * 2 : Nat) : Int)), (75,.bool true)] ?_ 8))))
  refine Xc true (fun _ => ?_) (fun h => by cases h)
  refine Xq (Xg 5 (Xr [(0,.slice s.a s.l.length s.c), (1,vi 0), (2,vi (s.l.length : Int)), (3,vi lim), (4,.func (.func 194) #[] #[]), (10,.bool true), (11,.bool true), (12,vi (s.l.length : Int)), (13,vi ((s.l.length / 4 * 2 : Nat) : Int)), (76,.slice s.a s.l.length s.c), (77,vi 0), (78,vi (s.l.length : Int)), (79,.func (.func 194) #[] #[])] ?_ 1 4))
  refine Xs (Xa (some 80) (fun _ => .bool true) (partial_walk _ s hk hsr hl hl2)) (fun _ => ?_) 0
  refine endR ?_
  refine Xc true (fun _ => ?_) (fun h => by cases h)
  refine Xv (thenV (blockV (thenV (blockV (Y0 (.tuple #[]) (fun w hs => ?_))))))
  exact ⟨(), rfl, hs⟩
set_option maxRecDepth 100000 in
theorem sort_walk (H : List SP) (s : SV (Int × Int)) (hk : KR H slE s) (hsr : SrtE s.l) (hl : s.l.length ≤ 64) : ∀ w, Sat w H → Calls Tryz.prog 193 #[.slice s.a s.l.length s.c, .func (.func 194) #[] #[]] w (Ret (ι := Unit) (fun _ => .tuple #[]) fun _ => H) := by
 refine enterG (fn := Tryz.f193) 14 [.slice s.a s.l.length s.c, .func (.func 194) #[] #[]] Tryz.func193 (by kernel_rfl) (by kernel_rfl) (by kernel_rfl) ?_
 refine Xq (Xg 3 (Xe [(0,.slice s.a s.l.length s.c), (1,.func (.func 194) #[] #[]), (4,vi (s.l.length : Int))] ?_ 3))
 refine Xg 7 (Xr [(1,.func (.func 194) #[] #[]), (7,.slice s.a s.l.length s.c), (8,vi (s.l.length : Int)), (10,.int .u64 (IntKind.u64.wrap (s.l.length : Int)))] ?_ 3 4)
 rw [show IntKind.u64.wrap (s.l.length : Int) = (s.l.length : Int) by rw [IntKind.wrap_u64]; omega]
 refine Xs (Xa (some 11) (fun _ => vi (len8 (s.l.length : Int))) (bitsLen_walk _ (s.l.length : Int) (by omega) (by omega))) (fun _ => ?_) 2
 refine Xr [(11,vi (len8 (s.l.length : Int))), (7,.slice s.a s.l.length s.c), (8,vi (s.l.length : Int)), (12,.func (.func 194) #[] #[])] ?_ 1 1
 refine Xs (Xa (some 13) (fun _ => .tuple #[]) (pdq_walk _ s (len8 (s.l.length : Int)) (fun h => by have := (len8_big ⟨s.l.length, by omega⟩).2.2 h; exact this) hk hsr hl)) (fun _ => ?_) 0
 refine endR ?_
 refine Y1 (.tuple #[]) (fun w hs => ?_)
 exact ⟨(), rfl, hs⟩
end Go.Proofs.YtfhkgohokbkgiaaGreatDoor
set_option linter.unusedVariables false
set_option linter.unusedSimpArgs false
namespace Go.Proofs.YtfhkgohokbkgiaaGreatDoor
open Go.RowKit G
theorem Sat.blkRow0 {α : Type} {E : Enc α} {T : TypeId} {H : List SP} {w : World} {b : Nat} (h : Sat w (blk b T [] :: H)) : Sat w (row E T (.slice (some ⟨b, 0, none⟩) 0 0) ([] : List α) :: H) :=
 Sat.change h fun G hG => by
  refine ⟨Upd.refl _ w, OneB b, .inr ⟨b, 0, 0, _, rfl, rfl, hG.1, by simp, by simp [maxLen], by simp, ?_⟩, fun x hx => .inl ((hG.2 x).2 hx)⟩
  simp; rfl
theorem PT.blkRow0 {α : Type} {E : Enc α} {T : TypeId} {H : List SP} {n : Nat} {L : List (Nat × Value)} {b : Nat} {Φ : Act → World → Prop} (h : PT n L (row E T (.slice (some ⟨b, 0, none⟩) 0 0) ([] : List α) :: H) Φ) : PT n L (blk b T [] :: H) Φ := PT.sat (fun w hs => Sat.blkRow0 hs) h
theorem rowA {α : Type} {E : Enc α} {T : TypeId} {H : List SP} (i : Nat) {A : Option Addr} {k : Nat} {xs : List α} (hi : H[i]? = some (row E T (.slice A xs.length k) xs)) : ∀ w, Sat w H → (A = none ∧ xs = [] ∧ k = 0) ∨ ∃ b o, A = some ⟨b, o, none⟩ := by
 intro w hs
 obtain ⟨G, hG⟩ := (hs.pick i hi).head
 rcases hG with ⟨h1, h2, _⟩ | ⟨b, o, c, cur, h1, _⟩
 ·injection h1 with e1 e2 e3; exact .inl ⟨e1, h2, e3⟩
 ·injection h1 with e1 e2 e3; exact .inr ⟨b, o, e1⟩
theorem rowKRm {α : Type} {E : Enc α} {T : TypeId} {H : List SP} (i : Nat) {A : Option Addr} {m k : Nat} {xs : List α} (hi : H[i]? = some (row E T (.slice A m k) xs)) (hm : m = xs.length) : KR H E ⟨A, k, xs⟩ := by subst hm; exact rowKRat i hi
theorem ent_ety : Ety Tryz.prog slE 230 (.agg #[.int .i64 0, .int .i64 0]) := etySl
def shN (n : Int) : Int := mnI (mxI n 0) 1099511627776
def shiftE (l : List (Int × Int)) (n : Int) : List (Int × Int) := l.map fun e => (mxI 0 (IntKind.i64.wrap (e.1 - shN n)), e.2)
set_option maxHeartbeats 1000000 in
set_option maxRecDepth 100000 in
theorem shift_walk (H : List SP) (b : Nat) (A : Option Addr) (cap : Nat) (room : Int) (l : List (Int × Int)) (n : Int) (hl : l.length ≤ 64) (hsr : SrtE (shiftE l n)) : ∀ w, Sat w (blk b 279 [.slice A l.length cap, vi room] :: row slE 230 (.slice A l.length cap) l :: H) → Calls Tryz.prog 148 #[vp b, vi n] w (Ret (ι := Unit) (fun _ => .tuple #[]) fun _ => blk b 279 [.slice A (shiftE l n).length cap, vi room] :: row slE 230 (.slice A (shiftE l n).length cap) (shiftE l n) :: H) := by
 refine enterG (fn := Tryz.f148) 40 [vp b, vi n] Tryz.func148 (by kernel_rfl) (by kernel_rfl) (by kernel_rfl) ?_
 refine Xq (Xg 4 (Xe [(0,vp b), (1,vi (mnI (mxI n 0) 1099511627776))] ?_ 4))
 refine Xq (Xq (Xg 6 (Xm [(0,vp b), (1,vi (mnI (mxI n 0) 1099511627776)), (12,vi (l.length : Int)), (13,vi 0)] [(⟨b, 0, none⟩, .slice A l.length cap)] (hasC (ba 0) has0) ?_ 6)))
 refine Xb 0 (Xp [(0,vp b), (1,vi (mnI (mxI n 0) 1099511627776)), (12,vi (l.length : Int)), (13,vi 0)] ?_)
 refine loopG (fun (x : List (Int × Int) × Nat) => [(0, vp b), (1, vi (shN n)), (12, vi (l.length : Int)), (13, vi (x.2 : Int))]) (fun (x : List (Int × Int) × Nat) => (blk b 279 [.slice A l.length cap, vi room] :: row slE 230 (.slice A l.length cap) x.1 :: H)) (fun k (x : List (Int × Int) × Nat) => k + x.2 = l.length ∧ x.1 = (shiftE l n).take x.2 ++ l.drop x.2) l.length (l, 0) (by kernel_rfl) ⟨by simp, by simp⟩ ?_
 rintro k ⟨xs, u⟩ ⟨hku, hxs⟩
 dsimp only at hku hxs ⊢
 have hsl : (shiftE l n).length = l.length := by simp [shiftE]
 have hxl : xs.length = l.length := by rw [hxs, List.length_append, List.length_take, List.length_drop]; omega
 refine Xq (Xg 1 (Xe [(0,vp b), (1,vi (shN n)), (12,vi (l.length : Int)), (13,vi u), (14,.bool (decide ((u : Int) < (l.length : Int))))] ?_ 1))
 refine Xq (Xc (decide ((u : Int) < (l.length : Int))) (fun h1 => ?_) (fun h1 => ?_))
 ·skip
  have hu : u < l.length := by have := of_decide_eq_true h1; omega
  obtain ⟨e, he⟩ : ∃ e, l[u]? = some e := ⟨_, by simp [hu]; rfl⟩
  have hxe : xs[u]? = some e := by rw [hxs, List.getElem?_append_right (by rw [List.length_take]; omega), List.length_take, List.getElem?_drop, hsl, show u + (u - min u l.length) = u by omega]; exact he
  have hse : (shiftE l n)[u]? = some (mxI 0 (IntKind.i64.wrap (e.1 - shN n)), e.2) := by rw [shiftE, List.getElem?_map, he]; rfl
  have hset : xs.set u (mxI 0 (IntKind.i64.wrap (e.1 - shN n)), e.2) = (shiftE l n).take (u + 1) ++ l.drop (u + 1) := by
   rw [hxs, List.set_append_right _ _ (by rw [List.length_take]; omega), List.length_take, hsl, show u - min u l.length = 0 by omega, List.take_add_one, hse, List.drop_eq_getElem_cons hu, List.set_cons_zero, List.append_assoc]
   rfl
  refine PT.know (KR.isSome (s := ⟨A, cap, xs⟩) (rowKRm 1 rfl hxl.symm) (List.ne_nil_of_length_pos (by show 0 < xs.length; omega))) ?_
  rintro ⟨sb, so, hA⟩
  dsimp only at hA
  subst hA
  refine Xk (Xq (Xb 1 (Xq (Xg 2 (Xe [(0,vp b), (1,vi (shN n)), (12,vi (l.length : Int)), (13,vi u), (4,vi u)] ?_ 2)))))
  refine Xy0 0 [18] 19 ?_
  refine Xt [0, 1, 2, 3, 4, 5, 6, 7, 8, 9, 13] [(0,vp b), (1,vi (shN n)), (12,vi (l.length : Int)), (13,vi u), (19,.slice (some ⟨sb, so, none⟩) l.length cap), (20,vi u), (24,.slice (some ⟨sb, so, none⟩) l.length cap), (25,vi u), (29,vi (shN n))] [(⟨b, 0, none⟩, .slice (some ⟨sb, so, none⟩) l.length cap), (⟨b, 0, none⟩, .slice (some ⟨sb, so, none⟩) l.length cap)] (hasC (ba 0) (hasC (ba 0) has0)) ?_
  refine Xu 10 (Xi 277 (.tmp 24) (.tmp 25) sb so l.length cap u 2 230 (u : Int) 26 Tryz.underlying277) ?_
  refine Xt [11, 12, 14, 15] [(0,vp b), (1,vi (shN n)), (12,vi (l.length : Int)), (13,vi u), (19,.slice (some ⟨sb, so, none⟩) l.length cap), (20,vi u), (31,vi (mxI 0 (IntKind.i64.wrap (e.1 - (shN n)))))] [(⟨sb, so + u * 2, none⟩, vi e.1)] (hasC ((rowKRm (xs := xs) (m := l.length) (A := some ⟨sb, so, none⟩) (k := cap) (E := slE) (T := 230) 1 rfl hxl.symm).cell rfl (i := u) (x := e) hxe (j := 0) rfl) has0) ?_
  refine Xu 16 (Xi 277 (.tmp 19) (.tmp 20) sb so l.length cap u 2 230 (u : Int) 32 Tryz.underlying277) ?_
  refine Xt [17] [(0,vp b), (1,vi (shN n)), (12,vi (l.length : Int)), (13,vi u), (31,vi (mxI 0 (IntKind.i64.wrap (e.1 - (shN n))))), (33,.pointer (some ⟨sb, so + u * 2, none⟩))] [] has0 ?_
  refine DT.pick 1 rfl ?_
  refine Xo 18 (setS (E := slE) (J := u) (j := 0) e (mxI 0 (IntKind.i64.wrap (e.1 - shN n)), e.2) (.int .i64 (mxI 0 (IntKind.i64.wrap (e.1 - (shN n))))) ⟨sb, so + u * 2, none⟩ (fun _ => by kernel_rfl) (by first | rfl | simp) (hxe) (rfl) (by decide)) (fun _ => ?_)
  refine Xd (Xg 2 (Xe [(0,vp b), (1,vi (shN n)), (12,vi (l.length : Int)), (13,vi (IntKind.i64.wrap ((u : Int) + 1)))] ?_ 2))
  rw [show IntKind.i64.wrap ((u : Int) + 1) = ((u + 1 : Nat) : Int) by rw [IntKind.wrap_i64]; omega]
  refine PT.pick 1 rfl ?_
  refine Xp [(0,vp b), (1,vi (shN n)), (12,vi (l.length : Int)), (13,vi ((u + 1 : Nat) : Int))] ?_
  exact againG (k - 1) (xs.set u (mxI 0 (IntKind.i64.wrap (e.1 - shN n)), e.2), u + 1) rfl rfl (by omega) ⟨by simp only; omega, hset⟩
 ·skip
  have hu : u = l.length := by have := of_decide_eq_false h1; omega
  have hfin : xs = shiftE l n := by rw [hxs, hu, List.drop_length, List.append_nil, List.take_of_length_le (by omega)]
  rw [hfin]
  refine Xx 0 (thenX (thenX (leaveR (Xg 5 (Xl [(38,.slice A l.length cap)] [(⟨b, 0, none⟩, .slice A l.length cap)] (hasC (ba 0) has0) ?_ 1 4)))))
  rw [← hsl]
  refine Xs (Xa (some 39) (fun _ => .tuple #[]) (sort_walk (blk b 279 [.slice A ((shiftE l n).length) cap, .int .i64 room] :: row slE 230 (.slice A ((shiftE l n).length) cap) (shiftE l n) :: H) ⟨A, cap, shiftE l n⟩ (rowKRat 1 rfl) hsr (by show (shiftE l n).length ≤ 64; omega))) (fun _ => ?_) 0
  refine endR ?_
  refine Y1 (.tuple #[]) (fun w hs => ?_)
  exact ⟨(), rfl, hs⟩
theorem put_idx (H : List SP) (b : Nat) (room : Int) (l : List (Int × Int)) (p id : Int) (hsr : SrtE l) (hl : l.length < 1000000) : ∀ w, Sat w (idxS b room l :: H) → Calls Tryz.prog 143 #[vp b, vi p, vi id] w (Ret (ι := Unit) (fun _ => pqErr (putE room l p id).1) fun _ => idxS b room (putE room l p id).2 :: H) :=
 idx_open fun A cap w hs => (put_walk H b A cap room l p id hsr hl w hs).mono fun e w' ⟨x, he, hx⟩ => ⟨(), he, Sat.idx hx⟩
theorem drop_idx (H : List SP) (b : Nat) (room : Int) (l : List (Int × Int)) (id : Int) (hl : l.length < 1000000) : ∀ w, Sat w (idxS b room l :: H) → Calls Tryz.prog 145 #[vp b, vi id] w (Ret (ι := Unit) (fun _ => pqErr (dropE l id).1) fun _ => idxS b room (dropE l id).2 :: H) :=
 idx_open fun A cap w hs => (drop_walk H b A cap room l id hl w hs).mono fun e w' ⟨x, he, hx⟩ => ⟨(), he, Sat.idx hx⟩
theorem rekey_idx (H : List SP) (b : Nat) (room : Int) (l : List (Int × Int)) (id p : Int) (hsr : SrtE l) (hl : l.length < 1000000) : ∀ w, Sat w (idxS b room l :: H) → Calls Tryz.prog 149 #[vp b, vi id, vi p] w (Ret (ι := Unit) (fun _ => pqErr (rekeyE l id p).1) fun _ => idxS b room (rekeyE l id p).2 :: H) :=
 idx_open fun A cap w hs => (rekey_walk H b A cap room l id p hsr hl w hs).mono fun e w' ⟨x, he, hx⟩ => ⟨(), he, Sat.idx hx⟩
theorem shift_idx (H : List SP) (b : Nat) (room : Int) (l : List (Int × Int)) (n : Int) (hl : l.length ≤ 64) (hsr : SrtE (shiftE l n)) : ∀ w, Sat w (idxS b room l :: H) → Calls Tryz.prog 148 #[vp b, vi n] w (Ret (ι := Unit) (fun _ => .tuple #[]) fun _ => idxS b room (shiftE l n) :: H) :=
 idx_open fun A cap w hs => (shift_walk H b A cap room l n hl hsr w hs).mono fun e w' ⟨x, he, hx⟩ => ⟨(), he, Sat.idx hx⟩
end Go.Proofs.YtfhkgohokbkgiaaGreatDoor
set_option linter.unusedVariables false
set_option linter.unusedSimpArgs false
namespace Go.Proofs.YtfhkgohokbkgiaaGreatDoor
open Go.RowKit G Go.Extern.Stop Go.Stop Go.Extern
end Go.Proofs.YtfhkgohokbkgiaaGreatDoor
set_option linter.unusedVariables false
set_option linter.unusedSimpArgs false
namespace Go.Proofs.YtfhkgohokbkgiaaGreatDoor
open Go.RowKit G
theorem eqFields_int {P : Program} (w : World) (d : Nat) (xs ys : Array Value) (f : Field) (fs : List Field) (k k' : IntKind) (a b : Int) (hn : (f.name == "_") = false) (hu : P.underlying f.type = some (.int k')) (hp : P.plainKey f.type = true) (hx : xs[f.offset]? = some (.int k a)) (hy : ys[f.offset]? = some (.int k b)) :
  (Op.eqFields (d + 1) xs ys (f :: fs)).run P w = if (a == b) = true then (Op.eqFields (d + 1) xs ys fs).run P w else .ok false w := by
 have hn' : f.name ≠ "_" := by simpa using hn
 rw [Op.eqFields, if_pos hn']
 simp only [Sem.run_bind, run_part_plain w hp hx, run_part_plain w hp hy, Result.andThen_ok, run_equalIn_int w d f.type k k' a b hu]
 cases h : (a == b) <;> simp
theorem SatF.unpick : ∀ {l : List SP} (i : Nat) {P : SP} {w : World} {F : Nat → Prop}, l[i]? = some P → SatF (P :: l.eraseIdx i) w F → SatF l w F
 | [], i, P, w, F, h, _ => by simp at h
 | Q :: l, 0, P, w, F, h, hs => by simp at h; subst h; exact hs
 | Q :: l, i + 1, P, w, F, h, hs => by
  obtain ⟨G, h1, h2, h3⟩ := SatF.swap hs
  exact ⟨G, h1, h2, SatF.unpick i (by simpa using h) h3⟩
theorem same_at {P : Program} {f : FuncId} {vs : Array Value} {v : Value} {X : SP} {H : List SP} (j : Nat) (hj : H[j]? = some X) (h : ∀ w, Sat w (X :: H.eraseIdx j) → Calls P f vs w (Ret (ι := Unit) (fun _ => v) fun _ => X :: H.eraseIdx j)) : ∀ w, Sat w H → Calls P f vs w (Ret (ι := Unit) (fun _ => v) fun _ => H) := fun w hs =>
 (h w (hs.pick j hj)).mono fun e w' ⟨p, he, hx⟩ => ⟨p, he, SatF.unpick j hj hx⟩
theorem SatF.unpickSet : ∀ {l : List SP} (i : Nat) {P Y : SP} {w : World} {F : Nat → Prop}, l[i]? = some P → SatF (Y :: l.eraseIdx i) w F → SatF (l.set i Y) w F
 | [], i, P, Y, w, F, h, _ => by simp at h
 | Q :: l, 0, P, Y, w, F, h, hs => hs
 | Q :: l, i + 1, P, Y, w, F, h, hs => by
  obtain ⟨G, h1, h2, h3⟩ := SatF.swap hs
  exact ⟨G, h1, h2, SatF.unpickSet i (by simpa using h) h3⟩
theorem chg_at {ι : Type} {P : Program} {f : FuncId} {vs : Array Value} {rv : ι → Value} {X : SP} {Y : ι → SP} {H : List SP} (j : Nat) (hj : H[j]? = some X) (h : ∀ w, Sat w (X :: H.eraseIdx j) → Calls P f vs w (Ret rv fun x => Y x :: H.eraseIdx j)) : ∀ w, Sat w H → Calls P f vs w (Ret rv fun x => H.set j (Y x)) := fun w hs =>
 (h w (hs.pick j hj)).mono fun e w' ⟨p, he, hx⟩ => ⟨p, he, SatF.unpickSet j hj hx⟩
def entEq (a b : Int × Int) : Bool := a.1 == b.1 && a.2 == b.2
theorem ent_eqv (a b : Int × Int) (w : World) : (Op.equalIn 10000 230 (.agg #[.int .i64 a.1, .int .i64 a.2]) (.agg #[.int .i64 b.1, .int .i64 b.2])).run Tryz.prog w = .ok (entEq a b) w := by
 unfold entEq
 rw [run_equalIn_struct w 9999 _ _ _ (by kernel_rfl) (by kernel_rfl)]
 have hl : (Tryz.prog.fieldsOf 230).toList = [(Tryz.prog.fieldsOf 230).toList.getD 0 default, (Tryz.prog.fieldsOf 230).toList.getD 1 default] := by kernel_rfl
 rw [hl, eqFields_int w 9998 _ _ _ _ .i64 .i64 a.1 b.1 (by kernel_rfl) (by kernel_rfl) (by kernel_rfl) (by kernel_rfl) (by kernel_rfl), eqFields_int w 9998 _ _ _ _ .i64 .i64 a.2 b.2 (by kernel_rfl) (by kernel_rfl) (by kernel_rfl) (by kernel_rfl) (by kernel_rfl)]
 cases a.1 == b.1 <;> cases a.2 == b.2 <;> simp [Op.eqFields]
theorem ent_eql (a b : Int × Int) (x y : Operand) (w : World) : (do eqGuard .eql 230 x y (.agg #[.int .i64 a.1, .int .i64 a.2]) (.agg #[.int .i64 b.1, .int .i64 b.2]); binOp .eql 230 (.agg #[.int .i64 a.1, .int .i64 a.2]) (.agg #[.int .i64 b.1, .int .i64 b.2]) : Sem Value).run Tryz.prog w = .ok (.bool (entEq a b)) w := by
 have h := ent_eqv a b w
 rw [Sem.run_bind, run_eqGuard_agg w _ _ _ _ _ _ (by kernel_rfl)]
 simp only [Result.andThen_ok]
 rw [run_eql_struct, h]
 rfl
theorem ent_neq (a b : Int × Int) (x y : Operand) (w : World) : (do eqGuard .neq 230 x y (.agg #[.int .i64 a.1, .int .i64 a.2]) (.agg #[.int .i64 b.1, .int .i64 b.2]); binOp .neq 230 (.agg #[.int .i64 a.1, .int .i64 a.2]) (.agg #[.int .i64 b.1, .int .i64 b.2]) : Sem Value).run Tryz.prog w = .ok (.bool (!entEq a b)) w := by
 have h := ent_eqv a b w
 rw [Sem.run_bind, run_eqGuard_agg w _ _ _ _ _ _ (by kernel_rfl)]
 simp only [Result.andThen_ok]
 rw [run_neq_struct, h]
 rfl
theorem put_ok {l' : List (Int × Int)} {room : Int} {l : List (Int × Int)} {p id : Int} (h : putE room l p id = (0, l')) (hsr : SrtE l) (hl : l.length < 1000000) (H : List SP) (b : Nat) : ∀ w, Sat w (idxS b room l :: H) → Calls Tryz.prog 143 #[vp b, vi p, vi id] w (Ret (ι := Unit) (fun _ => .nilIface) fun _ => idxS b room l' :: H) := by
 have := put_idx H b room l p id hsr hl
 rw [h] at this
 exact this
theorem put_no {e : Int} {room : Int} {l : List (Int × Int)} {p id : Int} (h : putE room l p id = (e, l)) (he : e ≠ 0) (hsr : SrtE l) (hl : l.length < 1000000) (H : List SP) (b : Nat) : ∀ w, Sat w (idxS b room l :: H) → Calls Tryz.prog 143 #[vp b, vi p, vi id] w (Ret (ι := Unit) (fun _ => .iface 126 (vi e)) fun _ => idxS b room l :: H) := by
 have := put_idx H b room l p id hsr hl
 rw [h] at this
 simp only [pqErr, if_neg he] at this
 exact this
theorem drop_ok {l' : List (Int × Int)} {room : Int} {l : List (Int × Int)} {id : Int} (h : dropE l id = (0, l')) (hl : l.length < 1000000) (H : List SP) (b : Nat) : ∀ w, Sat w (idxS b room l :: H) → Calls Tryz.prog 145 #[vp b, vi id] w (Ret (ι := Unit) (fun _ => .nilIface) fun _ => idxS b room l' :: H) := by
 have := drop_idx H b room l id hl
 rw [h] at this
 exact this
theorem drop_no {room : Int} {l : List (Int × Int)} {id : Int} (h : dropE l id = (13, l)) (hl : l.length < 1000000) (H : List SP) (b : Nat) : ∀ w, Sat w (idxS b room l :: H) → Calls Tryz.prog 145 #[vp b, vi id] w (Ret (ι := Unit) (fun _ => .iface 126 (vi 13)) fun _ => idxS b room l :: H) := by
 have := drop_idx H b room l id hl
 rw [h] at this
 exact this
theorem rekey_ok {l' : List (Int × Int)} {room : Int} {l : List (Int × Int)} {id p : Int} (h : rekeyE l id p = (0, l')) (hsr : SrtE l) (hl : l.length < 1000000) (H : List SP) (b : Nat) : ∀ w, Sat w (idxS b room l :: H) → Calls Tryz.prog 149 #[vp b, vi id, vi p] w (Ret (ι := Unit) (fun _ => .nilIface) fun _ => idxS b room l' :: H) := by
 have := rekey_idx H b room l id p hsr hl
 rw [h] at this
 exact this
theorem shift_is {l' : List (Int × Int)} {room : Int} {l : List (Int × Int)} {n : Int} (h : shiftE l n = l') (hsr : SrtE l') (hl : l.length ≤ 64) (H : List SP) (b : Nat) : ∀ w, Sat w (idxS b room l :: H) → Calls Tryz.prog 148 #[vp b, vi n] w (Ret (ι := Unit) (fun _ => .tuple #[]) fun _ => idxS b room l' :: H) := by
 have := shift_idx H b room l n hl (by rw [h]; exact hsr)
 rw [h] at this
 exact this
end Go.Proofs.YtfhkgohokbkgiaaGreatDoor
set_option linter.unusedVariables false
set_option linter.unusedSimpArgs false
namespace Go.Proofs.YtfhkgohokbkgiaaGreatDoor
open Go.RowKit G
/-! ## the nodes -/
structure Nr where
  id : Int
  par : Int
  wt : Int
  pass : Int
  thr : Bool
  rdy : Bool
  now : Int
structure Nd where
  n : Nr
  q : List (Int × Int)
  b : Nat
  ib : Nat
def gt (N : List Nr) (k : Int) : Option Nr := N.find? (fun x => x.id == k)
def upN (N : List Nr) (k : Int) (f : Nr → Nr) : List Nr := N.map (fun x => if x.id == k then f x else x)
def kidR (N : List Nr) (k : Int) : List Nr := N.filter (fun x => x.par == k && x.rdy)
def isW (w : Int) : Bool := decide (w ≥ 1) && decide (w ≤ 16)
def strd (w : Int) : Int := if isW w then (720720 : Int).tdiv w else 0
def scaleN (pass now from_ to : Int) : Int := if pass ≤ now ∨ strd from_ = 0 then pass else now + ((pass - now) * strd to).tdiv (strd from_)
def deepN : Nat → List Nr → Int → Nat
  | 0, _, _ => 0
  | f + 1, N, k => match gt N k with
    | none => 0
    | some x => deepN f N x.par + 1
def wakeN : Nat → List Nr → Int → List Nr
  | 0, N, _ => N
  | f + 1, N, k => match gt N k with
    | none => N
    | some x => if x.rdy then N else match gt N x.par with
      | none => upN N k (fun x => { x with rdy := true })
      | some p => wakeN f (upN N k (fun x => { x with rdy := true, pass := mxI x.pass p.now })) x.par
def restN : Nat → List Nr → Int → List Nr
  | 0, N, _ => N
  | f + 1, N, k => match gt N k with
    | none => N
    | some x => if x.rdy = false ∨ kidR N k ≠ [] then N else match gt N x.par with
      | none => upN N k (fun x => { x with rdy := false })
      | some p => restN f (upN N k (fun x => { x with rdy := false })) x.par
def addN (N : List Nr) (par id wt : Int) (thr : Bool) : Int × List Nr :=
  if isW wt = false ∨ id < 1 then (10, N) else match gt N par with
    | none => (13, N)
    | some p => if p.thr then (13, N) else if (gt N id).isSome then (20, N) else if thr = false ∧ 4 ≤ deepN 6 N par then (12, N) else if 60 ≤ N.length then (14, N)
      else (0, N ++ [{ id, par, wt, pass := p.now, thr, rdy := false, now := 0 }])
def removeN (N : List Nr) (k : Int) : Int × List Nr :=
  if (gt N k).isNone ∨ k = 0 then (13, N) else if N.any (fun x => x.par == k) then (10, N) else (0, (restN 6 N k).filter (fun x => !(x.id == k)))
def readyN (N : List Nr) (k : Int) (r : Bool) : Int × List Nr :=
  match gt N k with
  | none => (13, N)
  | some x => if x.thr then (0, if r then wakeN 6 N k else restN 6 N k) else (13, N)
def weightN (N : List Nr) (k wt : Int) : Int × List Nr :=
  if isW wt = false then (10, N) else match gt N k with
    | none => (13, N)
    | some x => if k = 0 then (13, N) else match gt N x.par with
      | none => (13, N)
      | some p => (0, upN N k (fun x => { x with pass := scaleN x.pass p.now x.wt wt, wt := wt }))
def lessN (a b : Nr) : Bool := decide (a.pass < b.pass) || (decide (a.pass = b.pass) && decide (a.id < b.id))
def least : List Nr → Option Nr
  | [] => none
  | x :: r => match least r with
    | none => some x
    | some y => if lessN y x then some y else some x
def shiftN (N : List Nr) (k : Int) : List Nr :=
  match gt N k with
  | none => N
  | some g => if g.now ≤ 16777216 then N else upN (N.map (fun x => if x.par == k then { x with pass := mxI 0 (x.pass - g.now) } else x)) k (fun x => { x with now := 0 })
def downN : Nat → List Nr → Int → List Int → Int × List Nr
  | 0, N, k, _ => (k, N)
  | f + 1, N, k, way => match least (kidR N k) with
    | none => (k, way.foldl shiftN N)
    | some y => downN f (upN (upN N k (fun x => { x with now := y.pass })) y.id (fun x => { x with pass := y.pass + strd y.wt })) y.id (way ++ [k])
def runN (N : List Nr) : (Int × Bool) × List Nr :=
  match gt N 0 with
  | none => ((0, false), N)
  | some r => if r.rdy then (let z := downN 6 N 0 []; ((z.1, true), z.2)) else ((0, false), N)
/-! ## what holds of them -/
/-- The skeleton: who is whose, how deep. -/
structure SK (N : List Nr) : Prop where
  nd : (N.map (·.id)).Nodup
  root : ∃ r ∈ N, r.id = 0
  rt : ∀ x ∈ N, x.id = 0 → x.par = -1 ∧ x.thr = false
  pa : ∀ x ∈ N, x.id ≠ 0 → 1 ≤ x.id ∧ ∃ p ∈ N, p.id = x.par ∧ p.thr = false
  len : N.length ≤ 60
  rk : ∃ rk : Int → Nat, ∀ x ∈ N, (x.id = 0 → rk x.id = 1) ∧ (x.id ≠ 0 → rk x.id = rk x.par + 1) ∧ rk x.id ≤ 5 ∧ (x.thr = false → rk x.id ≤ 4)
/-- Passes and nows lie where they may. -/
structure LB (N : List Nr) : Prop where
  wt : ∀ x ∈ N, isW x.wt = true
  pass : ∀ x ∈ N, 0 ≤ x.pass ∧ x.pass ≤ 1099511627776
  now : ∀ x ∈ N, 0 ≤ x.now ∧ x.now ≤ 1099511627776
/-- Of the rest: passes lie from their group's now on, by at most their stride; a group is ready as something in it is. -/
structure WFN (N : List Nr) : Prop where
  sk : SK N
  wt : ∀ x ∈ N, isW x.wt = true
  now : ∀ x ∈ N, 0 ≤ x.now ∧ x.now ≤ 16777216
  pass : ∀ x ∈ N, 0 ≤ x.pass ∧ x.pass ≤ 16777216 + 1441440
  pn : ∀ x ∈ N, ∀ p ∈ N, p.id = x.par → x.pass ≤ p.now + strd x.wt ∧ (x.rdy = true → p.now ≤ x.pass)
  rd : ∀ x ∈ N, x.thr = false → (x.rdy = true ↔ ∃ y ∈ N, y.par = x.id ∧ y.rdy = true)
/-- The nodes in memory: each one's index holds what is ready in it. -/
structure OkT (N : List Nr) (T : List Nd) : Prop where
  n : T.map (·.n) = N
  srt : ∀ x ∈ T, SrtE x.q
  mem : ∀ x ∈ T, ∀ p k, (p, k) ∈ x.q ↔ ∃ y ∈ N, y.par = x.n.id ∧ y.rdy = true ∧ y.pass = p ∧ y.id = k
theorem WFN.lb {N : List Nr} (h : WFN N) : LB N := ⟨h.wt, fun x hx => ⟨(h.pass x hx).1, by have := (h.pass x hx).2; omega⟩, fun x hx => ⟨(h.now x hx).1, by have := (h.now x hx).2; omega⟩⟩
theorem w64 {n : Int} (h0 : -9223372036854775808 ≤ n) (h1 : n ≤ 9223372036854775807) : IntKind.i64.wrap n = n := by rw [IntKind.wrap_i64]; omega
theorem isW_cases {w : Int} (h : isW w = true) : 1 ≤ w ∧ w ≤ 16 := by simpa [isW] using h
theorem strd_pos {w : Int} (h : isW w = true) : 0 < strd w ∧ strd w ≤ 720720 := by
  obtain ⟨h1, h2⟩ := isW_cases h
  have : w = 1 ∨ w = 2 ∨ w = 3 ∨ w = 4 ∨ w = 5 ∨ w = 6 ∨ w = 7 ∨ w = 8 ∨ w = 9 ∨ w = 10 ∨ w = 11 ∨ w = 12 ∨ w = 13 ∨ w = 14 ∨ w = 15 ∨ w = 16 := by omega
  rcases this with rfl | rfl | rfl | rfl | rfl | rfl | rfl | rfl | rfl | rfl | rfl | rfl | rfl | rfl | rfl | rfl <;> decide
theorem tdiv_le {a b : Int} (ha : 0 ≤ a) (hb : 0 < b) : 0 ≤ a.tdiv b ∧ a.tdiv b ≤ a := by
  rw [Int.tdiv_eq_ediv_of_nonneg ha]
  exact ⟨Int.ediv_nonneg ha (Int.le_of_lt hb), Int.ediv_le_self b ha⟩
theorem gt_mem {N : List Nr} {k : Int} {x : Nr} (h : gt N k = some x) : x ∈ N ∧ x.id = k := ⟨List.mem_of_find?_eq_some h, by simpa using List.find?_some h⟩
theorem gt_none {N : List Nr} {k : Int} : gt N k = none ↔ ∀ x ∈ N, x.id ≠ k := by simp [gt, List.find?_eq_none]
theorem nd_eq {N : List Nr} (h : (N.map (·.id)).Nodup) {x y : Nr} (hx : x ∈ N) (hy : y ∈ N) (he : x.id = y.id) : x = y := by
  induction N with
  | nil => cases hx
  | cons a N ih =>
    simp only [List.map_cons, List.nodup_cons, List.mem_map, not_exists, not_and] at h
    rcases List.mem_cons.1 hx with e1 | h1 <;> rcases List.mem_cons.1 hy with e2 | h2
    · rw [e1, e2]
    · subst e1; exact absurd he.symm (h.1 y h2)
    · subst e2; exact absurd he (h.1 x h1)
    · exact ih h.2 h1 h2
theorem gt_of {N : List Nr} (h : (N.map (·.id)).Nodup) {x : Nr} (hx : x ∈ N) : gt N x.id = some x := by
  cases hg : gt N x.id with
  | none => exact absurd rfl (gt_none.1 hg x hx)
  | some y => obtain ⟨h1, h2⟩ := gt_mem hg; rw [nd_eq h h1 hx h2]
theorem gt_some {N : List Nr} (h : (N.map (·.id)).Nodup) {k : Int} {x : Nr} : gt N k = some x ↔ x ∈ N ∧ x.id = k := ⟨gt_mem, fun ⟨h1, h2⟩ => h2 ▸ gt_of h h1⟩
/-! ### a change of one node -/
theorem upN_id {N : List Nr} {k : Int} {f : Nr → Nr} (hf : ∀ x, (f x).id = x.id) : (upN N k f).map (·.id) = N.map (·.id) := by
  simp only [upN, List.map_map]
  refine List.map_congr_left fun x _ => ?_
  simp only [Function.comp]
  split <;> simp [hf]
theorem mem_upN {N : List Nr} {k : Int} {f : Nr → Nr} {y : Nr} : y ∈ upN N k f ↔ ∃ x ∈ N, (x.id = k ∧ y = f x) ∨ (x.id ≠ k ∧ y = x) := by
  simp only [upN, List.mem_map]
  constructor
  · rintro ⟨x, hx, rfl⟩
    refine ⟨x, hx, ?_⟩
    by_cases h : x.id = k
    · simp [h]
    · simp [h]
  · rintro ⟨x, hx, ⟨h, rfl⟩ | ⟨h, rfl⟩⟩
    · exact ⟨x, hx, by simp [h]⟩
    · exact ⟨y, hx, by simp [h]⟩
theorem gt_upN {N : List Nr} {k j : Int} {f : Nr → Nr} (hf : ∀ x, (f x).id = x.id) : gt (upN N k f) j = if j = k then (gt N j).map f else gt N j := by
  induction N with
  | nil => simp [gt, upN]
  | cons a N ih =>
    have e1 : gt (upN (a :: N) k f) j = if (if a.id == k then f a else a).id == j then some (if a.id == k then f a else a) else gt (upN N k f) j := by
      simp only [gt, upN, List.map_cons, List.find?_cons]
      split <;> simp_all
    have e2 : gt (a :: N) j = if a.id == j then some a else gt N j := by
      simp only [gt, List.find?_cons]; split <;> simp_all
    rw [e1, e2, ih]
    by_cases h1 : a.id = k
    · subst h1
      simp only [beq_self_eq_true, if_true, hf]
      by_cases h2 : a.id = j
      · subst h2; simp
      · have h2' : (a.id == j) = false := by simpa using h2
        have h3 : ¬ j = a.id := fun h => h2 h.symm
        simp [h2', h3]
    · have h1' : (a.id == k) = false := by simpa using h1
      simp only [h1', Bool.false_eq_true, if_false]
      by_cases h2 : a.id = j
      · subst h2; simp [h1]
      · have h2' : (a.id == j) = false := by simpa using h2
        simp [h2']
/-- What a change of one node leaves of the skeleton. -/
structure Skel (f : Nr → Nr) : Prop where
  id : ∀ x, (f x).id = x.id
  par : ∀ x, (f x).par = x.par
  thr : ∀ x, (f x).thr = x.thr
theorem SK.map {N : List Nr} (h : SK N) (f : Nr → Nr) (hf : Skel f) : SK (N.map f) := by
  have hi : (N.map f).map (·.id) = N.map (·.id) := by simp [List.map_map, Function.comp_def, hf.id]
  refine ⟨hi ▸ h.nd, ?_, ?_, ?_, by simpa using h.len, ?_⟩
  · obtain ⟨r, hr, h0⟩ := h.root; exact ⟨f r, List.mem_map.2 ⟨r, hr, rfl⟩, by rw [hf.id, h0]⟩
  · intro x hx h0; obtain ⟨y, hy, rfl⟩ := List.mem_map.1 hx; rw [hf.par, hf.thr]; exact h.rt y hy (by rw [← hf.id]; exact h0)
  · intro x hx h0
    obtain ⟨y, hy, rfl⟩ := List.mem_map.1 hx
    rw [hf.id] at h0 ⊢
    obtain ⟨h1, p, hp, h2, h3⟩ := h.pa y hy h0
    exact ⟨h1, f p, List.mem_map.2 ⟨p, hp, rfl⟩, by rw [hf.id, hf.par, h2], by rw [hf.thr, h3]⟩
  · obtain ⟨rk, hk⟩ := h.rk
    refine ⟨rk, fun x hx => ?_⟩
    obtain ⟨y, hy, rfl⟩ := List.mem_map.1 hx
    rw [hf.id, hf.par, hf.thr]; exact hk y hy
theorem skel_ite {k : Int} {f : Nr → Nr} (hf : Skel f) : Skel (fun x => if x.id == k then f x else x) := ⟨fun x => by split; exact hf.id x; rfl, fun x => by split; exact hf.par x; rfl, fun x => by split; exact hf.thr x; rfl⟩
theorem SK.upN {N : List Nr} (h : SK N) {k : Int} {f : Nr → Nr} (hf : Skel f) : SK (upN N k f) := h.map _ (skel_ite hf)
/-! ### in memory -/
def ndc (x : Nd) : List Value := [.int .i64 x.n.id, .int .i64 x.n.par, .int .i64 x.n.wt, .int .i64 x.n.pass, .bool x.n.thr, .bool x.n.rdy, .int .i64 x.n.now, .pointer (some ⟨x.ib, 0, none⟩)]
def ndS (x : Nd) : SP := blk x.b 213 (ndc x)
def nodesL : List Nd → List SP
  | [] => []
  | x :: T => ndS x :: idxS x.ib 60 x.q :: nodesL T
def kp (x : Nd) : Int × Value := (x.n.id, .pointer (some ⟨x.b, 0, none⟩))
theorem SatF.perm {l l' : List SP} (h : l.Perm l') : ∀ {w : World} {F : Nat → Prop}, SatF l w F → SatF l' w F := by
  induction h with
  | nil => intro w F h; exact h
  | cons x _ ih => intro w F ⟨G, h1, h2, h3⟩; exact ⟨G, h1, h2, ih h3⟩
  | swap x y l => intro w F h; exact SatF.swap h
  | trans _ _ ih1 ih2 => intro w F h; exact ih2 (ih1 h)
theorem Sat.perm {l l' : List SP} (h : l.Perm l') {w : World} (hs : Sat w l) : Sat w l' := SatF.perm h hs
theorem nodesL_perm {T T' : List Nd} (h : T.Perm T') : (nodesL T).Perm (nodesL T') := by
  induction h with
  | nil => exact .refl _
  | cons x _ ih => exact (ih.cons _).cons _
  | swap x y l =>
    simp only [nodesL]
    have e : ∀ (a b c d : SP) (l : List SP), (a :: b :: c :: d :: l).Perm (c :: d :: a :: b :: l) := fun a b c d l => by
      have := (List.perm_append_comm (l₁ := [a, b]) (l₂ := [c, d])).append_right l
      simpa using this
    exact e _ _ _ _ _
  | trans _ _ ih1 ih2 => exact ih1.trans ih2
theorem nodesL_mem {T : List Nd} {x : Nd} (h : x ∈ T) : ndS x ∈ nodesL T := by
  induction T with
  | nil => cases h
  | cons a T ih =>
    rcases List.mem_cons.1 h with rfl | h
    · exact .head _
    · exact .tail _ (.tail _ (ih h))
/-- A node's cells. -/
theorem nodeAt {T : List Nd} {H : List SP} {x : Nd} (hx : x ∈ T) {j : Nat} {v : Value} (hj : (ndc x)[j]? = some v) : ∀ w, Sat w (nodesL T ++ H) → w.cell? ⟨x.b, j, none⟩ = some v := by
  intro w hs
  obtain ⟨i, hi⟩ := List.mem_iff_getElem?.1 (List.mem_append_left H (nodesL_mem hx))
  exact blkAt (b := x.b) (T := 213) (cs := ndc x) i hi hj w hs
theorem perm1 {T : List Nd} {i : Nat} {x : Nd} (h : T[i]? = some x) : ∃ R, T.Perm (x :: R) ∧ ∀ x', (T.set i x').Perm (x' :: R) := by
  induction T generalizing i with
  | nil => simp at h
  | cons a T ih =>
    cases i with
    | zero => simp at h; subst h; exact ⟨T, .refl _, fun _ => .refl _⟩
    | succ i =>
      obtain ⟨R, h1, h2⟩ := ih (by simpa using h)
      exact ⟨a :: R, (h1.cons a).trans (.swap _ _ _), fun x' => by simpa using ((h2 x').cons a).trans (.swap _ _ _)⟩
theorem perm2 {T : List Nd} {i j : Nat} {x p : Nd} (hi : T[i]? = some x) (hj : T[j]? = some p) (hn : i ≠ j) : ∃ R, T.Perm (x :: p :: R) ∧ ∀ x' p', ((T.set i x').set j p').Perm (x' :: p' :: R) := by
  induction T generalizing i j with
  | nil => simp at hi
  | cons a T ih =>
    cases i with
    | zero =>
      cases j with
      | zero => exact absurd rfl hn
      | succ j =>
        simp at hi; subst hi
        obtain ⟨R, h1, h2⟩ := perm1 (T := T) (i := j) (x := p) (by simpa using hj)
        exact ⟨R, h1.cons _, fun x' p' => by simpa using (h2 p').cons x'⟩
    | succ i =>
      cases j with
      | zero =>
        simp at hj; subst hj
        obtain ⟨R, h1, h2⟩ := perm1 (T := T) (i := i) (x := x) (by simpa using hi)
        exact ⟨R, (h1.cons _).trans (.swap _ _ _), fun x' p' => by simpa using ((h2 x').cons p').trans (.swap _ _ _)⟩
      | succ j =>
        obtain ⟨R, h1, h2⟩ := ih (i := i) (j := j) (by simpa using hi) (by simpa using hj) (by omega)
        have e : ∀ (a b c : Nd) (l : List Nd), (a :: b :: c :: l).Perm (b :: c :: a :: l) := fun a b c l => (List.Perm.swap b a (c :: l)).trans ((List.Perm.swap c a l).cons b)
        exact ⟨a :: R, (h1.cons a).trans (e _ _ _ _), fun x' p' => by simpa using ((h2 x' p').cons a).trans (e _ _ _ _)⟩
end Go.Proofs.YtfhkgohokbkgiaaGreatDoor
set_option linter.unusedVariables false
set_option linter.unusedSimpArgs false
namespace Go.Proofs.YtfhkgohokbkgiaaGreatDoor
open Go.RowKit Go.Maps Go.Sort Go.Shelf G
def LyK_ren : Go.Shelf.Ren := ⟨fun | 7 => 96 | 10 => 140 | n => n, fun | 23 => 207 | 26 => 3 | 3 => 208 | 28 => 205 | 0 => 0 | 27 => 204 | 33 => 129 | 4 => 4 | n => n, fun | n => n⟩
theorem LyK : SlLaysZI.n7 Tryz.prog LyK_ren where
  mixed := by kernel_rfl
  f7 := ⟨ "maps.Keys[map[int]*tontine/tree.node,int,*tontine/tree.node]", by decide, Tryz.func96.trans (congrArg some (by kernel_rfl))⟩
  f10 := ⟨ "maps.Keys[map[int]*tontine/tree.node,int,*tontine/tree.node]$1", by decide, Tryz.func140.trans (congrArg some (by kernel_rfl))⟩
  t0 := Tryz.underlying0
  a0 := Tryz.isAgg0
  z0 := Tryz.sizeOf0
  v0 := Tryz.zeroValue0
  t4 := Tryz.underlying4
  a4 := Tryz.isAgg4
  z4 := Tryz.sizeOf4
  v4 := Tryz.zeroValue4
  t23 := Tryz.underlying207
  a23 := Tryz.isAgg207
  z23 := Tryz.sizeOf207
  v23 := Tryz.zeroValue207
  t26 := Tryz.underlying3
  a26 := Tryz.isAgg3
  z26 := Tryz.sizeOf3
  v26 := Tryz.zeroValue3
  t27 := Tryz.underlying204
  a27 := Tryz.isAgg204
  z27 := Tryz.sizeOf204
  v27 := Tryz.zeroValue204
  t28 := Tryz.underlying205
  a28 := Tryz.isAgg205
  z28 := Tryz.sizeOf205
  v28 := Tryz.zeroValue205
  t33 := Tryz.underlying129
  a33 := Tryz.isAgg129
  z33 := Tryz.sizeOf129
  v33 := Tryz.zeroValue129
def LyO_ren : Go.Shelf.Ren := ⟨fun | 6 => 95 | 8 => 138 | 9 => 139 | 11 => 186 | 13 => 188 | 12 => 187 | 23 => 220 | 24 => 221 | 14 => 211 | 15 => 212 | 16 => 213 | 17 => 214 | 18 => 215 | 19 => 216 | 20 => 217 | 21 => 218 | 22 => 219 | 25 => 231 | 26 => 232 | 27 => 233 | 28 => 234 | 29 => 235 | 30 => 236 | 31 => 249 | n => n, fun | 26 => 3 | 28 => 205 | 24 => 42 | 0 => 0 | 3 => 3 | 37 => 297 | 48 => 319 | 50 => 39 | 4 => 4 | 40 => 312 | 39 => 311 | 45 => 83 | 5 => 5 | 9 => 9 | 51 => 328 | 55 => 332 | 57 => 342 | 58 => 235 | 33 => 129 | n => n, fun | n => n⟩
theorem LyO : SlLaysZI.n6 Tryz.prog LyO_ren where
  mixed := by kernel_rfl
  f6 := ⟨ "slices.Sorted[int]", by decide, Tryz.func95.trans (congrArg some (by kernel_rfl))⟩
  f8 := ⟨ "slices.Collect[int]", by decide, Tryz.func138.trans (congrArg some (by kernel_rfl))⟩
  f11 := ⟨ "slices.AppendSeq[[]int,int]", by decide, Tryz.func186.trans (congrArg some (by kernel_rfl))⟩
  t0 := Tryz.underlying0
  a0 := Tryz.isAgg0
  z0 := Tryz.sizeOf0
  v0 := Tryz.zeroValue0
  t24 := Tryz.underlying42
  a24 := Tryz.isAgg42
  z24 := Tryz.sizeOf42
  v24 := Tryz.zeroValue42
  t26 := Tryz.underlying3
  a26 := Tryz.isAgg3
  z26 := Tryz.sizeOf3
  v26 := Tryz.zeroValue3
  t28 := Tryz.underlying205
  a28 := Tryz.isAgg205
  z28 := Tryz.sizeOf205
  v28 := Tryz.zeroValue205
  i26 := by kernel_rfl
def LyQ_ren : Go.Shelf.Ren := ⟨fun | 5 => 139 | 8 => 188 | 7 => 187 | 19 => 220 | 20 => 221 | 10 => 211 | 11 => 212 | 12 => 213 | 13 => 214 | 14 => 215 | 15 => 216 | 16 => 217 | 17 => 218 | 18 => 219 | 30 => 231 | 31 => 232 | 32 => 233 | 33 => 234 | 34 => 235 | 35 => 236 | 40 => 249 | n => n, fun | 23 => 42 | 25 => 3 | 3 => 3 | 32 => 297 | 22 => 42 | 0 => 0 | 44 => 319 | 46 => 39 | 4 => 4 | 36 => 312 | 35 => 311 | 41 => 83 | 5 => 5 | 9 => 9 | 53 => 328 | 57 => 332 | 63 => 342 | 64 => 235 | n => n, fun | n => n⟩
theorem LyQ : SlLaysM.n5 Tryz.prog LyQ_ren where
  mixed := by kernel_rfl
  f5 := ⟨ "slices.Sort[[]int,int]", by decide, Tryz.func139.trans (congrArg some (by kernel_rfl))⟩
  f7 := ⟨ "slices.pdqsortOrdered[int]", by decide, Tryz.func187.trans (congrArg some (by kernel_rfl))⟩
  f8 := Tryz.func188.trans (congrArg some (by kernel_rfl))
  f10 := ⟨ "slices.insertionSortOrdered[int]", by decide, Tryz.func211.trans (congrArg some (by kernel_rfl))⟩
  f11 := ⟨ "slices.heapSortOrdered[int]", by decide, Tryz.func212.trans (congrArg some (by kernel_rfl))⟩
  f12 := ⟨ "slices.breakPatternsOrdered[int]", by decide, Tryz.func213.trans (congrArg some (by kernel_rfl))⟩
  f13 := ⟨ "slices.choosePivotOrdered[int]", by decide, Tryz.func214.trans (congrArg some (by kernel_rfl))⟩
  f14 := ⟨ "slices.reverseRangeOrdered[int]", by decide, Tryz.func215.trans (congrArg some (by kernel_rfl))⟩
  f15 := ⟨ "slices.partialInsertionSortOrdered[int]", by decide, Tryz.func216.trans (congrArg some (by kernel_rfl))⟩
  f16 := ⟨ "cmp.Less[int]", by decide, Tryz.func217.trans (congrArg some (by kernel_rfl))⟩
  f17 := ⟨ "slices.partitionEqualOrdered[int]", by decide, Tryz.func218.trans (congrArg some (by kernel_rfl))⟩
  f18 := ⟨ "slices.partitionOrdered[int]", by decide, Tryz.func219.trans (congrArg some (by kernel_rfl))⟩
  f19 := Tryz.func220.trans (congrArg some (by kernel_rfl))
  f20 := Tryz.func221.trans (congrArg some (by kernel_rfl))
  f30 := ⟨ "slices.siftDownOrdered[int]", by decide, Tryz.func231.trans (congrArg some (by kernel_rfl))⟩
  f31 := Tryz.func232.trans (congrArg some (by kernel_rfl))
  f32 := Tryz.func233.trans (congrArg some (by kernel_rfl))
  f33 := ⟨ "slices.medianAdjacentOrdered[int]", by decide, Tryz.func234.trans (congrArg some (by kernel_rfl))⟩
  f34 := ⟨ "slices.medianOrdered[int]", by decide, Tryz.func235.trans (congrArg some (by kernel_rfl))⟩
  f35 := ⟨ "cmp.isNaN[int]", by decide, Tryz.func236.trans (congrArg some (by kernel_rfl))⟩
  f40 := ⟨ "slices.order2Ordered[int]", by decide, Tryz.func249.trans (congrArg some (by kernel_rfl))⟩
  t0 := Tryz.underlying0
  a0 := Tryz.isAgg0
  z0 := Tryz.sizeOf0
  v0 := Tryz.zeroValue0
  t3 := Tryz.underlying3
  a3 := Tryz.isAgg3
  z3 := Tryz.sizeOf3
  v3 := Tryz.zeroValue3
  t4 := Tryz.underlying4
  a4 := Tryz.isAgg4
  z4 := Tryz.sizeOf4
  v4 := Tryz.zeroValue4
  t5 := Tryz.underlying5
  a5 := Tryz.isAgg5
  z5 := Tryz.sizeOf5
  v5 := Tryz.zeroValue5
  t9 := Tryz.underlying9
  a9 := Tryz.isAgg9
  z9 := Tryz.sizeOf9
  v9 := Tryz.zeroValue9
  t22 := Tryz.underlying42
  a22 := Tryz.isAgg42
  z22 := Tryz.sizeOf42
  v22 := Tryz.zeroValue42
  t23 := Tryz.underlying42
  a23 := Tryz.isAgg42
  z23 := Tryz.sizeOf42
  v23 := Tryz.zeroValue42
  t25 := Tryz.underlying3
  a25 := Tryz.isAgg3
  z25 := Tryz.sizeOf3
  v25 := Tryz.zeroValue3
  t32 := Tryz.underlying297
  a32 := Tryz.isAgg297
  z32 := Tryz.sizeOf297
  v32 := Tryz.zeroValue297
  t35 := Tryz.underlying311
  a35 := Tryz.isAgg311
  z35 := Tryz.sizeOf311
  v35 := Tryz.zeroValue311
  t36 := Tryz.underlying312
  a36 := Tryz.isAgg312
  z36 := Tryz.sizeOf312
  v36 := Tryz.zeroValue312
  t41 := Tryz.underlying83
  a41 := Tryz.isAgg83
  z41 := Tryz.sizeOf83
  v41 := Tryz.zeroValue83
  t44 := Tryz.underlying319
  a44 := Tryz.isAgg319
  z44 := Tryz.sizeOf319
  v44 := Tryz.zeroValue319
  t46 := Tryz.underlying39
  a46 := Tryz.isAgg39
  z46 := Tryz.sizeOf39
  v46 := Tryz.zeroValue39
  t53 := Tryz.underlying328
  a53 := Tryz.isAgg328
  z53 := Tryz.sizeOf328
  v53 := Tryz.zeroValue328
  t57 := Tryz.underlying332
  a57 := Tryz.isAgg332
  z57 := Tryz.sizeOf332
  v57 := Tryz.zeroValue332
  t63 := Tryz.underlying342
  a63 := Tryz.isAgg342
  z63 := Tryz.sizeOf342
  v63 := Tryz.zeroValue342
  t64 := Tryz.underlying235
  a64 := Tryz.isAgg235
  z64 := Tryz.sizeOf235
  v64 := Tryz.zeroValue235
theorem sortsIn (m : Nat) : AnyZI.SortsIn Tryz.prog LyO_ren Fence.wide m :=
  ⟨fun blk off cap ss W hH hblk hsz => callsIn_wide.2 (AnyM.slices_Sort_int LyQ blk off cap ss W hH hblk hsz),
   fun p cap W => callsIn_wide.2 (AnyM.slices_Sort_int_none LyQ p cap W)⟩
theorem insert_perm {H : Type} (x : Lit × DataW H) : ∀ (l : List (Lit × DataW H)), (DataW.insert x l).Perm (x :: l)
  | [] => .refl _
  | y :: r => by
    unfold DataW.insert
    split
    · exact .refl _
    · exact ((insert_perm x r).cons y).trans (.swap _ _ _)
theorem foldr_insert_perm {H : Type} : ∀ (l : List (Lit × DataW H)), (l.foldr DataW.insert []).Perm l
  | [] => .refl _
  | x :: l => by
    rw [List.foldr_cons]
    exact (insert_perm x _).trans ((foldr_insert_perm l).cons x)
def noR : Value → Option (DataW Unit × List MemPlace) := fun _ => some (.nil, [])
/-- A map of numbers, as the shelf tells it. -/
theorem mapS_owns {b : Nat} {l : List (Int × Value)} {w : World} {F : Nat → Prop} (h : (mapS b l).holds w F) (hl : l.length ≤ 1000000) (hw : ∀ p ∈ l, (Lit.int .i64 p.1).wf = true) :
    ∃ D : DataW Unit, w.ownsMap Tryz.prog 3 noR b l.length D ∧ (intKeys D).Perm (l.map (·.1)) ∧ Maps.size D = l.length := by
  obtain ⟨⟨es, ck, hb, hst, he⟩, _⟩ := h
  have hlen : es.size = l.length := by simpa [mEnt] using congrArg List.length he
  have hkey : ∀ x ∈ es.toList, ∃ a : Int, x.key = .int .i64 a ∧ (Lit.int .i64 a).wf = true ∧ WideElems.rd Tryz.prog 3 noR x = some (.int .i64 a, .nil) := by
    intro x hx
    have hm : entOf x ∈ mEnt l := he ▸ List.mem_map.2 ⟨x, hx, rfl⟩
    obtain ⟨p, hp, hpe⟩ := List.mem_map.1 hm
    simp only [entOf, Prod.mk.injEq] at hpe
    refine ⟨p.1, hpe.1.symm, hw p hp, ?_⟩
    unfold WideElems.rd
    rw [← hpe.1, keyOf_int_mk Tryz.underlying3 (hw p hp)]
    rfl
  have hrg : es.toList.map (WideElems.rg Tryz.prog 3 noR) = l.map (fun p => (Lit.int .i64 p.1, DataW.nil)) := by
    have h1 : ∀ x ∈ es.toList, WideElems.rg Tryz.prog 3 noR x = (match (entOf x).1 with | .int _ a => (Lit.int .i64 a, DataW.nil) | _ => (.bool false, .nil)) := by
      intro x hx
      obtain ⟨a, ha, _, hr⟩ := hkey x hx
      unfold WideElems.rg
      rw [hr, entOf, ha]; rfl
    have h2 : es.toList.map (WideElems.rg Tryz.prog 3 noR) = (es.toList.map entOf).map (fun z => (match z.1 with | .int _ a => (Lit.int .i64 a, (DataW.nil : DataW Unit)) | _ => (.bool false, .nil))) := by
      rw [List.map_map]
      exact List.map_congr_left h1
    rw [h2, he, mEnt, List.map_map]
    rfl
  refine ⟨_, ⟨es, ck, hb, ⟨by unfold maxLen; omega, hst, fun x hx => by obtain ⟨a, _, _, hr⟩ := hkey x hx; exact ⟨_, hr⟩⟩, by omega, rfl⟩, ?_, ?_⟩
  · rw [hrg]
    show (List.map (fun p : Lit × DataW Unit => Go.intOf p.1) _).Perm _
    refine ((foldr_insert_perm _).map _).trans ?_
    rw [List.map_map]
    exact .refl _
  · rw [hrg]
    show (List.foldr DataW.insert [] _).length = _
    rw [(foldr_insert_perm _).length_eq, List.length_map]
def sortI (l : List Int) : List Int := l.mergeSort fun x y => decide (x ≤ y)
theorem sortI_perm {l l' : List Int} (h : l.Perm l') : sortI l = sortI l' := mergeSort_of_perm_i h
theorem sortI_len (l : List Int) : (sortI l).length = l.length := List.length_mergeSort l
theorem sortI_mem {l : List Int} {x : Int} : x ∈ sortI l ↔ x ∈ l := (List.mergeSort_perm l _).mem_iff
abbrev kyF : Nat := 140
theorem keys_walk (H : List SP) (mb : Nat) : ∀ w, Sat w H → Calls Tryz.prog 96 #[.map (some mb)] w (Ret (ι := Nat) (fun b => .func (.func 140) #[] #[vp b]) fun b => blk b 207 [.map (some mb)] :: H) := by
  intro w hs
  refine ((callsIn_wide (n := 1)).1 (AnyZI.keys_in LyK Fence.wide 1 trivial rfl (some mb) w)).mono ?_
  rintro e w' ⟨rfl, rfl⟩
  exact ⟨w.heap.size, rfl, Sat.fresh hs (Upd.alloc _ _ _) (G' := fun b => b = w.heap.size) ⟨Blk.new w _ _, fun _ => Iff.rfl⟩ (fun b hb => by omega)⟩
set_option maxRecDepth 100000 in
theorem sorted_walk (H : List SP) (b mb : Nat) (l : List (Int × Value)) (hl : l.length ≤ 1000000) (hwf : ∀ p ∈ l, (Lit.int .i64 p.1).wf = true) : ∀ w, Sat w (blk b 207 [.map (some mb)] :: mapS mb l :: H) → Calls Tryz.prog 95 #[.func (.func 140) #[] #[vp b]] w
    (Ret (ι := Option Addr × Nat) (fun x => .slice x.1 (sortI (l.map (·.1))).length x.2) fun x => row intE 3 (.slice x.1 (sortI (l.map (·.1))).length x.2) (sortI (l.map (·.1))) :: blk b 207 [.map (some mb)] :: mapS mb l :: H) := by
  intro w hs
  obtain ⟨G1, ⟨hb, _⟩⟩ := hs.head
  obtain ⟨G2, hm⟩ := hs.tail.head
  obtain ⟨D, hown, hperm, hsize⟩ := mapS_owns hm hl hwf
  have hbl : b < w.heap.size := hb.lt
  have hcell : w.cell? ⟨b, 0, none⟩ = some (.map (some mb)) := hb.cell 0
  have hseq : SeqGives Fence.wide 2 Tryz.prog 140 #[.pointer (some ⟨b, 0, none⟩)] encZ (fun ss => ss.Perm (intKeys D)) (Maps.size D) w :=
    AnyZI.keys_gives (ρ := LyK_ren) { LyK with } Fence.wide _ trivial rfl (by omega) b mb l.length D w hbl hcell hown
  have cS := AnyZI.sorted_in LyO Fence.wide 5 trivial trivial trivial trivial rfl (by omega) (sortsIn _) (enters_of Tryz.func139 (by kernel_rfl) rfl) 140 #[.pointer (some ⟨b, 0, none⟩)] trivial (enters_of Tryz.func140 (by kernel_rfl) rfl) _ _ (by rw [hsize]; unfold maxLen; omega) (by rw [hsize]; omega) _ hseq
  refine (callsIn_wide.1 cS).mono ?_
  rintro e w' ⟨v, ss, rfl, hS, hrow, hnil, hbel⟩
  have hsort : ss.mergeSort (fun x y => decide (x ≤ y)) = sortI (l.map (·.1)) := mergeSort_of_perm_i (hS.trans hperm)
  have hlen : ss.length = (sortI (l.map (·.1))).length := by rw [← hsort, List.length_mergeSort]
  rw [hsort, hlen] at hrow
  have hflat : ∀ xs : List Int, intE.flat xs = xs.map encZ := by
    intro xs
    induction xs with
    | nil => rfl
    | cons a r ih =>
      show [Value.int .i64 a] ++ intE.flat r = _
      rw [ih]; rfl
  have hu : Upd NoB w w' := Upd.ofBelow hbel
  rcases hrow.2 with ⟨rfl, hz⟩ | ⟨g, cap, cur, rfl, hbase, hgb, r1, r2, r3, r4⟩
  · have h0 : sortI (l.map (·.1)) = [] := List.eq_nil_of_length_eq_zero hz
    refine ⟨(none, 0), by rw [hz], ?_⟩
    rw [h0]
    exact Sat.fresh hs hu (G' := NoB) (.inl ⟨rfl, rfl, rfl⟩) (fun _ h => h.elim)
  · refine ⟨(some ⟨g, 0, none⟩, cap), rfl, Sat.fresh hs hu (G' := OneB g) (.inr ⟨g, 0, cap, cur, rfl, rfl, hgb, r1, r2, ?_, ?_⟩) (fun b' hb' => by cases hb'; exact hbase)⟩
    · rw [r3]; show 0 + cap * 1 ≤ cap * 1; omega
    · rw [List.drop_zero, hflat]; exact r4
end Go.Proofs.YtfhkgohokbkgiaaGreatDoor
set_option linter.unusedVariables false
set_option linter.unusedSimpArgs false
namespace Go.Proofs.YtfhkgohokbkgiaaGreatDoor
open Ieee

/-- The float of a whole number. -/
def fi (n : Int) : Nat := FloatKind.f64.nearest n
theorem fi_eq (n : Int) : fi n = floatOfInt .f64 n := rfl
theorem leastPlace_eq : double.leastPlace = -1074 := by decide
theorem binade_eq : double.binade = 2 ^ 52 := rfl
theorem signWeight_eq : double.signWeight = 2 ^ 63 := rfl
theorem infRung_eq : double.infRung = 2047 * 2 ^ 52 := rfl

theorem e52 : (2 : Nat) ^ 52 = 4503599627370496 := rfl
theorem e53 : (2 : Nat) ^ 53 = 9007199254740992 := rfl
theorem e63 : (2 : Nat) ^ 63 = 9223372036854775808 := rfl
/-- The rung of a number below 2^53. -/
theorem cut_whole (s : Bool) (n d : Nat) (hn : 0 < n) : Toward.even.cut s (n * 2 ^ d) d = n := by
  have hl : d ≤ (n * 2 ^ d).log2 := by
    rw [Nat.le_log2 (Nat.ne_of_gt (Nat.mul_pos hn (Nat.two_pow_pos d)))]
    exact Nat.le_mul_of_pos_left _ hn
  unfold Toward.cut
  rw [Nat.min_eq_left (by omega), Nat.one_shiftLeft]
  simp only [Nat.mul_div_cancel _ (Nat.two_pow_pos d), Nat.mul_mod_left, Nat.mul_zero]
  have h1 : decide (2 ^ d < 0) = false := decide_eq_false (Nat.not_lt_zero _)
  have h2 : ((2 ^ d : Nat) == 0) = false := by
    have := Nat.two_pow_pos d
    simp only [beq_eq_false_iff_ne]; omega
  rw [h1, h2]; simp
theorem cut_none (s : Bool) (n : Nat) : Toward.even.cut s n 0 = n := by
  unfold Toward.cut
  simp [Nat.mod_one]
/-- A number below 2^53, told at any place not above 0: its word. -/
theorem nearest_at (s : Bool) (m e : Nat) (hm : 0 < m) (hb : m < 2 ^ 53) (he : e ≤ 1000) :
    double.nearest s (m * 2 ^ e) (-(e : Int)) = double.word s ((m.log2 + 1022) * 2 ^ 52 + m * 2 ^ (52 - m.log2)) := by
  have hlg : m.log2 < 53 := (Nat.log2_lt (by omega)).2 hb
  have hle : (m * 2 ^ e).log2 = m.log2 + e := by
    refine (Nat.log2_eq_iff (Nat.ne_of_gt (Nat.mul_pos hm (Nat.two_pow_pos e)))).2 ⟨?_, ?_⟩
    · rw [Nat.pow_add]; exact Nat.mul_le_mul_right _ (Nat.log2_self_le (by omega))
    · rw [show m.log2 + e + 1 = (m.log2 + 1) + e by omega, Nat.pow_add]
      exact Nat.mul_lt_mul_of_pos_right Nat.lt_log2_self (Nat.two_pow_pos e)
  unfold Format.nearest
  rw [if_neg (Nat.ne_of_gt (Nat.mul_pos hm (Nat.two_pow_pos e))), hle, leastPlace_eq, binade_eq, infRung_eq]
  have hfb : double.fractionBits = 52 := rfl
  rw [hfb]
  have hlast : max (-(e : Int) + ((m.log2 + e : Nat) : Int) - ((52 : Nat) : Int)) (-1074) = (m.log2 : Int) - 52 := by omega
  simp only [hlast]
  have hkept : Toward.even.cut s ((m * 2 ^ e) <<< (-(e : Int) - ((m.log2 : Int) - 52)).toNat) ((m.log2 : Int) - 52 - -(e : Int)).toNat = m * 2 ^ (52 - m.log2) := by
    by_cases c : e ≤ 52 - m.log2
    · rw [show ((m.log2 : Int) - 52 - -(e : Int)).toNat = 0 by omega, show (-(e : Int) - ((m.log2 : Int) - 52)).toNat = 52 - m.log2 - e by omega, cut_none, Nat.shiftLeft_eq, Nat.mul_assoc, ← Nat.pow_add]
      congr 2; omega
    · rw [show (-(e : Int) - ((m.log2 : Int) - 52)).toNat = 0 by omega, Nat.shiftLeft_zero, show ((m.log2 : Int) - 52 - -(e : Int)).toNat = e - (52 - m.log2) by omega]
      have : m * 2 ^ e = m * 2 ^ (52 - m.log2) * 2 ^ (e - (52 - m.log2)) := by
        rw [Nat.mul_assoc, ← Nat.pow_add]; congr 2; omega
      rw [this]
      exact cut_whole s _ _ (Nat.mul_pos hm (Nat.two_pow_pos _))
  rw [hkept, show ((m.log2 : Int) - 52 - -1074).toNat = m.log2 + 1022 by omega]
  have hup : m * 2 ^ (52 - m.log2) < 2 ^ 53 := by
    have h1 : m < 2 ^ (m.log2 + 1) := Nat.lt_log2_self
    have h2 : m * 2 ^ (52 - m.log2) < 2 ^ (m.log2 + 1) * 2 ^ (52 - m.log2) := Nat.mul_lt_mul_of_pos_right h1 (Nat.two_pow_pos _)
    rw [← Nat.pow_add, show m.log2 + 1 + (52 - m.log2) = 53 by omega] at h2
    exact h2
  rw [Nat.min_eq_left]
  have : (m.log2 + 1022) * 2 ^ 52 ≤ 1074 * 2 ^ 52 := Nat.mul_le_mul_right _ (by omega)
  generalize m * 2 ^ (52 - m.log2) = X at hup ⊢
  generalize m.log2 = L at hlg ⊢
  clear hlast hkept hle hfb this
  rw [e52]
  rw [e53] at hup
  omega
/-- What such a word is read as. -/
theorem read_word (s : Bool) (m : Nat) (hm : 0 < m) (hb : m < 2 ^ 53) :
    double.read (double.word s ((m.log2 + 1022) * 2 ^ 52 + m * 2 ^ (52 - m.log2))) = .number s (m * 2 ^ (52 - m.log2)) (-((52 - m.log2 : Nat) : Int)) := by
  have hlg : m.log2 < 53 := (Nat.log2_lt (by omega)).2 hb
  have hlo : 2 ^ 52 ≤ m * 2 ^ (52 - m.log2) := by
    have h1 : 2 ^ m.log2 ≤ m := Nat.log2_self_le (by omega)
    have h2 : 2 ^ m.log2 * 2 ^ (52 - m.log2) ≤ m * 2 ^ (52 - m.log2) := Nat.mul_le_mul_right _ h1
    rw [← Nat.pow_add, show m.log2 + (52 - m.log2) = 52 by omega] at h2
    exact h2
  have hup : m * 2 ^ (52 - m.log2) < 2 ^ 53 := by
    have h1 : m < 2 ^ (m.log2 + 1) := Nat.lt_log2_self
    have h2 : m * 2 ^ (52 - m.log2) < 2 ^ (m.log2 + 1) * 2 ^ (52 - m.log2) := Nat.mul_lt_mul_of_pos_right h1 (Nat.two_pow_pos _)
    rw [← Nat.pow_add, show m.log2 + 1 + (52 - m.log2) = 53 by omega] at h2
    exact h2
  obtain ⟨M, hM⟩ : ∃ M, M = m * 2 ^ (52 - m.log2) := ⟨_, rfl⟩
  rw [← hM] at hlo hup ⊢
  obtain ⟨L, hL⟩ : ∃ L, L = m.log2 := ⟨_, rfl⟩
  rw [← hL] at hlg ⊢
  rw [e52] at hlo ⊢
  rw [e53] at hup
  clear hM hL hb hm
  have hr : (L + 1022) * 4503599627370496 + M < 9223372036854775808 := by omega
  have hmod : double.word s ((L + 1022) * 4503599627370496 + M) % 9223372036854775808 = (L + 1022) * 4503599627370496 + M := by
    unfold Format.word
    rw [signWeight_eq, e63]
    split <;> omega
  have hdiv : (double.word s ((L + 1022) * 4503599627370496 + M) / 9223372036854775808 % 2 == 1) = s := by
    unfold Format.word
    rw [signWeight_eq, e63]
    cases s
    · simp only [Bool.false_eq_true, if_false]
      rw [Nat.div_eq_of_lt hr]; rfl
    · simp only [if_true]
      have : (9223372036854775808 + ((L + 1022) * 4503599627370496 + M)) / 9223372036854775808 = 1 := by omega
      rw [this]; rfl
  unfold Format.read
  rw [signWeight_eq, e63, hmod, hdiv, binade_eq, infRung_eq, leastPlace_eq, e52]
  have hb1 : ¬ ((L + 1022) * 4503599627370496 + M < 4503599627370496) := by omega
  have hb2 : (L + 1022) * 4503599627370496 + M < 2047 * 4503599627370496 := by omega
  simp only [if_neg hb1, if_pos hb2]
  have hd : ((L + 1022) * 4503599627370496 + M) / 4503599627370496 = L + 1023 := by omega
  have hm2 : 4503599627370496 + ((L + 1022) * 4503599627370496 + M) % 4503599627370496 = M := by omega
  rw [hd, hm2]
  have hpl : (-1074 : Int) + ((L + 1023 - 1 : Nat) : Int) = -((52 - L : Nat) : Int) := by clear hd hm2 hb1 hb2 hmod hdiv hr hlo hup; omega
  rw [hpl]
theorem fi_word (n : Int) (h0 : n ≠ 0) (hb : n.natAbs < 2 ^ 53) : fi n = double.word (decide (n < 0)) ((n.natAbs.log2 + 1022) * 2 ^ 52 + n.natAbs * 2 ^ (52 - n.natAbs.log2)) := by
  have := nearest_at (decide (n < 0)) n.natAbs 0 (by omega) hb (by omega)
  rw [Nat.pow_zero, Nat.mul_one] at this
  exact this
theorem fi_zero : fi 0 = 0 := by decide
theorem read_zero : double.read 0 = .number false 0 (-1074) := by decide
/-- Each whole number is read back: so many halvings of so many doublings. -/
theorem fi_read (n : Int) (hb : n.natAbs < 2 ^ 53) : ∃ e : Nat, e ≤ 1074 ∧ double.read (fi n) = .number (decide (n < 0)) (n.natAbs * 2 ^ e) (-(e : Int)) ∧ (n ≠ 0 → e ≤ 52) := by
  by_cases h0 : n = 0
  · subst h0
    obtain ⟨e, he⟩ : ∃ e : Nat, e = 1074 := ⟨_, rfl⟩
    exact ⟨e, by omega, by rw [fi_zero, read_zero, Int.natAbs_zero, Nat.zero_mul, he]; rfl, fun h => absurd rfl h⟩
  · exact ⟨52 - n.natAbs.log2, by omega, by rw [fi_word n h0 hb]; exact read_word _ _ (by omega) hb, fun _ => by omega⟩
theorem signed_up (n : Int) (e k : Nat) : signed (decide (n < 0)) (n.natAbs * 2 ^ e) k = n * 2 ^ (e + k) := by
  unfold signed
  rw [Nat.shiftLeft_eq, Nat.mul_assoc, ← Nat.pow_add]
  have hp : ((n.natAbs * 2 ^ (e + k) : Nat) : Int) = (n.natAbs : Int) * 2 ^ (e + k) := by simp
  by_cases h : n < 0
  · rw [decide_eq_true h, if_pos rfl, hp, show (n.natAbs : Int) = -n by omega, Int.neg_mul, Int.neg_neg]
  · rw [decide_eq_false h, if_neg (by simp), hp, show (n.natAbs : Int) = n by omega]
theorem two_pow_pos' (e : Nat) : (0 : Int) < 2 ^ e := by
  have := Nat.two_pow_pos e
  have h : ((2 ^ e : Nat) : Int) = (2 : Int) ^ e := by simp
  omega
theorem cmp_scale (a b c : Int) (hc : 0 < c) : compare (a * c) (b * c) = compare a b := by
  show compareOfLessAndEq _ _ = compareOfLessAndEq _ _
  unfold compareOfLessAndEq
  by_cases h : a < b
  · rw [if_pos h, if_pos (Int.mul_lt_mul_of_pos_right h hc)]
  · by_cases h2 : a = b
    · subst h2; simp
    · have h3 : b < a := by omega
      have h4 := Int.mul_lt_mul_of_pos_right h3 hc
      rw [if_neg h, if_neg h2, if_neg (by omega), if_neg (by omega)]
theorem fi_order (a b : Int) (ha : a.natAbs < 2 ^ 53) (hb : b.natAbs < 2 ^ 53) : FloatKind.f64.format.order (fi a) (fi b) = some (compare a b) := by
  obtain ⟨e, _, he, _⟩ := fi_read a ha
  obtain ⟨d, _, hd, _⟩ := fi_read b hb
  show double.order _ _ = _
  unfold Format.order
  rw [he, hd]
  simp only [Datum.order, signed_up]
  rw [show e + (-(e : Int) - min (-(e : Int)) (-(d : Int))).toNat = max e d by omega, show d + (-(d : Int) - min (-(e : Int)) (-(d : Int))).toNat = max e d by omega, cmp_scale _ _ _ (two_pow_pos' _)]
theorem fi_int (n : Int) (hb : n.natAbs < 2 ^ 53) : floatToIntVal .f64 (fi n) .i64 = some n := by
  obtain ⟨e, _, he, _⟩ := fi_read n hb
  unfold floatToIntVal
  have hr : (FloatKind.f64.decode (fi n)) = .number (decide (n < 0)) (n.natAbs * 2 ^ e) (-(e : Int)) := he
  rw [hr]
  have hc : Toward.zero.cut (decide (n < 0)) ((n.natAbs * 2 ^ e) <<< (-(e : Int)).toNat) (- -(e : Int)).toNat = n.natAbs := by
    rw [show (-(e : Int)).toNat = 0 by omega, Nat.shiftLeft_zero, show (- -(e : Int)).toNat = e by omega]
    unfold Toward.cut
    by_cases h0 : n.natAbs = 0
    · rw [h0]; simp
    · have hl : e ≤ (n.natAbs * 2 ^ e).log2 := by
        rw [Nat.le_log2 (Nat.ne_of_gt (Nat.mul_pos (by omega) (Nat.two_pow_pos e)))]
        exact Nat.le_mul_of_pos_left _ (by omega)
      rw [Nat.min_eq_left (by omega), Nat.one_shiftLeft]
      simp [Nat.mul_div_cancel _ (Nat.two_pow_pos e)]
  have hi : (Datum.number (decide (n < 0)) (n.natAbs * 2 ^ e) (-(e : Int))).toInt .zero = some n := by
    unfold Datum.toInt Datum.integral
    simp only [hc]
    congr 1
    have := signed_up n 0 0
    simpa using this
  rw [hi]
  have h1 : IntKind.i64.min = -9223372036854775808 := rfl
  have h2 : IntKind.i64.max = 9223372036854775807 := rfl
  simp only [h1, h2]
  rw [if_pos (by omega)]
/-- A whole number told at a place: its word. -/
theorem write_scaled (n : Int) (e : Nat) (hb : n.natAbs < 2 ^ 53) (he : e ≤ 1000 ∨ n = 0) : double.write (.number (decide (n < 0)) (n.natAbs * 2 ^ e) (-(e : Int))) = fi n := by
  by_cases h0 : n = 0
  · subst h0
    show double.nearest _ _ _ = _
    unfold Format.nearest
    simp [fi_zero, Format.word]
  · rw [fi_word n h0 hb]
    exact nearest_at _ _ _ (by omega) hb (by omega)
theorem fi_add (a b : Int) (ha : a.natAbs < 2 ^ 53) (hb : b.natAbs < 2 ^ 53) (hs : (a + b).natAbs < 2 ^ 53) (h0 : a ≠ 0) (h1 : b ≠ 0) : double.add (fi a) (fi b) = some (fi (a + b)) := by
  obtain ⟨e, _, he, he2⟩ := fi_read a ha
  obtain ⟨d, _, hd, hd2⟩ := fi_read b hb
  have he3 := he2 h0
  have hd3 := hd2 h1
  unfold Format.add
  rw [he, hd]
  simp only [Datum.sum, signed_up, Option.map_some]
  rw [show e + (-(e : Int) - min (-(e : Int)) (-(d : Int))).toNat = max e d by omega, show d + (-(d : Int) - min (-(e : Int)) (-(d : Int))).toNat = max e d by omega, ← Int.add_mul, show min (-(e : Int)) (-(d : Int)) = -((max e d : Nat) : Int) by omega]
  congr 1
  have hp := two_pow_pos' (max e d)
  have hn : ((a + b) * 2 ^ max e d).natAbs = (a + b).natAbs * 2 ^ max e d := by
    rw [Int.natAbs_mul]; simp [Int.natAbs_pow]
  have hneg : (if (a + b) * 2 ^ max e d = 0 then (decide (a < 0) && decide (b < 0)) else decide ((a + b) * 2 ^ max e d < 0)) = decide (a + b < 0) := by
    by_cases c : a + b = 0
    · rw [c, Int.zero_mul, if_pos rfl]
      by_cases ca : a < 0
      · simp [show ¬ b < 0 by omega]
      · simp [ca]
    · rw [if_neg (by intro h; rcases Int.mul_eq_zero.1 h with h | h <;> omega)]
      by_cases c2 : a + b < 0
      · rw [decide_eq_true c2, decide_eq_true (Int.mul_neg_of_neg_of_pos c2 hp)]
      · rw [decide_eq_false c2, decide_eq_false (by have := Int.mul_pos (show 0 < a + b by omega) hp; omega)]
  rw [hn, hneg]
  exact write_scaled (a + b) _ hs (.inl (by omega))
theorem fi_mul (a b : Int) (ha : a.natAbs < 2 ^ 53) (hb : b.natAbs < 2 ^ 53) (hs : (a * b).natAbs < 2 ^ 53) (h0 : 0 < a) (h1 : 0 < b) : double.mul (fi a) (fi b) = some (fi (a * b)) := by
  obtain ⟨e, _, he, he2⟩ := fi_read a ha
  obtain ⟨d, _, hd, hd2⟩ := fi_read b hb
  have he3 := he2 (by omega)
  have hd3 := hd2 (by omega)
  unfold Format.mul
  rw [he, hd]
  simp only [Datum.product, Option.map_some]
  congr 1
  have hpos := Int.mul_pos h0 h1
  rw [decide_eq_false (show ¬ a < 0 by omega), decide_eq_false (show ¬ b < 0 by omega)]
  have e1 : a.natAbs * 2 ^ e * (b.natAbs * 2 ^ d) = (a * b).natAbs * 2 ^ (e + d) := by
    rw [Int.natAbs_mul, Nat.pow_add, Nat.mul_assoc, Nat.mul_left_comm (2 ^ e), ← Nat.mul_assoc]
  have e2 : -(e : Int) + -(d : Int) = -((e + d : Nat) : Int) := by omega
  rw [e1, e2]
  have := write_scaled (a * b) (e + d) hs (.inl (by omega))
  rw [decide_eq_false (show ¬ a * b < 0 by omega)] at this
  exact this
end Go.Proofs.YtfhkgohokbkgiaaGreatDoor
set_option linter.unusedVariables false
namespace Go.Proofs.YtfhkgohokbkgiaaGreatDoor
open Go.RowKit G
theorem flt_gt {t t' : TypeId} {x y : Operand} {a b : Int} (ha : a.natAbs < 2 ^ 53) (hb : b.natAbs < 2 ^ 53) (w : World) : (do eqGuard .gtr t x y (.float .f64 (floatOfInt .f64 a)) (.float .f64 (floatOfInt .f64 b)); binOp .gtr t (.float .f64 (floatOfInt .f64 a)) (.float .f64 (floatOfInt .f64 b)) : Sem Value).run Tryz.prog w = .ok (.bool (decide (a > b))) w := by
  have h := fi_order a b ha hb
  rw [fi_eq, fi_eq] at h
  simp only [eqGuard, binOp, Op.floatCmp, h, Sem.run_bind]
  simp [compare, compareOfLessAndEq]
  by_cases h1 : a < b
  · have : ¬ b < a := by omega
    simp [h1, this]
  · by_cases h2 : a = b
    · simp [h2]
    · have : b < a := by omega
      simp [h1, h2, this]
theorem flt_add1 {t : TypeId} {x y : Operand} {a : Int} (ha : 0 ≤ a) (hb : a < 2 ^ 52) (w : World) : (do eqGuard .add t x y (.float .f64 (floatOfInt .f64 a)) (.float .f64 4607182418800017408); binOp .add t (.float .f64 (floatOfInt .f64 a)) (.float .f64 4607182418800017408) : Sem Value).run Tryz.prog w = .ok (.float .f64 (floatOfInt .f64 (a + 1))) w := by
  have h1 : (4607182418800017408 : Nat) = floatOfInt .f64 1 := by decide
  have h : Ieee.double.add (floatOfInt .f64 a) (floatOfInt .f64 1) = some (floatOfInt .f64 (a + 1)) := by
    by_cases h0 : a = 0
    · subst h0; decide +kernel
    · have := fi_add a 1 (by omega) (by decide) (by omega) h0 (by decide)
      simpa only [fi_eq] using this
  rw [h1]
  simp only [eqGuard, binOp, Op.floatArith, Sem.run_bind]
  show _ = _
  simp [FloatKind.format, h]
theorem cvt_int {a : Int} (ha : a.natAbs < 2 ^ 53) (w : World) : (convert 241 3 (.float .f64 (floatOfInt .f64 a))).run Tryz.prog w = .ok (.int .i64 a) w :=
  run_convert_float_int w 241 3 .f64 .i64 (floatOfInt .f64 a) a (by kernel_rfl) Tryz.underlying3 (by have := fi_int a ha; rwa [fi_eq] at this)
end Go.Proofs.YtfhkgohokbkgiaaGreatDoor
set_option linter.unusedVariables false
set_option linter.unusedSimpArgs false
namespace Go.Proofs.YtfhkgohokbkgiaaGreatDoor
open Go.RowKit G
theorem find_no {l : List (Int × Int)} {id : Int} (h : ∀ e ∈ l, e.2 ≠ id) : findI l id = -1 := by
  rcases findI_cases l id with ⟨h1, _⟩ | ⟨i, e, _, he, hid, _⟩
  · exact h1
  · exact absurd hid (h e (List.mem_of_getElem? he))
theorem mem_insE {e : Int × Int} : ∀ {l : List (Int × Int)} {x : Int × Int}, x ∈ insE e l ↔ x = e ∨ x ∈ l
  | [], x => by simp [insE]
  | y :: r, x => by
    unfold insE
    split
    · rw [List.mem_cons, mem_insE, List.mem_cons]
      constructor
      · rintro (h | h | h)
        · exact .inr (.inl h)
        · exact .inl h
        · exact .inr (.inr h)
      · rintro (h | h | h)
        · exact .inr (.inl h)
        · exact .inl h
        · exact .inr (.inr h)
    · simp
theorem insE_len (e : Int × Int) : ∀ (l : List (Int × Int)), (insE e l).length = l.length + 1
  | [] => rfl
  | y :: r => by
    unfold insE
    split
    · simp [insE_len e r]
    · simp
theorem SrtE.ins {e : Int × Int} : ∀ {l : List (Int × Int)}, SrtE l → (∀ x ∈ l, x ≠ e) → SrtE (insE e l)
  | [], _, _ => by simp [insE, SrtE]
  | y :: r, h, hn => by
    have h' := List.pairwise_cons.1 h
    unfold insE
    split
    · rename_i hlt
      refine List.pairwise_cons.2 ⟨fun z hz => ?_, SrtE.ins (l := r) h'.2 (fun x hx => hn x (by simp [hx]))⟩
      rcases mem_insE.1 hz with rfl | hz
      · exact hlt
      · exact h'.1 z hz
    · rename_i hlt
      have hey : eLt e y := by
        rcases eLt_total hlt with h | h
        · exact absurd h (hn y (by simp))
        · exact h
      refine List.pairwise_cons.2 ⟨fun z hz => ?_, h⟩
      rcases List.mem_cons.1 hz with rfl | hz
      · exact hey
      · exact eLt_trans hey (h'.1 z hz)
theorem findI_no {l : List (Int × Int)} {id : Int} (h : ∀ e ∈ l, e.2 ≠ id) : ¬ findI l id ≥ 0 := by rw [find_no h]; decide
theorem findI_yes {l : List (Int × Int)} {id : Int} {e : Int × Int} (he : e ∈ l) (h : e.2 = id) : findI l id ≥ 0 := by
  rcases findI_cases l id with ⟨_, hn⟩ | ⟨i, _, hi, _⟩
  · exact absurd h (hn e he)
  · omega
/-- An entry is put. -/
theorem putE_ok {room : Int} {l : List (Int × Int)} {p id : Int} (hp : 0 ≤ p ∧ p ≤ 1099511627776) (hid : 0 ≤ id) (hn : ∀ e ∈ l, e.2 ≠ id) (hr : (l.length : Int) < room) : putE room l p id = (0, insE (p, id) l) := by
  have h1 : isPassB p = true := by simp only [isPassB, Bool.and_eq_true, decide_eq_true_eq]; omega
  rw [putE, if_neg (by rw [h1]; simp; omega), if_neg (findI_no hn), if_neg (by omega)]

theorem dropE_is {l : List (Int × Int)} {id : Int} {e : Int × Int} (hs : SrtE l) (he : e ∈ l) (h : e.2 = id) (hu : ∀ e' ∈ l, e'.2 = id → e' = e) : ∃ l', dropE l id = (0, l') ∧ SrtE l' ∧ l'.length + 1 = l.length ∧ ∀ x, x ∈ l' ↔ x ∈ l ∧ x.2 ≠ id := by
  rcases findI_cases l id with ⟨_, hn⟩ | ⟨i, e', hi, hie, hid, _⟩
  · exact absurd h (hn e he)
  · have hil := (List.getElem?_eq_some_iff.1 hie).1
    obtain rfl := hu e' (List.mem_of_getElem? hie) hid
    refine ⟨l.eraseIdx i, ?_, hs.sublist (List.eraseIdx_sublist _ _), by rw [List.length_eraseIdx_of_lt hil]; omega, fun x => ?_⟩
    · rw [dropE, if_neg (by omega), hi, Int.toNat_natCast, List.eraseIdx_eq_take_drop_succ]
    · rw [List.mem_eraseIdx_iff_getElem?]
      constructor
      · rintro ⟨v, hv, hx⟩
        refine ⟨List.mem_of_getElem? hx, fun hxi => ?_⟩
        have hxe := hu x (List.mem_of_getElem? hx) hxi
        subst hxe
        rcases Nat.lt_trichotomy v i with c | c | c
        · exact absurd (hs.at hx hie c) (eLt_irrefl _)
        · exact hv c
        · exact absurd (hs.at hie hx c) (eLt_irrefl _)
      · rintro ⟨hx, hxi⟩
        obtain ⟨v, hv⟩ := List.mem_iff_getElem?.1 hx
        refine ⟨v, fun c => ?_, hv⟩
        subst c
        rw [hie] at hv
        cases hv
        exact hxi hid
theorem rekeyE_is {l : List (Int × Int)} {id p : Int} {e : Int × Int} (hs : SrtE l) (he : e ∈ l) (h : e.2 = id) (hu : ∀ e' ∈ l, e'.2 = id → e' = e) (hp : 0 ≤ p ∧ p ≤ 1099511627776) :
    ∃ l', rekeyE l id p = (0, l') ∧ SrtE l' ∧ l'.length = l.length ∧ ∀ x, x ∈ l' ↔ x = (p, id) ∨ (x ∈ l ∧ x.2 ≠ id) := by
  obtain ⟨l', h1, h2, h3, h4⟩ := dropE_is hs he h hu
  have h0 : ¬ findI l id < 0 := by have := findI_yes he h; omega
  rw [dropE, if_neg h0, Prod.mk.injEq] at h1
  have hpb : isPassB p = true := by simp only [isPassB, Bool.and_eq_true, decide_eq_true_eq]; omega
  refine ⟨insE (p, id) l', by rw [rekeyE, if_neg (by simp [hpb]), if_neg h0, h1.2], h2.ins fun x hx hxe => ?_, by rw [insE_len]; exact h3, fun x => by rw [mem_insE, h4]⟩
  subst hxe
  exact ((h4 _).1 hx).2 rfl
/-! ## what is ready in a group -/
def KD (N : List Nr) (g p k : Int) : Prop := ∃ y ∈ N, y.par = g ∧ y.rdy = true ∧ y.pass = p ∧ y.id = k
theorem KD_up {N : List Nr} (hn : (N.map (·.id)).Nodup) {x : Nr} (hx : x ∈ N) {f : Nr → Nr} (hf : Skel f) {g p j : Int} : KD (upN N x.id f) g p j ↔ (j ≠ x.id ∧ KD N g p j) ∨ (j = x.id ∧ x.par = g ∧ (f x).rdy = true ∧ (f x).pass = p) := by
  constructor
  · rintro ⟨y, hy, h1, h2, h3, h4⟩
    obtain ⟨z, hz, ⟨e1, rfl⟩ | ⟨e1, rfl⟩⟩ := mem_upN.1 hy
    · have := nd_eq hn hz hx e1; subst this
      rw [hf.id] at h4; rw [hf.par] at h1
      exact .inr ⟨h4.symm, h1, h2, h3⟩
    · exact .inl ⟨fun h => e1 (by rw [h4, h]), y, hz, h1, h2, h3, h4⟩
  · rintro (⟨h1, y, hy, h2, h3, h4, h5⟩ | ⟨h1, h2, h3, h4⟩)
    · exact ⟨y, mem_upN.2 ⟨y, hy, .inr ⟨fun h => h1 (by rw [← h5, h]), rfl⟩⟩, h2, h3, h4, h5⟩
    · exact ⟨f x, mem_upN.2 ⟨x, hx, .inl ⟨rfl, rfl⟩⟩, by rw [hf.par, h2], h3, h4, by rw [hf.id, h1]⟩
theorem KD_one {N : List Nr} (hn : (N.map (·.id)).Nodup) {x : Nr} (hx : x ∈ N) {g p : Int} : KD N g p x.id ↔ x.par = g ∧ x.rdy = true ∧ x.pass = p := by
  constructor
  · rintro ⟨y, hy, h1, h2, h3, h4⟩
    have := nd_eq hn hy hx h4; subst this
    exact ⟨h1, h2, h3⟩
  · rintro ⟨h1, h2, h3⟩
    exact ⟨x, hx, h1, h2, h3, rfl⟩
/-- A change of a node tells nothing to a group that isn't its own, or of which it says the same. -/
theorem KD_same {N : List Nr} (hn : (N.map (·.id)).Nodup) {x : Nr} (hx : x ∈ N) {f : Nr → Nr} (hf : Skel f) {g p j : Int} (h : x.par ≠ g ∨ ((f x).rdy = x.rdy ∧ ((f x).pass = x.pass ∨ x.rdy = false))) : KD (upN N x.id f) g p j ↔ KD N g p j := by
  rw [KD_up hn hx hf]
  by_cases c : j = x.id
  · subst c
    rw [KD_one hn hx]
    rcases h with h | ⟨h1, h2⟩
    · simp [h]
    · rw [h1]
      rcases h2 with h2 | h2
      · rw [h2]; simp
      · simp [h2]
  · simp [c]
theorem KD_uni {N : List Nr} (hn : (N.map (·.id)).Nodup) {g p p' k : Int} (h : KD N g p k) (h' : KD N g p' k) : p = p' := by
  obtain ⟨y, hy, _, _, h3, h4⟩ := h
  rw [← h4, KD_one hn hy] at h'
  rw [← h3, h'.2.2]
theorem kidR_ne {N : List Nr} {g : Int} : kidR N g ≠ [] ↔ ∃ p k, KD N g p k := by
  constructor
  · intro hne
    obtain ⟨y, hy⟩ := List.exists_mem_of_ne_nil _ hne
    simp only [kidR, List.mem_filter, Bool.and_eq_true, beq_iff_eq] at hy
    exact ⟨y.pass, y.id, y, hy.1, hy.2.1, hy.2.2, rfl, rfl⟩
  · rintro ⟨p, k, y, hy, h1, h2, _⟩
    exact List.ne_nil_of_mem (a := y) (by simp only [kidR, List.mem_filter, Bool.and_eq_true, beq_iff_eq]; exact ⟨hy, h1, h2⟩)
/-! ## the nodes in memory, when one changes -/
/-- The same nodes at the same places. -/
def SameT (T T' : List Nd) : Prop := T'.map (fun x => (x.n.id, x.b, x.ib)) = T.map (fun x => (x.n.id, x.b, x.ib))
theorem SameT.refl (T : List Nd) : SameT T T := Eq.refl _
theorem SameT.trans {A B C : List Nd} (h : SameT A B) (g : SameT B C) : SameT A C := Eq.trans g h
theorem SameT.kp {T T' : List Nd} (h : SameT T T') : T'.map kp = T.map kp := by
  have := congrArg (List.map (fun (z : Int × Nat × Nat) => ((z.1, Value.pointer (some ⟨z.2.1, 0, none⟩)) : Int × Value))) h
  rw [List.map_map, List.map_map] at this
  exact this
theorem SameT.at {T T' : List Nd} (h : SameT T T') {i : Nat} {x : Nd} (hi : T[i]? = some x) : ∃ x', T'[i]? = some x' ∧ x'.n.id = x.n.id ∧ x'.b = x.b ∧ x'.ib = x.ib := by
  have := congrArg (fun l => l[i]?) h
  simp only [List.getElem?_map, hi, Option.map_some] at this
  obtain ⟨x', h1, h2⟩ := Option.map_eq_some_iff.1 this
  simp only [Prod.mk.injEq] at h2
  exact ⟨x', h1, h2.1, h2.2.1, h2.2.2⟩
theorem SameT.set {T : List Nd} {i : Nat} {x x' : Nd} (hi : T[i]? = some x) (h : x'.n.id = x.n.id ∧ x'.b = x.b ∧ x'.ib = x.ib) : SameT T (T.set i x') := by
  unfold SameT
  apply List.ext_getElem?
  intro j
  simp only [List.getElem?_map, List.getElem?_set]
  split
  · rename_i e; subst e
    obtain ⟨hil, rfl⟩ := List.getElem?_eq_some_iff.1 hi
    simp [hil, h.1, h.2.1, h.2.2]
  · rfl
theorem OkT.mem_n {N : List Nr} {T : List Nd} (h : OkT N T) {x : Nd} (hx : x ∈ T) : x.n ∈ N := h.n ▸ List.mem_map.2 ⟨x, hx, rfl⟩
theorem OkT.of_n {N : List Nr} {T : List Nd} (h : OkT N T) {y : Nr} (hy : y ∈ N) : ∃ (i : Nat) (x : Nd), T[i]? = some x ∧ x.n = y := by
  rw [← h.n] at hy
  obtain ⟨x, hx, rfl⟩ := List.mem_map.1 hy
  obtain ⟨i, hi⟩ := List.mem_iff_getElem?.1 hx
  exact ⟨i, x, hi, rfl⟩
theorem OkT.len {N : List Nr} {T : List Nd} (h : OkT N T) : T.length = N.length := by rw [← h.n, List.length_map]
theorem OkT.ix {N : List Nr} {T : List Nd} (h : OkT N T) (hn : (N.map (·.id)).Nodup) {i j : Nat} {x y : Nd} (hi : T[i]? = some x) (hj : T[j]? = some y) (he : x.n.id = y.n.id) : i = j := by
  have hN : N.map (·.id) = T.map (fun x : Nd => x.n.id) := by rw [← h.n]; simp [List.map_map, Function.comp_def]
  rw [hN] at hn
  obtain ⟨hil, rfl⟩ := List.getElem?_eq_some_iff.1 hi
  obtain ⟨hjl, rfl⟩ := List.getElem?_eq_some_iff.1 hj
  exact (List.getElem_inj (h₀ := by simpa using hil) (h₁ := by simpa using hjl) hn).1 (by simpa using he)
theorem OkT.at {N : List Nr} {T : List Nd} (h : OkT N T) (hn : (N.map (·.id)).Nodup) {i : Nat} {x : Nd} (hi : T[i]? = some x) : gt N x.n.id = some x.n := gt_of hn (h.mem_n (List.mem_of_getElem? hi))
/-- One that is told by its number. -/
theorem OkT.get {N : List Nr} {T : List Nd} (h : OkT N T) {k : Int} {y : Nr} (hg : gt N k = some y) : ∃ (i : Nat) (x : Nd), T[i]? = some x ∧ x.n = y ∧ x.n.id = k := by
  obtain ⟨h1, h2⟩ := gt_mem hg
  obtain ⟨i, x, hi, hx⟩ := h.of_n h1
  exact ⟨i, x, hi, hx, by rw [hx, h2]⟩
theorem lkE_kp (T : List Nd) (k : Int) : lkE (T.map kp) k = (T.find? (fun x : Nd => x.n.id == k)).map (fun x => .pointer (some ⟨x.b, 0, none⟩)) := by
  induction T with
  | nil => rfl
  | cons a T ih =>
    simp only [List.map_cons, lkE, kp, List.find?_cons]
    cases a.n.id == k with
    | true => rfl
    | false => simpa using ih
theorem lk_some {N : List Nr} {T : List Nd} (h : OkT N T) (hn : (N.map (·.id)).Nodup) {i : Nat} {x : Nd} {k : Int} (hi : T[i]? = some x) (hk : x.n.id = k) : lkE (T.map kp) k = some (.pointer (some ⟨x.b, 0, none⟩)) := by
  rw [lkE_kp]
  cases hf : T.find? (fun x : Nd => x.n.id == k) with
  | none => simp only [List.find?_eq_none, beq_iff_eq] at hf; exact absurd hk (hf x (List.mem_of_getElem? hi))
  | some y =>
    have hy := List.mem_of_find?_eq_some hf
    obtain ⟨j, hj⟩ := List.mem_iff_getElem?.1 hy
    have hyk : y.n.id = k := by simpa using List.find?_some hf
    have := h.ix hn hi hj (by rw [hk, hyk])
    subst this
    rw [hi] at hj
    cases hj
    rfl
theorem lk_none {N : List Nr} {T : List Nd} (h : OkT N T) {k : Int} (hg : gt N k = none) : lkE (T.map kp) k = none := by
  rw [lkE_kp]
  cases hf : T.find? (fun x : Nd => x.n.id == k) with
  | none => rfl
  | some y => exact absurd (by simpa using List.find?_some hf) (gt_none.1 hg _ (h.mem_n (List.mem_of_find?_eq_some hf)))
theorem set_up {N : List Nr} {T : List Nd} (h : T.map (·.n) = N) (hn : (N.map (·.id)).Nodup) {i : Nat} {x : Nd} (hi : T[i]? = some x) (f : Nr → Nr) (x' : Nd) (hx' : x'.n = f x.n) : (T.set i x').map (·.n) = upN N x.n.id f := by
  subst h
  apply List.ext_getElem?
  intro j
  obtain ⟨hil, hxi⟩ := List.getElem?_eq_some_iff.1 hi
  simp only [upN, List.getElem?_map, List.getElem?_set]
  by_cases c : i = j
  · subst c
    simp [hil, hxi, hx']
  · rw [if_neg c]
    cases hj : T[j]? with
    | none => simp
    | some y =>
      have : y.n.id ≠ x.n.id := by
        intro e
        obtain ⟨hjl, hyj⟩ := List.getElem?_eq_some_iff.1 hj
        refine c ((List.getElem_inj (h₀ := by simpa using hil) (h₁ := by simpa using hjl) hn).1 ?_)
        simp [hxi, hyj, e]
      simp [this]
/-- A node has changed, of which its group learns nothing. -/
theorem OkT.one {N : List Nr} {T : List Nd} (h : OkT N T) (hn : (N.map (·.id)).Nodup) {i : Nat} {x : Nd} (hi : T[i]? = some x) {f : Nr → Nr} (hf : Skel f) (hs : (∀ y ∈ N, y.id ≠ x.n.par) ∨ ((f x.n).rdy = x.n.rdy ∧ ((f x.n).pass = x.n.pass ∨ x.n.rdy = false))) :
    OkT (upN N x.n.id f) (T.set i { x with n := f x.n }) := by
  have key : ∀ z ∈ T, ∀ p k, (p, k) ∈ z.q ↔ KD (upN N x.n.id f) z.n.id p k := by
    intro z hz p k
    rw [KD_same hn (h.mem_n (List.mem_of_getElem? hi)) hf]
    · exact h.mem z hz p k
    · rcases hs with hs | hs
      · exact .inl fun e => hs z.n (h.mem_n hz) e.symm
      · exact .inr hs
  refine ⟨set_up h.n hn hi f _ rfl, fun z hz => ?_, fun z hz p k => ?_⟩
  · rcases List.mem_or_eq_of_mem_set hz with hz | rfl
    · exact h.srt z hz
    · exact h.srt x (List.mem_of_getElem? hi)
  · rcases List.mem_or_eq_of_mem_set hz with hz | rfl
    · exact key z hz p k
    · have := key x (List.mem_of_getElem? hi) p k
      show (p, k) ∈ x.q ↔ KD (upN N x.n.id f) (f x.n).id p k
      rw [hf.id]
      exact this
/-- A node and its group's index have changed. -/
theorem OkT.two {N : List Nr} {T : List Nd} (h : OkT N T) (hn : (N.map (·.id)).Nodup) {i j : Nat} {x p : Nd} (hi : T[i]? = some x) (hj : T[j]? = some p) (hp : p.n.id = x.n.par) (hij : i ≠ j) {f : Nr → Nr} (hf : Skel f) {q : List (Int × Int)} (hq : SrtE q)
    (hm : ∀ s k, (s, k) ∈ q ↔ KD (upN N x.n.id f) p.n.id s k) : OkT (upN N x.n.id f) ((T.set i { x with n := f x.n }).set j { p with q := q }) := by
  have hx := h.mem_n (List.mem_of_getElem? hi)
  have hj' : (T.set i { x with n := f x.n })[j]? = some p := by rw [List.getElem?_set, if_neg hij]; exact hj
  have hset : ((T.set i { x with n := f x.n }).set j { p with q := q }).map (·.n) = (T.set i { x with n := f x.n }).map (·.n) := by
    apply List.ext_getElem?
    intro l
    simp only [List.getElem?_map, List.getElem?_set (i := j)]
    by_cases c : j = l
    · subst c
      rw [hj', if_pos rfl, if_pos (List.getElem?_eq_some_iff.1 hj').1]
      rfl
    · rw [if_neg c]
  refine ⟨hset.trans (set_up h.n hn hi f _ rfl), ?_, ?_⟩
  · intro z hz
    rcases List.mem_or_eq_of_mem_set hz with hz | rfl
    · rcases List.mem_or_eq_of_mem_set hz with hz | rfl
      · exact h.srt z hz
      · exact h.srt x (List.mem_of_getElem? hi)
    · exact hq
  · intro z hz s k
    obtain ⟨l, hl⟩ := List.mem_iff_getElem?.1 hz
    rw [List.getElem?_set] at hl
    by_cases c : j = l
    · subst c
      rw [if_pos rfl] at hl
      split at hl
      · cases hl; exact hm s k
      · cases hl
    · rw [if_neg c, List.getElem?_set] at hl
      by_cases c2 : i = l
      · subst c2
        rw [if_pos rfl] at hl
        split at hl
        · cases hl
          have hne : x.n.par ≠ x.n.id := fun e => hij (h.ix hn hi hj (by rw [hp, e]))
          rw [show ({ x with n := f x.n } : Nd).n.id = x.n.id from hf.id _]
          show (s, k) ∈ x.q ↔ KD (upN N x.n.id f) x.n.id s k
          rw [KD_same hn hx hf (.inl hne)]
          exact h.mem x (List.mem_of_getElem? hi) s k
        · cases hl
      · rw [if_neg c2] at hl
        have hne : x.n.par ≠ z.n.id := fun e => c (h.ix hn hj hl (by rw [hp, e]))
        show (s, k) ∈ z.q ↔ KD (upN N x.n.id f) z.n.id s k
        rw [KD_same hn hx hf (.inl hne)]
        exact h.mem z (List.mem_of_getElem? hl) s k
end Go.Proofs.YtfhkgohokbkgiaaGreatDoor
set_option linter.unusedVariables false
set_option linter.unusedSimpArgs false
namespace Go.Proofs.YtfhkgohokbkgiaaGreatDoor
open Go.RowKit G
namespace G
theorem bltY {P : Program} {n : Nat} {L : List (Nat × Value)} {c : Code} {S : World → Prop} {i : Nat} (b : Builtin) (x y : Operand) (ats : Array TypeId) (vx vy v : Value) (d : Option Tmp) (hg : ∀ rest, goes n c i L rest = true) (hd : (opAt c i).dst = d)
    (hop : (opAt c i).op = .call { callee := .builtin b, args := #[x, y], argTypes := ats }) (hx : ∀ rest, evalL L rest x = vx) (hy : ∀ rest, evalL L rest y = vy)
    (hr : ∀ w ty cs, (builtin b ats ty cs #[vx, vy]).run P w = .ok (.value v) w) : Yld P n L S c i d v := by
  refine ⟨hg, hd, fun rest w _ hs => ?_⟩
  unfold execOp
  simp only [hop, resolve, invoke, Sem.run_bind, Sem.run_pure, Result.andThen_ok, List.map_toArray, List.map_cons, List.map_nil, hx rest, hy rest, hr]
/-- An element's place in an array. -/
theorem aidxY {P : Program} {n : Nat} {L : List (Nat × Value)} {c : Code} {S : World → Prop} {i : Nat} (t : TypeId) (x ix : Operand) (b o len J sz : Nat) (E : TypeId) (j : Int) (k : IntKind) (d : Option Tmp) (hg : ∀ rest, goes n c i L rest = true) (hd : (opAt c i).dst = d) (hop : (opAt c i).op = .indexAddr t x ix)
    (hx : ∀ rest, evalL L rest x = .pointer (some ⟨b, o, none⟩)) (hix : ∀ rest, evalL L rest ix = .int k j) (hu : P.underlying t = some (.array len E)) (hsz : (P.info? E).map (·.size) = some sz) (hj : j = (J : Int)) (hJ : J < len) : Yld P n L S c i d (.pointer (some ⟨b, o + J * sz, none⟩)) := by
  refine ⟨hg, hd, fun rest w _ hs => ?_⟩
  have hi : ∃ q, P.info? E = some q ∧ q.size = sz := by
    cases hq : P.info? E with
    | none => rw [hq] at hsz; cases hsz
    | some q => rw [hq] at hsz; exact ⟨q, rfl, by simpa using hsz⟩
  obtain ⟨q, hq, hqs⟩ := hi
  subst hj
  unfold execOp
  simp only [hop, hx rest, hix rest]
  simp [Instr.indexAt, Instr.sureAddr, asIntOf, run_underlying hu, sizeOf, typeInfo, hq, hqs, hJ, Addr.add_lit]
/-- One operation that reckons. -/
def calmOk (P : Program) (n : Nat) (c : Code) (i : Nat) (L : List (Nat × Value)) (rest : Nat → Value) : Option (Value × Option Tmp) :=
  match goes n c i L rest with
  | true => (match calmL P (execOp (evalL L rest) (opAt c i)) [] with
    | some (.value v, [], _) => some (v, (opAt c i).dst)
    | _ => none)
  | false => none
theorem calmS {P : Program} {n : Nat} {L : List (Nat × Value)} {H : List SP} {c : Code} {i : Nat} (v : Value) (d : Option Tmp) (h : ∀ rest, calmOk P n c i L rest = some (v, d)) : Step (ι := Unit) P n L H c i d (fun _ => v) (fun _ => H) := by
  have key : ∀ rest, goes n c i L rest = true ∧ (opAt c i).dst = d ∧ ∃ r, calmL P (execOp (evalL L rest) (opAt c i)) [] = some (.value v, [], r) := by
    intro rest
    have h0 := h rest
    unfold calmOk at h0
    cases hg : goes n c i L rest with
    | false => rw [hg] at h0; cases h0
    | true =>
      rw [hg] at h0
      simp only at h0
      cases hr : calmL P (execOp (evalL L rest) (opAt c i)) [] with
      | none => rw [hr] at h0; cases h0
      | some z =>
        obtain ⟨x, cs, r⟩ := z
        rw [hr] at h0
        cases x with
        | value u =>
          cases cs with
          | cons _ _ => cases h0
          | nil =>
            simp only [Option.some.injEq, Prod.mk.injEq] at h0
            obtain ⟨rfl, rfl⟩ := h0
            exact ⟨rfl, rfl, r, rfl⟩
        | _ => cases h0
  refine valueS d _ _ (fun rest => (key rest).1) (key fun _ => undef).2.1 ?_
  intro rest w _ hs
  obtain ⟨r, hr⟩ := (key rest).2.2
  exact ⟨(), w, (calmL_run (w := w) _ hr (fun p hp => by simp at hp) (fun p hp => by simp at hp)).1, hs⟩
end G
theorem max_flt {P : Program} {a b : Int} {ats : Array TypeId} (ha : a.natAbs < 2 ^ 53) (hb : b.natAbs < 2 ^ 53) (w : World) (ty : TypeId) (cs : Array Bool) :
    (builtin .max ats ty cs #[.float .f64 (floatOfInt .f64 a), .float .f64 (floatOfInt .f64 b)]).run P w = .ok (.value (.float .f64 (floatOfInt .f64 (mxI a b)))) w := by
  have ho : FloatKind.f64.format.order (floatOfInt .f64 a) (floatOfInt .f64 b) = some (compare a b) := fi_order a b ha hb
  have h2 : (Builtin.max2 (.float .f64 (floatOfInt .f64 a)) (.float .f64 (floatOfInt .f64 b))).run P w = .ok (.float .f64 (floatOfInt .f64 (mxI a b))) w := by
    unfold Builtin.max2
    simp only [ho]
    unfold mxI
    rcases Int.lt_trichotomy a b with h | h | h
    · rw [Int.compare_eq_lt.2 h]
      simp [h]
    · subst h
      rw [Int.compare_eq_eq.2 rfl]
      simp
    · rw [Int.compare_eq_gt.2 h]
      simp [Int.lt_asymm h]
  simp [builtin, Builtin.max_, Sem.run_bind, h2]
/-- A block of elements as a row. -/
theorem Sat.blkRows {α : Type} {E : Enc α} {T : TypeId} {H : List SP} {w : World} {b : Nat} {xs : List α} (hl : xs.length ≤ maxLen) (h : Sat w (blk b T (E.flat xs) :: H)) : Sat w (row E T (.slice (some ⟨b, 0, none⟩) xs.length xs.length) xs :: H) :=
  Sat.change h fun G hG => by
    refine ⟨Upd.refl _ w, OneB b, .inr ⟨b, 0, xs.length, _, rfl, rfl, hG.1, Nat.le_refl _, hl, by simp [E.flat_length], ?_⟩, fun x hx => .inl ((hG.2 x).2 hx)⟩
    simp only [List.drop_zero]
    rw [← E.flat_length xs]; exact List.take_length
theorem PT.blkRows {α : Type} {E : Enc α} {T : TypeId} {H : List SP} {n : Nat} {L : List (Nat × Value)} {Φ : Act → World → Prop} {b : Nat} {cs : List Value} (xs : List α) (hl : xs.length ≤ maxLen) (hc : cs = E.flat xs) (h : PT n L (row E T (.slice (some ⟨b, 0, none⟩) xs.length xs.length) xs :: H) Φ) : PT n L (blk b T cs :: H) Φ :=
  PT.sat (fun w hs => Sat.blkRows hl (hc ▸ hs)) h
/-! ## nodes come out of the memory, and go in again -/
theorem Sat.nds {A B : SP} {T T' : List Nd} {H : List SP} (h : T.Perm T') {w : World} (hs : Sat w (A :: B :: (nodesL T ++ H))) : Sat w (A :: B :: (nodesL T' ++ H)) := Sat.perm ((((nodesL_perm h).append_right H).cons B).cons A) hs
theorem PT.open1 {n : Nat} {L : List (Nat × Value)} {A B : SP} {T R : List Nd} {H : List SP} {x : Nd} {Φ : Act → World → Prop} (h : T.Perm (x :: R))
    (hn : PT n L (A :: B :: blk x.b 213 (ndc x) :: idxS x.ib 60 x.q :: (nodesL R ++ H)) Φ) : PT n L (A :: B :: (nodesL T ++ H)) Φ := PT.sat (fun _ hs => Sat.nds h hs) hn
theorem PT.open2 {n : Nat} {L : List (Nat × Value)} {A B : SP} {T R : List Nd} {H : List SP} {x p : Nd} {Φ : Act → World → Prop} (h : T.Perm (x :: p :: R))
    (hn : PT n L (A :: B :: blk x.b 213 (ndc x) :: idxS x.ib 60 x.q :: blk p.b 213 (ndc p) :: idxS p.ib 60 p.q :: (nodesL R ++ H)) Φ) : PT n L (A :: B :: (nodesL T ++ H)) Φ := PT.sat (fun _ hs => Sat.nds h hs) hn
theorem PT.close1 {n : Nat} {L : List (Nat × Value)} {A B : SP} {T R : List Nd} {H : List SP} (x : Nd) {Φ : Act → World → Prop} (h : T.Perm (x :: R))
    (hn : PT n L (A :: B :: (nodesL T ++ H)) Φ) : PT n L (A :: B :: blk x.b 213 (ndc x) :: idxS x.ib 60 x.q :: (nodesL R ++ H)) Φ := PT.sat (fun _ hs => Sat.nds (T := x :: R) h.symm hs) hn
theorem PT.close2 {n : Nat} {L : List (Nat × Value)} {A B : SP} {T R : List Nd} {H : List SP} (x p : Nd) {Φ : Act → World → Prop} (h : T.Perm (x :: p :: R))
    (hn : PT n L (A :: B :: (nodesL T ++ H)) Φ) : PT n L (A :: B :: blk x.b 213 (ndc x) :: idxS x.ib 60 x.q :: blk p.b 213 (ndc p) :: idxS p.ib 60 p.q :: (nodesL R ++ H)) Φ := PT.sat (fun _ hs => Sat.nds (T := x :: p :: R) h.symm hs) hn
theorem Sat.nds3 {A B C : SP} {T T' : List Nd} {H : List SP} (h : T.Perm T') {w : World} (hs : Sat w (A :: B :: C :: (nodesL T ++ H))) : Sat w (A :: B :: C :: (nodesL T' ++ H)) := Sat.perm (((((nodesL_perm h).append_right H).cons C).cons B).cons A) hs
theorem PT.open1c {n : Nat} {L : List (Nat × Value)} {A B C : SP} {T R : List Nd} {H : List SP} {x : Nd} {Φ : Act → World → Prop} (h : T.Perm (x :: R))
    (hn : PT n L (A :: B :: C :: blk x.b 213 (ndc x) :: idxS x.ib 60 x.q :: (nodesL R ++ H)) Φ) : PT n L (A :: B :: C :: (nodesL T ++ H)) Φ := PT.sat (fun _ hs => Sat.nds3 h hs) hn
theorem PT.close1c {n : Nat} {L : List (Nat × Value)} {A B C : SP} {T R : List Nd} {H : List SP} (x : Nd) {Φ : Act → World → Prop} (h : T.Perm (x :: R))
    (hn : PT n L (A :: B :: C :: (nodesL T ++ H)) Φ) : PT n L (A :: B :: C :: blk x.b 213 (ndc x) :: idxS x.ib 60 x.q :: (nodesL R ++ H)) Φ := PT.sat (fun _ hs => Sat.nds3 (T := x :: R) h.symm hs) hn
theorem Sat.nds4 {A B C D : SP} {T T' : List Nd} {H : List SP} (h : T.Perm T') {w : World} (hs : Sat w (A :: B :: C :: D :: (nodesL T ++ H))) : Sat w (A :: B :: C :: D :: (nodesL T' ++ H)) := Sat.perm ((((((nodesL_perm h).append_right H).cons D).cons C).cons B).cons A) hs
theorem PT.open1d {n : Nat} {L : List (Nat × Value)} {A B C D : SP} {T R : List Nd} {H : List SP} {x : Nd} {Φ : Act → World → Prop} (h : T.Perm (x :: R))
    (hn : PT n L (A :: B :: C :: D :: blk x.b 213 (ndc x) :: idxS x.ib 60 x.q :: (nodesL R ++ H)) Φ) : PT n L (A :: B :: C :: D :: (nodesL T ++ H)) Φ := PT.sat (fun _ hs => Sat.nds4 h hs) hn
theorem PT.close1d {n : Nat} {L : List (Nat × Value)} {A B C D : SP} {T R : List Nd} {H : List SP} (x : Nd) {Φ : Act → World → Prop} (h : T.Perm (x :: R))
    (hn : PT n L (A :: B :: C :: D :: (nodesL T ++ H)) Φ) : PT n L (A :: B :: C :: D :: blk x.b 213 (ndc x) :: idxS x.ib 60 x.q :: (nodesL R ++ H)) Φ := PT.sat (fun _ hs => Sat.nds4 (T := x :: R) h.symm hs) hn
end Go.Proofs.YtfhkgohokbkgiaaGreatDoor
namespace Go.Proofs.YtfhkgohokbkgiaaGreatDoor.G
theorem Xj {P : Program} {n : Nat} {L : List (Nat × Value)} {c : Code} {S : World → Prop} {i : Nat} (t : TypeId) (x ix : Operand) (b o len J sz : Nat) (E : TypeId) (j : Int) (d : Nat) (hu : P.underlying t = some (.array len E)) (hJ : J < len := by first | omega | decide | (simp; done) | (simp; omega) | (simp at *; omega)) (hg : ∀ rest, goes n c i L rest = true := by intro _; kernel_rfl) (hd : (opAt c i).dst = some d := by kernel_rfl) (hop : (opAt c i).op = .indexAddr t x ix := by kernel_rfl)
    (hx : ∀ rest, evalL L rest x = .pointer (some ⟨b, o, none⟩) := by intro _; kernel_rfl) (hix : ∀ rest, evalL L rest ix = .int .i64 j := by intro _; kernel_rfl) (hsz : (P.info? E).map (·.size) = some sz := by kernel_rfl) (hj : j = (J : Int) := by first | rfl | assumption | simp | omega) : Yld P n L S c i (some d) (.pointer (some ⟨b, o + J * sz, none⟩)) := aidxY t x ix b o len J sz E j .i64 (some d) hg hd hop hx hix hu hsz hj hJ
end Go.Proofs.YtfhkgohokbkgiaaGreatDoor.G
set_option linter.unusedVariables false
set_option linter.unusedSimpArgs false
namespace Go.Proofs.YtfhkgohokbkgiaaGreatDoor
open Go.RowKit G
set_option maxRecDepth 100000 in
theorem strIs_walk (H : List SP) (w_ : Int) : ∀ w, Sat w H → Calls Tryz.prog 171 #[vi w_] w (Ret (ι := Unit) (fun _ => .bool (isW w_)) fun _ => H) := by
 refine enterG (fn := Tryz.f171) 9 [vi w_] Tryz.func171 (by kernel_rfl) (by kernel_rfl) (by kernel_rfl) ?_
 refine Xq (Xg 1 (Xe [(0,vi w_), (2,.bool false)] ?_ 1))
 refine Xq (Xg 7 (Xr [(0,vi w_), (2,.bool false), (5,.bool (decide (w_ ≥ 1)))] ?_ 4 3))
 refine (Xs0 1 3 [(2,.bool false), (8,.bool ((decide (w_ ≥ 1)) && (decide (w_ ≤ 16))))] ?_ ?_ : RT _ _ _ _ _ _ 4 _)
 ·cases hg3 : (decide (w_ ≥ 1)) with
  | true =>
   refine Xe [(2,.bool false), (8,.bool (decide (w_ ≤ 16)))] ?_ 3
   refine Xp [(2,.bool false), (8,.bool (true && (decide (w_ ≤ 16))))] ?_
   exact midR () rfl rfl
  | false =>
   refine Xe [(2,.bool false), (8,.bool false)] ?_ 3
   refine Xp [(2,.bool false), (8,.bool (false && (decide (w_ ≤ 16))))] ?_
   exact midR () rfl rfl
 refine Xe [(2,.bool ((decide (w_ ≥ 1)) && (decide (w_ ≤ 16))))] ?_ 1
 refine Xv (Y0 (.bool ((decide (w_ ≥ 1)) && (decide (w_ ≤ 16)))) (fun w hs => ?_))
 exact ⟨(), rfl, hs⟩
set_option maxRecDepth 100000 in
theorem strOf_walk (H : List SP) (w_ : Int) : ∀ w, Sat w H → Calls Tryz.prog 150 #[vi w_] w (Ret (ι := Unit) (fun _ => vi (strd w_)) fun _ => H) := by
 refine enterG (fn := Tryz.f150) 8 [vi w_] Tryz.func150 (by kernel_rfl) (by kernel_rfl) (by kernel_rfl) ?_
 refine Xq (Xg 1 (Xe [(0,vi w_), (2,vi 0)] ?_ 1))
 refine Xq (Xq (Xg 3 (Xr [(0,vi w_), (2,vi 0), (3,vi w_)] ?_ 2 1)))
 refine Xs (Xa (some 4) (fun _ => .bool (isW w_)) (strIs_walk _ w_)) (fun _ => ?_) 1
 refine Xe [(0,vi w_), (2,vi 0), (5,.bool (!(isW w_)))] ?_ 1
 refine Xc (!(isW w_)) (fun h1 => ?_) (fun h1 => ?_)
 ·skip
  refine Xq (Xg 1 (Xe [(0,vi w_), (2,vi 0)] ?_ 1))
  refine Xv (thenV (Y0 (vi 0) (fun w hs => ?_)))
  exact ⟨(), by rw [strd, if_neg (by simpa using h1)], hs⟩
 ·skip
  refine Xk (Xq (Xg 3 (Xr [(2,vi 0), (6,vi w_)] ?_ 2 1)))
  have hw : isW w_ = true := by simpa using h1
  refine Xs (yldS (binY .quo 3 3 (.const (.int .i64 720720)) (.tmp 6) (.int .i64 720720) (.int .i64 w_) (.int .i64 (IntKind.i64.wrap ((720720 : Int).tdiv w_))) (some 7) (fun _ => by kernel_rfl) (by kernel_rfl) (by kernel_rfl) (fun _ => by kernel_rfl) (fun _ => by kernel_rfl) (quoR (t' := 0) (by have := isW_cases hw; omega)))) (fun _ => ?_) 1
  refine Xe [(2,vi (IntKind.i64.wrap ((720720 : Int).tdiv w_)))] ?_ 1
  refine Xv (Y0 (vi (IntKind.i64.wrap ((720720 : Int).tdiv w_))) (fun w hs => ?_))
  exact ⟨(), by rw [show IntKind.i64.wrap ((720720 : Int).tdiv w_) = strd w_ from ?_]; rw [strd, if_pos hw]; have h2 := strd_pos hw; rw [strd, if_pos hw] at h2; exact w64 (by omega) (by omega), hs⟩
set_option maxRecDepth 100000 in
theorem strNext_walk (H : List SP) (p w_ : Int) (hp : 0 ≤ p ∧ p ≤ 1099511627776) (hw : isW w_ = true) : ∀ w, Sat w H → Calls Tryz.prog 105 #[vi p, vi w_] w (Ret (ι := Unit) (fun _ => vi (p + strd w_)) fun _ => H) := by
 refine enterG (fn := Tryz.f105) 9 [vi p, vi w_] Tryz.func105 (by kernel_rfl) (by kernel_rfl) (by kernel_rfl) ?_
 refine Xq (Xg 1 (Xe [(0,vi p), (1,vi w_), (4,vi 0)] ?_ 1))
 refine Xq (Xg 5 (Xr [(4,vi 0), (5,vi p), (6,vi w_)] ?_ 3 2))
 refine Xs (Xa (some 7) (fun _ => vi (strd w_)) (strOf_walk _ w_)) (fun _ => ?_) 2
 refine Xe [(4,vi (IntKind.i64.wrap (p + (strd w_))))] ?_ 2
 refine Xv ?_
 have h2 := strd_pos hw
 refine Y0 (vi (IntKind.i64.wrap (p + (strd w_)))) (fun w hs => ?_)
 exact ⟨(), by rw [w64 (by omega) (by omega)], hs⟩
set_option maxRecDepth 100000 in
theorem pair_walk (H : List SP) (a b : Int) : ∀ w, Sat w H → Calls Tryz.prog 142 #[vi a, vi b] w (Ret (ι := Unit) (fun _ => .complex .f64 (floatOfInt .f64 a) (floatOfInt .f64 b)) fun _ => H) := by
 refine enterG (fn := Tryz.f142) 10 [vi a, vi b] Tryz.func142 (by kernel_rfl) (by kernel_rfl) (by kernel_rfl) ?_
 refine Xq (Xg 1 (Xe [(0,vi a), (1,vi b), (4,.complex .f64 0 0)] ?_ 1))
 refine Xq (Xg 6 (Xe [(4,.complex .f64 (floatOfInt .f64 a) (floatOfInt .f64 b))] ?_ 6))
 refine Xv (Y0 (.complex .f64 (floatOfInt .f64 a) (floatOfInt .f64 b)) (fun w hs => ?_))
 exact ⟨(), rfl, hs⟩
set_option maxRecDepth 100000 in
theorem later_walk (H : List SP) (a b : Int) (ha : a.natAbs < 2 ^ 53) (hb : b.natAbs < 2 ^ 53) : ∀ w, Sat w H → Calls Tryz.prog 141 #[.complex .f64 (floatOfInt .f64 a) (floatOfInt .f64 b)] w (Ret (ι := Unit) (fun _ => vi (mxI a b)) fun _ => H) := by
 refine enterG (fn := Tryz.f141) 9 [.complex .f64 (floatOfInt .f64 a) (floatOfInt .f64 b)] Tryz.func141 (by kernel_rfl) (by kernel_rfl) (by kernel_rfl) ?_
 refine Xq (Xg 1 (Xe [(0,.complex .f64 (floatOfInt .f64 a) (floatOfInt .f64 b)), (2,vi 0)] ?_ 1))
 refine Xq (Xg 7 (Xr [(2,vi 0), (4,.float .f64 (floatOfInt .f64 a)), (6,.float .f64 (floatOfInt .f64 b))] ?_ 3 4))
 refine Xs (yldS (bltY .max (.tmp 4) (.tmp 6) #[241, 241] (.float .f64 (floatOfInt .f64 a)) (.float .f64 (floatOfInt .f64 b)) (.float .f64 (floatOfInt .f64 (mxI a b))) (some 7) (fun _ => by kernel_rfl) (by kernel_rfl) (by kernel_rfl) (fun _ => by kernel_rfl) (fun _ => by kernel_rfl) (max_flt (by omega) (by omega)))) (fun _ => ?_) 2
 refine Xs (yldS (cvtY 241 3 (.tmp 7) (.float .f64 (floatOfInt .f64 (mxI a b))) (.int .i64 (mxI a b)) (some 8) (fun _ => by kernel_rfl) (by kernel_rfl) (by kernel_rfl) (fun _ => by kernel_rfl) (cvt_int (by unfold mxI; split <;> omega)))) (fun _ => ?_) 1
 refine Xe [(2,vi (mxI a b))] ?_ 1
 refine Xv (Y0 (vi (mxI a b)) (fun w hs => ?_))
 exact ⟨(), rfl, hs⟩
set_option maxRecDepth 100000 in
theorem scale_walk (H : List SP) (p n f t : Int) (hp : 0 ≤ p ∧ p ≤ 1099511627776) (hn : 0 ≤ n ∧ n ≤ 1099511627776) (hf : isW f = true) (ht : isW t = true) : ∀ w, Sat w H → Calls Tryz.prog 210 #[vi p, vi n, vi f, vi t] w (Ret (ι := Unit) (fun _ => vi (scaleN p n f t)) fun _ => H) := by
 refine enterG (fn := Tryz.f210) 29 [vi p, vi n, vi f, vi t] Tryz.func210 (by kernel_rfl) (by kernel_rfl) (by kernel_rfl) ?_
 refine Xq (Xg 1 (Xe [(0,vi p), (1,vi n), (2,vi f), (3,vi t), (8,vi 0)] ?_ 1))
 refine Xq (Xq (Xg 8 (Xr [(0,vi p), (1,vi n), (2,vi f), (3,vi t), (8,vi 0), (12,.bool (decide (p ≤ n)))] ?_ 4 4)))
 refine (Xs0 0 4 [(0,vi p), (1,vi n), (2,vi f), (3,vi t), (8,vi 0), (16,.bool ((decide (p ≤ n)) || ((strd f) == 0)))] ?_ ?_ : RT _ _ _ _ _ _ 4 _)
 ·cases hg4 : (decide (p ≤ n)) with
  | true =>
   refine Xe [(0,vi p), (1,vi n), (2,vi f), (3,vi t), (8,vi 0), (16,.bool true)] ?_ 4
   refine Xp [(0,vi p), (1,vi n), (2,vi f), (3,vi t), (8,vi 0), (16,.bool (true || ((strd f) == 0)))] ?_
   exact midR () rfl rfl
  | false =>
   refine Xr [(0,vi p), (1,vi n), (2,vi f), (3,vi t), (8,vi 0), (12,.bool false), (13,vi f)] ?_ 3 1
   refine Xs (Xa (some 14) (fun _ => vi (strd f)) (strOf_walk _ f)) (fun _ => ?_) 2
   refine Xe [(0,vi p), (1,vi n), (2,vi f), (3,vi t), (8,vi 0), (16,.bool ((strd f) == 0))] ?_ 2
   refine Xp [(0,vi p), (1,vi n), (2,vi f), (3,vi t), (8,vi 0), (16,.bool (false || ((strd f) == 0)))] ?_
   exact midR () rfl rfl
 refine endR ?_
 refine Xc ((decide (p ≤ n)) || ((strd f) == 0)) (fun h1 => ?_) (fun h1 => ?_)
 ·skip
  refine Xq (Xg 2 (Xe [(0,vi p), (1,vi n), (2,vi f), (3,vi t), (8,vi p)] ?_ 2))
  refine Xv (thenV (Y0 (vi p) (fun w hs => ?_)))
  exact ⟨(), by rw [scaleN, if_pos (by simpa using h1)], hs⟩
 ·skip
  refine Xk (Xq (Xg 12 (Xr [(2,vi f), (8,vi 0), (18,vi n), (21,vi (IntKind.i64.wrap (p - n))), (22,vi t)] ?_ 7 5)))
  refine Xs (Xa (some 23) (fun _ => vi (strd t)) (strOf_walk _ t)) (fun _ => ?_) 6
  refine Xr [(8,vi 0), (18,vi n), (24,vi (IntKind.i64.wrap ((IntKind.i64.wrap (p - n)) * (strd t)))), (25,vi f)] ?_ 4 2
  refine Xs (Xa (some 26) (fun _ => vi (strd f)) (strOf_walk _ f)) (fun _ => ?_) 3
  have h2 : ¬ (p ≤ n ∨ strd f = 0) := by simpa using h1
  have hsf := strd_pos hf
  have hst := strd_pos ht
  have hm : 0 ≤ (p - n) * strd t ∧ (p - n) * strd t ≤ 1099511627776 * 720720 := ⟨Int.mul_nonneg (by omega) (by omega), Int.le_trans (Int.mul_le_mul_of_nonneg_right (c := strd t) (show p - n ≤ 1099511627776 by omega) (by omega)) (Int.mul_le_mul_of_nonneg_left hst.2 (by omega))⟩
  have hd := tdiv_le hm.1 hsf.1
  rw [show IntKind.i64.wrap (p - n) = (p - n) by rw [w64 (by omega) (by omega)]]
  rw [show IntKind.i64.wrap ((p - n) * (strd t)) = ((p - n) * strd t) by rw [w64 (by omega) (by omega)]]
  refine Xs (yldS (binY .quo 3 3 (.tmp 24) (.tmp 26) (.int .i64 ((p - n) * strd t)) (.int .i64 (strd f)) (.int .i64 (IntKind.i64.wrap (((p - n) * strd t : Int).tdiv (strd f)))) (some 27) (fun _ => by kernel_rfl) (by kernel_rfl) (by kernel_rfl) (fun _ => by kernel_rfl) (fun _ => by kernel_rfl) (quoR (t' := 0) (by omega)))) (fun _ => ?_) 2
  refine Xe [(8,vi (IntKind.i64.wrap (n + (IntKind.i64.wrap (((p - n) * strd t : Int).tdiv (strd f))))))] ?_ 2
  refine Xv (Y0 (vi (IntKind.i64.wrap (n + (IntKind.i64.wrap (((p - n) * strd t : Int).tdiv (strd f)))))) (fun w hs => ?_))
  exact ⟨(), by rw [scaleN, if_neg h2, w64 (n := ((p - n) * strd t).tdiv (strd f)) (by omega) (by omega), w64 (by omega) (by omega)], hs⟩
end Go.Proofs.YtfhkgohokbkgiaaGreatDoor
set_option linter.unusedVariables false
set_option linter.unusedSimpArgs false
namespace Go.Proofs.YtfhkgohokbkgiaaGreatDoor
open Go.RowKit G
def rootN : Nr := ⟨0, -1, 1, 0, false, false, 0⟩
def rootT (b ib : Nat) : Nd := ⟨rootN, [], b, ib⟩
set_option maxRecDepth 100000 in
theorem tnew_walk (H : List SP) : ∀ w, Sat w H → Calls Tryz.prog 77 #[] w (Ret (ι := Nat × Nat × Nat × Nat) (fun x => .pointer (some ⟨x.1, 0, none⟩)) fun x => blk x.1 210 [.map (some x.2.1)] :: mapS x.2.1 ([rootT x.2.2.1 x.2.2.2].map kp) :: (nodesL [rootT x.2.2.1 x.2.2.2] ++ H)) := by
 refine enterG (fn := Tryz.f77) 11 [] Tryz.func77 (by kernel_rfl) (by kernel_rfl) (by kernel_rfl) ?_
 refine Xq (Xg 1 (Xe [(0,.pointer none)] ?_ 1))
 refine Xq (Xg 5 (Xr [(0,.pointer none), (2,.agg #[vi 0, vi (-1), vi 1, vi 0, .bool false, .bool false])] ?_ 4 1))
 refine Xs (Xa (some 3) (fun (ib : Nat) => vp ib) (new_walk _ 60)) (fun (ib : Nat) => ?_) 3
 refine Xr [(0,.pointer none), (4,.agg #[vi 0, vi (-1), vi 1, vi 0, .bool false, .bool false, vi 0, vp ib])] ?_ 2 1
 refine Xs (Xn 213 [vi 0, vi (-1), vi 1, vi 0, .bool false, .bool false, vi 0, vp ib] (some 5) (fun b => vp b)) (fun b1 => ?_) 1
 refine Xe [(0,.pointer none), (1,vp b1)] ?_ 1
 refine Xq (Xg 7 (Xs (newMapS (some 6) (fun b => .map (some b)) (fun _ _ => by kernel_rfl)) (fun b2 => ?_) 6))
 refine Xr [(6,.map (some b2)), (0,.pointer none), (7,vp b1)] ?_ 5 1
 refine Xs (updS 207 (.tmp 6) (.const (.int .i64 0)) (.tmp 7) b2 0 [] (.pointer (some ⟨b1, 0, none⟩)) 3 208 (fun _ => by kernel_rfl) (by kernel_rfl) (.inr (by kernel_rfl)) (fun _ => by kernel_rfl) (fun _ => by kernel_rfl) (fun _ => by kernel_rfl) Tryz.underlying207 (by kernel_rfl) (rfl)) (fun _ => ?_) 4
 refine Xr [(0,.pointer none), (9,.agg #[.map (some b2)])] ?_ 2 2
 refine Xs (Xn 210 [.map (some b2)] (some 10) (fun b => vp b)) (fun b3 => ?_) 1
 refine Xe [(0,vp b3)] ?_ 1
 refine Xv (Y0 (vp b3) (fun w hs => ?_))
 exact ⟨(b3, b2, b1, ib), rfl, hs⟩
theorem deepN_rk {N : List Nr} (h : SK N) {rk : Int → Nat} (hr : ∀ x ∈ N, (x.id = 0 → rk x.id = 1) ∧ (x.id ≠ 0 → rk x.id = rk x.par + 1) ∧ rk x.id ≤ 5 ∧ (x.thr = false → rk x.id ≤ 4)) :
  ∀ (f : Nat) (x : Nr), x ∈ N → rk x.id ≤ f → deepN f N x.id = rk x.id
 | 0, x, hx, hf => by
  by_cases c : x.id = 0
  ·have := (hr x hx).1 c; omega
  ·have := (hr x hx).2.1 c; omega
 | f + 1, x, hx, hf => by
  rw [deepN, gt_of h.nd hx]
  simp only
  by_cases c : x.id = 0
  ·rw [(hr x hx).1 c, (h.rt x hx c).1]
   have : gt N (-1) = none := gt_none.2 fun y hy e => by
    by_cases c2 : y.id = 0
    ·omega
    ·have := (h.pa y hy c2).1; omega
   cases f with
   | zero => rfl
   | succ f => rw [deepN, this]
  ·obtain ⟨_, p, hp, hpi, _⟩ := h.pa x hx c
   have h1 := (hr x hx).2.1 c
   rw [← hpi, deepN_rk h hr f p hp (by rw [hpi]; omega), h1, hpi]
theorem SK.neg {N : List Nr} (h : SK N) {k : Int} (hk : k < 0) : gt N k = none := gt_none.2 fun y hy e => by
 by_cases c2 : y.id = 0
 ·omega
 ·have := (h.pa y hy c2).1; omega
set_option maxRecDepth 100000 in
theorem deep_walk {N : List Nr} {T : List Nd} (hT : OkT N T) (hsk : SK N) (H : List SP) (t mb : Nat) (k0 : Int) : ∀ w, Sat w (blk t 210 [.map (some mb)] :: mapS mb (T.map kp) :: (nodesL T ++ H)) → Calls Tryz.prog 199 #[vp t, vi k0] w (Ret (ι := Unit) (fun _ => vi (deepN 6 N k0 : Int)) fun _ => blk t 210 [.map (some mb)] :: mapS mb (T.map kp) :: (nodesL T ++ H)) := by
 obtain ⟨rk, hrk⟩ := hsk.rk
 have hnd := hsk.nd
 refine enterG (fn := Tryz.f199) 27 [vp t, vi k0] Tryz.func199 (by kernel_rfl) (by kernel_rfl) (by kernel_rfl) ?_
 refine Xq (Xg 1 (Xe [(0,vp t), (1,vi k0), (4,vi 0)] ?_ 1))
 refine scopeG 0 (fun (x : Int × Nat) => [(0, vp t), (1, vi x.1), (5, vi (x.2 : Int))]) (fun _ => (blk t 210 [.map (some mb)] :: mapS mb (T.map kp) :: (nodesL T ++ H))) (fun k (x : Int × Nat) => k + x.2 = 6 ∧ deepN 6 N k0 = x.2 + deepN k N x.1 ∧ ∀ y ∈ N, y.id = x.1 → rk y.id + x.2 ≤ 5) (by kernel_rfl) (by kernel_rfl) (by kernel_rfl) (by kernel_rfl) ?_ ?_
 ·skip
  rintro k ⟨id, n⟩ ⟨hkn, hd, hb⟩ K hK
  simp only at hkn hd hb
  cases hg : gt N id with
  | none =>
   refine Xq (Xg 11 (Xl [(0,vp t), (1,vi id), (5,vi n), (12,.map (some mb)), (13,vi id)] [(⟨t, 0, none⟩, .map (some mb))] (hasC (ba 0) has0) ?_ 6 5))
   refine Xs (yldS (lookY 207 (.tmp 12) (.tmp 13) true mb id (T.map kp) (.pointer none) (.tuple #[.pointer none, .bool false]) 3 208 (some 14) (fun _ => by kernel_rfl) (by kernel_rfl) (by kernel_rfl) (fun _ => by kernel_rfl) (fun _ => by kernel_rfl) Tryz.underlying207 (by kernel_rfl) (fun _ => by kernel_rfl) (mapAt (H := (blk t 210 [.map (some mb)] :: mapS mb (T.map kp) :: (nodesL T ++ H))) (i := 1) rfl) (by rw [lk_none hT hg]; rfl))) (fun _ => ?_) 5
   refine Xe [(0,vp t), (1,vi id), (5,vi n), (6,.pointer none), (7,.bool false)] ?_ 5
   refine Xq (Xq (Xg 2 (Xe [(0,vp t), (1,vi id), (5,vi n), (6,.pointer none), (18,.bool true)] ?_ 2)))
   refine Xc true (fun _ => ?_) (fun h => by cases h)
   refine Xq (Xg 2 (Xe [(0,vp t), (1,vi id), (5,vi n), (6,.pointer none), (4,vi n)] ?_ 2))
   refine Xv (thenV (jumpV ?_))
   have hz : deepN k N id = 0 := by cases k <;> simp [deepN, hg]
   refine Y0 (vi n) (fun w hs => ?_)
   exact ⟨(), by rw [hd, hz]; rfl, hs⟩
  | some y =>
   obtain ⟨i, z, hi, hzn, hzk⟩ := hT.get hg
   have hy := gt_mem hg
   have hr1 := hrk y hy.1
   have hb1 := hb y hy.1 hy.2
   refine Xq (Xg 11 (Xl [(0,vp t), (1,vi id), (5,vi n), (12,.map (some mb)), (13,vi id)] [(⟨t, 0, none⟩, .map (some mb))] (hasC (ba 0) has0) ?_ 6 5))
   refine Xs (yldS (lookY 207 (.tmp 12) (.tmp 13) true mb id (T.map kp) (.pointer none) (.tuple #[.pointer (some ⟨z.b, 0, none⟩), .bool true]) 3 208 (some 14) (fun _ => by kernel_rfl) (by kernel_rfl) (by kernel_rfl) (fun _ => by kernel_rfl) (fun _ => by kernel_rfl) Tryz.underlying207 (by kernel_rfl) (fun _ => by kernel_rfl) (mapAt (H := (blk t 210 [.map (some mb)] :: mapS mb (T.map kp) :: (nodesL T ++ H))) (i := 1) rfl) (by rw [lk_some hT hnd hi hzk]; rfl))) (fun _ => ?_) 5
   refine Xe [(0,vp t), (1,vi id), (5,vi n), (6,.pointer (some ⟨z.b, 0, none⟩)), (7,.bool true)] ?_ 5
   refine Xq (Xq (Xg 2 (Xe [(0,vp t), (1,vi id), (5,vi n), (6,.pointer (some ⟨z.b, 0, none⟩)), (18,.bool false)] ?_ 2)))
   refine Xc false (fun h => by cases h) (fun _ => ?_)
   refine Xk (Xq (Xg 3 (Xe [(0,vp t), (1,vi id), (5,vi (IntKind.i64.wrap ((n : Int) + 1))), (6,.pointer (some ⟨z.b, 0, none⟩))] ?_ 3)))
   refine Xq (Xg 6 (Xm [(0,vp t), (1,vi z.n.par), (5,vi (IntKind.i64.wrap ((n : Int) + 1)))] [(⟨z.b, 1, none⟩, vi z.n.par)] (hasC (up (up (nodeAt (T := T) (List.mem_of_getElem? hi) (j := 1) rfl))) has0) ?_ 6))
   refine gotoR 0 (by kernel_rfl) (by kernel_rfl) ?_
   obtain ⟨k, rfl⟩ : ∃ k', k = k' + 1 := ⟨k - 1, by omega⟩
   have hd2 : deepN (k + 1) N id = deepN k N z.n.par + 1 := by rw [deepN, hg, hzn]
   rw [show IntKind.i64.wrap ((n : Int) + 1) = ((n + 1 : Nat) : Int) by rw [w64 (by omega) (by omega)]; rfl]
   refine Xp [(0,vp t), (1,vi z.n.par), (5,vi ((n + 1 : Nat) : Int))] ?_
   exact jumpR (hK k (z.n.par, n + 1) (by omega) ⟨by simp only; omega, by simp only; rw [hd, hd2]; omega, fun p hp hpi => by simp only at hpi ⊢; rw [hzn] at hpi; by_cases c : y.id = 0; (have := (hsk.rt y hy.1 c).1; have h3 : gt N p.id = none := hsk.neg (by omega); rw [gt_of hnd hp] at h3; cases h3); (have := hr1.2.1 c; rw [hpi]; omega)⟩)
 ·skip
  intro K hK
  refine Xq (Xg 1 (Xe [(0,vp t), (1,vi k0), (4,vi 0), (5,vi 0)] ?_ 1))
  refine Xq ?_
  refine labelR (by kernel_rfl) ?_
  refine Xp [(0,vp t), (1,vi k0), (5,vi 0)] ?_
  refine codeR (by kernel_rfl) (hK 6 (k0, 0) ⟨rfl, by simp, fun y hy _ => by have := (hrk y hy).2.2.1; simpa using this⟩)
def ndV (x : Nr) : Value := .agg #[.int .i64 x.id, .int .i64 x.par, .int .i64 x.wt, .int .i64 x.pass, .bool x.thr, .bool x.rdy]
def zeroN : Nr := ⟨0, 0, 0, 0, false, false, 0⟩
set_option maxRecDepth 100000 in
theorem node_walk {N : List Nr} {T : List Nd} (hT : OkT N T) (hnd : (N.map (·.id)).Nodup) (H : List SP) (t mb : Nat) (id : Int) : ∀ w, Sat w (blk t 210 [.map (some mb)] :: mapS mb (T.map kp) :: (nodesL T ++ H)) → Calls Tryz.prog 58 #[vp t, vi id] w (Ret (ι := Unit) (fun _ => .tuple #[ndV ((gt N id).getD zeroN), .bool (gt N id).isSome]) fun _ => blk t 210 [.map (some mb)] :: mapS mb (T.map kp) :: (nodesL T ++ H)) := by
 refine enterG (fn := Tryz.f58) 24 [vp t, vi id] Tryz.func58 (by kernel_rfl) (by kernel_rfl) (by kernel_rfl) ?_
 cases hg : gt N id with
 | none =>
  refine Xq (Xg 2 (Xs (Xn 147 [vi 0, vi 0, vi 0, vi 0, .bool false, .bool false] (some 4) (fun b => vp b)) (fun b1 => ?_) 1))
  refine Xe [(4,vp b1), (0,vp t), (1,vi id), (5,.bool false)] ?_ 1
  refine Xq (Xg 11 (Xl [(4,vp b1), (5,.bool false), (12,.map (some mb)), (13,vi id)] [(⟨t, 0, none⟩, .map (some mb))] (hasC (ba 1) has0) ?_ 6 5))
  refine Xs (yldS (lookY 207 (.tmp 12) (.tmp 13) true mb id (T.map kp) (.pointer none) (.tuple #[.pointer none, .bool false]) 3 208 (some 14) (fun _ => by kernel_rfl) (by kernel_rfl) (by kernel_rfl) (fun _ => by kernel_rfl) (fun _ => by kernel_rfl) Tryz.underlying207 (by kernel_rfl) (fun _ => by kernel_rfl) (mapAt (H := (blk b1 147 [.int .i64 0, .int .i64 0, .int .i64 0, .int .i64 0, .bool false, .bool false] :: blk t 210 [.map (some mb)] :: mapS mb (T.map kp) :: (nodesL T ++ H))) (i := 2) rfl) (by rw [lk_none hT hg]; rfl))) (fun _ => ?_) 5
  refine Xe [(4,vp b1), (5,.bool false), (6,.pointer none), (7,.bool false)] ?_ 5
  refine Xq (Xq (Xg 2 (Xe [(4,vp b1), (5,.bool false), (6,.pointer none), (18,.bool true)] ?_ 2)))
  refine Xc true (fun _ => ?_) (fun h => by cases h)
  refine Xq (Xg 3 (Xr [(4,vp b1), (5,.bool false), (6,.pointer none), (19,.agg #[vi 0, vi 0, vi 0, vi 0, .bool false, .bool false])] ?_ 2 1))
  refine Xs (Xz [(0,vi 0), (1,vi 0), (2,vi 0), (3,vi 0), (4,.bool false), (5,.bool false)]) (fun _ => ?_) 1
  refine Xe [(4,vp b1), (5,.bool false), (6,.pointer none)] ?_ 1
  refine Xv (thenV ?_)
  refine doneG (.tuple #[.agg #[.int .i64 0, .int .i64 0, .int .i64 0, .int .i64 0, .bool false, .bool false], .bool false]) [(⟨b1, 0, none⟩, .int .i64 0), (⟨b1, 1, none⟩, .int .i64 0), (⟨b1, 2, none⟩, .int .i64 0), (⟨b1, 3, none⟩, .int .i64 0), (⟨b1, 4, none⟩, .bool false), (⟨b1, 5, none⟩, .bool false)] (hasC (blkAt (T := 147) (cs := [.int .i64 0, .int .i64 0, .int .i64 0, .int .i64 0, .bool false, .bool false]) 0 rfl rfl) (hasC (blkAt (T := 147) (cs := [.int .i64 0, .int .i64 0, .int .i64 0, .int .i64 0, .bool false, .bool false]) 0 rfl rfl) (hasC (blkAt (T := 147) (cs := [.int .i64 0, .int .i64 0, .int .i64 0, .int .i64 0, .bool false, .bool false]) 0 rfl rfl) (hasC (blkAt (T := 147) (cs := [.int .i64 0, .int .i64 0, .int .i64 0, .int .i64 0, .bool false, .bool false]) 0 rfl rfl) (hasC (blkAt (T := 147) (cs := [.int .i64 0, .int .i64 0, .int .i64 0, .int .i64 0, .bool false, .bool false]) 0 rfl rfl) (hasC (blkAt (T := 147) (cs := [.int .i64 0, .int .i64 0, .int .i64 0, .int .i64 0, .bool false, .bool false]) 0 rfl rfl) has0)))))) (fun _ => by kernel_rfl) (fun w hs => ?_) .ret (.inr rfl)
  exact ⟨(), rfl, hs.tail⟩
 | some y =>
  obtain ⟨i, z, hi, hzn, hzk⟩ := hT.get hg
  refine Xq (Xg 2 (Xs (Xn 147 [vi 0, vi 0, vi 0, vi 0, .bool false, .bool false] (some 4) (fun b => vp b)) (fun b1 => ?_) 1))
  refine Xe [(4,vp b1), (0,vp t), (1,vi id), (5,.bool false)] ?_ 1
  refine Xq (Xg 11 (Xl [(4,vp b1), (5,.bool false), (12,.map (some mb)), (13,vi id)] [(⟨t, 0, none⟩, .map (some mb))] (hasC (ba 1) has0) ?_ 6 5))
  refine Xs (yldS (lookY 207 (.tmp 12) (.tmp 13) true mb id (T.map kp) (.pointer none) (.tuple #[.pointer (some ⟨z.b, 0, none⟩), .bool true]) 3 208 (some 14) (fun _ => by kernel_rfl) (by kernel_rfl) (by kernel_rfl) (fun _ => by kernel_rfl) (fun _ => by kernel_rfl) Tryz.underlying207 (by kernel_rfl) (fun _ => by kernel_rfl) (mapAt (H := (blk b1 147 [.int .i64 0, .int .i64 0, .int .i64 0, .int .i64 0, .bool false, .bool false] :: blk t 210 [.map (some mb)] :: mapS mb (T.map kp) :: (nodesL T ++ H))) (i := 2) rfl) (by rw [lk_some hT hnd hi hzk]; rfl))) (fun _ => ?_) 5
  refine Xe [(4,vp b1), (5,.bool false), (6,.pointer (some ⟨z.b, 0, none⟩)), (7,.bool true)] ?_ 5
  refine Xq (Xq (Xg 2 (Xe [(4,vp b1), (5,.bool false), (6,.pointer (some ⟨z.b, 0, none⟩)), (18,.bool false)] ?_ 2)))
  refine Xc false (fun h => by cases h) (fun _ => ?_)
  refine Xk (Xq (Xg 6 (Xl [(4,vp b1), (5,.bool false), (23,.agg #[vi z.n.id, vi z.n.par, vi z.n.wt, vi z.n.pass, .bool z.n.thr, .bool z.n.rdy])] [(⟨z.b, 0, none⟩, vi z.n.id), (⟨z.b, 1, none⟩, vi z.n.par), (⟨z.b, 2, none⟩, vi z.n.wt), (⟨z.b, 3, none⟩, vi z.n.pass), (⟨z.b, 4, none⟩, .bool z.n.thr), (⟨z.b, 5, none⟩, .bool z.n.rdy)] (hasC (up (up (up (nodeAt (T := T) (List.mem_of_getElem? hi) (j := 0) rfl)))) (hasC (up (up (up (nodeAt (T := T) (List.mem_of_getElem? hi) (j := 1) rfl)))) (hasC (up (up (up (nodeAt (T := T) (List.mem_of_getElem? hi) (j := 2) rfl)))) (hasC (up (up (up (nodeAt (T := T) (List.mem_of_getElem? hi) (j := 3) rfl)))) (hasC (up (up (up (nodeAt (T := T) (List.mem_of_getElem? hi) (j := 4) rfl)))) (hasC (up (up (up (nodeAt (T := T) (List.mem_of_getElem? hi) (j := 5) rfl)))) has0)))))) ?_ 2 4)))
  refine Xs (Xz [(0,vi z.n.id), (1,vi z.n.par), (2,vi z.n.wt), (3,vi z.n.pass), (4,.bool z.n.thr), (5,.bool z.n.rdy)]) (fun _ => ?_) 1
  refine Xe [(4,vp b1), (5,.bool true)] ?_ 1
  refine Xv ?_
  subst hzn
  refine doneG (.tuple #[.agg #[.int .i64 z.n.id, .int .i64 z.n.par, .int .i64 z.n.wt, .int .i64 z.n.pass, .bool z.n.thr, .bool z.n.rdy], .bool true]) [(⟨b1, 0, none⟩, .int .i64 z.n.id), (⟨b1, 1, none⟩, .int .i64 z.n.par), (⟨b1, 2, none⟩, .int .i64 z.n.wt), (⟨b1, 3, none⟩, .int .i64 z.n.pass), (⟨b1, 4, none⟩, .bool z.n.thr), (⟨b1, 5, none⟩, .bool z.n.rdy)] (hasC (blkAt (T := 147) (cs := [.int .i64 z.n.id, .int .i64 z.n.par, .int .i64 z.n.wt, .int .i64 z.n.pass, .bool z.n.thr, .bool z.n.rdy]) 0 rfl rfl) (hasC (blkAt (T := 147) (cs := [.int .i64 z.n.id, .int .i64 z.n.par, .int .i64 z.n.wt, .int .i64 z.n.pass, .bool z.n.thr, .bool z.n.rdy]) 0 rfl rfl) (hasC (blkAt (T := 147) (cs := [.int .i64 z.n.id, .int .i64 z.n.par, .int .i64 z.n.wt, .int .i64 z.n.pass, .bool z.n.thr, .bool z.n.rdy]) 0 rfl rfl) (hasC (blkAt (T := 147) (cs := [.int .i64 z.n.id, .int .i64 z.n.par, .int .i64 z.n.wt, .int .i64 z.n.pass, .bool z.n.thr, .bool z.n.rdy]) 0 rfl rfl) (hasC (blkAt (T := 147) (cs := [.int .i64 z.n.id, .int .i64 z.n.par, .int .i64 z.n.wt, .int .i64 z.n.pass, .bool z.n.thr, .bool z.n.rdy]) 0 rfl rfl) (hasC (blkAt (T := 147) (cs := [.int .i64 z.n.id, .int .i64 z.n.par, .int .i64 z.n.wt, .int .i64 z.n.pass, .bool z.n.thr, .bool z.n.rdy]) 0 rfl rfl) has0)))))) (fun _ => by kernel_rfl) (fun w hs => ?_) .ret (.inr rfl)
  exact ⟨(), rfl, hs.tail⟩
end Go.Proofs.YtfhkgohokbkgiaaGreatDoor
