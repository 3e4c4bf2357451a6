/- G: append to rows, rows and blocks. Conditions: none. -/
import Derived.Test.YtjbjngikaiggdaaGreatKc
set_option linter.unusedVariables false
set_option linter.unusedSimpArgs false
namespace Go.Proofs.YtjbjngikaiggdaaGreat
open Go.RowKit G
namespace G
section
variable {α : Type} {E : Enc α} {T : TypeId} {H : List SP} {P : Program} {n : Nat} {L : List (Nat × Value)} {c : Code}
theorem Row.uniq {w : World} {F F' : Nat → Prop} {v : Value} {xs : List α} (h : Row E T w F v xs) (h' : Row E T w F' v xs) : F = F' := by
  rcases h with ⟨h1, _, rfl⟩ | ⟨b, o, c, cur, h1, rfl, _⟩ <;> rcases h' with ⟨g1, _, rfl⟩ | ⟨b', o', c', cur', g1, rfl, _⟩
  · rfl
  · rw [h1] at g1; cases g1
  · rw [h1] at g1; cases g1
  · rw [h1] at g1; injection g1 with e1; injection e1 with e2; injection e2 with e3; rw [e3]
theorem row_form {w : World} {F : Nat → Prop} {v : Value} {xs : List α} (h : Row E T w F v xs) : ∃ A c, v = .slice A xs.length c := by
  rcases h with ⟨h1, h2, _⟩ | ⟨b, o, c, cur, h1, _⟩
  · exact ⟨none, 0, by rw [h1, h2]; rfl⟩
  · exact ⟨_, _, h1⟩
theorem rowKR {A : Option Addr} {k : Nat} {xs : List α} : KR (row E T (.slice A xs.length k) xs :: H) E ⟨A, k, xs⟩ := by
  intro w hs
  obtain ⟨G, hG⟩ := hs.head
  exact hG.rd
theorem rowKRat (i : Nat) {A : Option Addr} {k : Nat} {xs : List α} (hi : H[i]? = some (row E T (.slice A xs.length k) xs)) : KR H E ⟨A, k, xs⟩ := fun w hs => rowKR w (hs.pick i hi)
theorem Sat.rowNil {w : World} (h : Sat w H) : Sat w (row E T (.slice none 0 0) [] :: H) := h.fresh (Upd.refl _ w) (Row.nil E T w) (fun b hb => hb.elim)
theorem PT.rowNil (E : Enc α) (T : TypeId) {Φ : Act → World → Prop} (h : PT n L (row E T (.slice none 0 0) [] :: H) Φ) : PT n L H Φ := PT.sat (fun w hs => Sat.rowNil hs) h
theorem Sat.blkRow {w : World} {b : Nat} {x : α} (h : Sat w (blk b T (E.enc x) :: H)) : Sat w (row E T (.slice (some ⟨b, 0, none⟩) 1 1) [x] :: H) :=
  Sat.change h fun G hG => by
    refine ⟨Upd.refl _ w, OneB b, .inr ⟨b, 0, 1, _, rfl, rfl, hG.1, by simp, by simp [maxLen], by simp [E.len], ?_⟩, fun x hx => .inl ((hG.2 x).2 hx)⟩
    simp only [List.drop_zero, List.length_singleton, Nat.one_mul, Enc.flat_one]
    rw [← E.len x]; exact List.take_length
theorem PT.blkRow {b : Nat} {x : α} {Φ : Act → World → Prop} (h : PT n L (row E T (.slice (some ⟨b, 0, none⟩) 1 1) [x] :: H) Φ) : PT n L (blk b T (E.enc x) :: H) Φ := PT.sat (fun w hs => Sat.blkRow hs) h
theorem blkRd (i : Nat) {b : Nat} {x : α} (hi : H[i]? = some (blk b T (E.enc x))) : ∀ w, Sat w H → Rd E w (.slice (some ⟨b, 0, none⟩) 1 1) [x] := by
  intro w hs
  obtain ⟨G, hG⟩ := (hs.pick i hi).head
  exact Rd.one hG.1
theorem Ety.of {z : Value} {b : Nat} (hi : (P.info? T).map (fun i => (i.zero, i.size, i.bytes)) = some (some z, E.k, b)) (hb : b ≤ 65536) (hz : z.cells.size = E.k) : Ety P E T z := by
  cases h : P.info? T with
  | none => rw [h] at hi; cases hi
  | some i =>
    rw [h] at hi
    simp only [Option.map_some, Option.some.injEq, Prod.mk.injEq] at hi
    exact ⟨⟨i, h, hi.1, hi.2.1, by rw [hi.2.2]; exact hb⟩, hz⟩
/-- A cell of an element of a row is stored. -/
theorem setS {i b o m k J j : Nat} {xs : List α} (x x' : α) (u : Value) (ad : Addr) (h : ∀ rest, storesOk P n c i L rest = some [(ad, u)]) (had : ad = ⟨b, o + J * E.k + j, none⟩) (hx : xs[J]? = some x) (he : E.enc x' = (E.enc x).set j u) (hj : j < E.k) :
    Step (ι := Unit) P n L (row E T (.slice (some ⟨b, o, none⟩) m k) xs :: H) c i none (fun _ => undef) (fun _ => row E T (.slice (some ⟨b, o, none⟩) m k) (xs.set J x') :: H) := by
  subst had
  refine skipS _ (fun rest => (storesOk_spec (h rest)).1) (storesOk_spec (h fun _ => undef)).2.1 ?_
  intro rest w _ hs
  obtain ⟨G, hG⟩ := hs.head
  have hme : m = xs.length := hG.lenEq
  subst hme
  refine ⟨_, writesL_run _ (storesOk_spec (h rest)).2.2 ?_, ?_⟩
  · intro q hq
    simp only [List.mem_singleton] at hq
    subst hq
    refine ⟨?_, hG.frozen rfl _⟩
    have hr : Rd E w _ xs := hG.rd
    obtain ⟨b', o', k', hv, _, _, hc⟩ := hr.at (i := J) (List.getElem?_eq_some_iff.1 hx).1
    cases hv
    have hjl : j < (E.enc x).length := by rw [E.len]; exact hj
    rw [hc J j x _ hx (List.getElem?_eq_getElem hjl)]
    rfl
  · refine Sat.change hs fun G' hG' => ?_
    have hu := Row.uniq hG' hG
    subst hu
    refine ⟨?_, G', Row.set hG' hx he hj, fun x hx => .inl hx⟩
    rcases hG' with ⟨hv, _, _⟩ | ⟨b', o', c', cur, hv, hF, _⟩
    · cases hv
    · cases hv
      exact Upd.setCell w _ _ (by rw [hF]; rfl)
theorem appS {z : Value} {i : Nat} (t : TypeId) (s x : Operand) (A : Option Addr) (cap : Nat) (xs ys : List α) (vy : Value) (d : Option Tmp)
    (hg : ∀ rest, goes n c i L rest = true) (hd : (opAt c i).dst = d) (hop : (opAt c i).op = .call { callee := .builtin .append, args := #[s, x], argTypes := #[t, t] })
    (hs : ∀ rest, evalL L rest s = .slice A xs.length cap) (hx : ∀ rest, evalL L rest x = vy)
    (ht : P.underlying t = some (.slice T)) (hE : Ety P E T z)
    (hy : ∀ w, Sat w (row E T (.slice A xs.length cap) xs :: H) → Rd E w vy ys) (hn : xs.length + ys.length ≤ 1073741824) :
    Step P n L (row E T (.slice A xs.length cap) xs :: H) c i d (fun p : Option Addr × Nat => .slice p.1 (xs ++ ys).length p.2) (fun p => row E T (.slice p.1 (xs ++ ys).length p.2) (xs ++ ys) :: H) := by
  refine valueS d _ _ hg hd ?_
  intro rest w _ hsat
  obtain ⟨G, hG⟩ := hsat.head
  obtain ⟨v', w', F', h1, h2, h3, h4, _⟩ := run_append_row (ty := (opAt c i).type) ht hE hG (hy w hsat) hn
  obtain ⟨A', k', rfl⟩ := row_form h2
  refine ⟨(A', k'), w', ?_, ?_⟩
  · rw [show execOp (evalL L rest) (opAt c i) = _ from rfl]
    unfold execOp
    simp only [hop, resolve, invoke, builtin, Sem.run_bind, Sem.run_pure, Result.andThen_ok, List.map_toArray, List.map_cons, List.map_nil, hs, hx, h1]
  · exact Sat.change hsat fun G' hG' => by
      have := Row.uniq hG' hG
      subst this
      exact ⟨h3, F', h2, h4⟩
end
theorem cvtY {P : Program} {n : Nat} {L : List (Nat × Value)} {c : Code} {S : World → Prop} {i : Nat} (src dst : TypeId) (x : Operand) (vx v : Value) (d : Option Tmp) (hg : ∀ rest, goes n c i L rest = true) (hd : (opAt c i).dst = d) (hop : (opAt c i).op = .convert src dst x)
    (hx : ∀ rest, evalL L rest x = vx) (hr : ∀ w, (convert src dst vx).run P w = .ok v w) : Yld P n L S c i d v := by
  refine ⟨hg, hd, fun rest w _ _ => ?_⟩
  unfold execOp
  simp only [hop, hx rest, Sem.run_bind, hr w, Result.andThen_ok]
  rfl
theorem quoR {P : Program} {t t' : TypeId} {x y : Operand} {k : IntKind} {a b : Int} (hb : b ≠ 0) (w : World) : (do eqGuard .quo t x y (.int k a) (.int k b); binOp .quo t (.int k a) (.int k b) : Sem Value).run P w = .ok (.int k (k.wrap (a.tdiv b))) w := by
  simp [eqGuard, binOp, Op.intDiv, hb, Sem.run_bind]
theorem remR {P : Program} {t t' : TypeId} {x y : Operand} {k : IntKind} {a b : Int} (hb : b ≠ 0) (w : World) : (do eqGuard .rem t x y (.int k a) (.int k b); binOp .rem t (.int k a) (.int k b) : Sem Value).run P w = .ok (.int k (a.tmod b)) w := by
  simp [eqGuard, binOp, Op.intDiv, hb, Sem.run_bind]
end G
end Go.Proofs.YtjbjngikaiggdaaGreat
