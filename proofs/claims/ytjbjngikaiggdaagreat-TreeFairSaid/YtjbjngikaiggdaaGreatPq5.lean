/- passq: All, Shift. Conditions: none. -/
import Derived.Test.YtjbjngikaiggdaaGreatSrt
set_option linter.unusedVariables false
set_option linter.unusedSimpArgs false
namespace Go.Proofs.YtjbjngikaiggdaaGreat
open Go.RowKit G
theorem Sat.blkRow0 {α : Type} {E : Enc α} {T : TypeId} {H : List SP} {w : World} {b : Nat} (h : Sat w (blk b T [] :: H)) : Sat w (row E T (.slice (some ⟨b, 0, none⟩) 0 0) ([] : List α) :: H) :=
  Sat.change h fun G hG => by
    refine ⟨Upd.refl _ w, OneB b, .inr ⟨b, 0, 0, _, rfl, rfl, hG.1, by simp, by simp [maxLen], by simp, ?_⟩, fun x hx => .inl ((hG.2 x).2 hx)⟩
    simp; rfl
theorem PT.blkRow0 {α : Type} {E : Enc α} {T : TypeId} {H : List SP} {n : Nat} {L : List (Nat × Value)} {b : Nat} {Φ : Act → World → Prop} (h : PT n L (row E T (.slice (some ⟨b, 0, none⟩) 0 0) ([] : List α) :: H) Φ) : PT n L (blk b T [] :: H) Φ := PT.sat (fun w hs => Sat.blkRow0 hs) h
theorem rowA {α : Type} {E : Enc α} {T : TypeId} {H : List SP} (i : Nat) {A : Option Addr} {k : Nat} {xs : List α} (hi : H[i]? = some (row E T (.slice A xs.length k) xs)) : ∀ w, Sat w H → (A = none ∧ xs = [] ∧ k = 0) ∨ ∃ b o, A = some ⟨b, o, none⟩ := by
  intro w hs
  obtain ⟨G, hG⟩ := (hs.pick i hi).head
  rcases hG with ⟨h1, h2, _⟩ | ⟨b, o, c, cur, h1, _⟩
  · injection h1 with e1 e2 e3; exact .inl ⟨e1, h2, e3⟩
  · injection h1 with e1 e2 e3; exact .inr ⟨b, o, e1⟩
theorem rowKRm {α : Type} {E : Enc α} {T : TypeId} {H : List SP} (i : Nat) {A : Option Addr} {m k : Nat} {xs : List α} (hi : H[i]? = some (row E T (.slice A m k) xs)) (hm : m = xs.length) : KR H E ⟨A, k, xs⟩ := by subst hm; exact rowKRat i hi
theorem ent_ety : Ety Tryz.prog slE 65 (.agg #[.int .i64 0, .int .i64 0]) := etySl
def shN (n : Int) : Int := mnI (mxI n 0) 1099511627776
def shiftE (l : List (Int × Int)) (n : Int) : List (Int × Int) := l.map fun e => (mxI 0 (IntKind.i64.wrap (e.1 - shN n)), e.2)
set_option maxHeartbeats 1000000 in
set_option maxRecDepth 100000 in
theorem shift_walk (H : List SP) (b : Nat) (A : Option Addr) (cap : Nat) (room : Int) (l : List (Int × Int)) (n : Int) (hl : l.length ≤ 64) (hsr : SrtE (shiftE l n)) : ∀ w, Sat w (blk b 81 [.slice A l.length cap, .int .i64 room] :: row slE 65 (.slice A l.length cap) l :: H) → Calls Tryz.prog 39 #[.pointer (some ⟨b, 0, none⟩), .int .i64 n] w (Ret (ι := Unit) (fun _ => .tuple #[]) fun _ => blk b 81 [.slice A (shiftE l n).length cap, .int .i64 room] :: row slE 65 (.slice A (shiftE l n).length cap) (shiftE l n) :: H) := by
  refine enterG (fn := Tryz.f39) 40 [.pointer (some ⟨b, 0, none⟩), .int .i64 n] Tryz.func39 (by kernel_rfl) (by kernel_rfl) (by kernel_rfl) ?_
  refine seqR (by kernel_rfl) ?_
  refine regionR 4 (by kernel_rfl) (by kernel_rfl) ?_
  refine (run0 (z := 0) 4 [0, 1] [(0, .pointer (some ⟨b, 0, none⟩)), (1, .int .i64 (mnI (mxI n 0) 1099511627776))] (fun _ => by kernel_rfl) (endR ?_) : RT _ _ _ _ _ _ 4 _)
  refine seqR (by kernel_rfl) ?_
  refine seqR (by kernel_rfl) ?_
  refine regionR 6 (by kernel_rfl) (by kernel_rfl) ?_
  refine (runR (H := (blk b 81 [.slice A l.length cap, .int .i64 room] :: row slE 65 (.slice A l.length cap) l :: H)) (z := 0) 6 [0, 1, 12, 13] [(0, .pointer (some ⟨b, 0, none⟩)), (1, .int .i64 (mnI (mxI n 0) 1099511627776)), (12, .int .i64 (l.length : Int)), (13, .int .i64 0)] [(⟨b, 0, none⟩, .slice A l.length cap)] (hasC (blkAt (T := 81) (cs := [.slice A l.length cap, .int .i64 room]) 0 rfl rfl) has0) (fun _ => by kernel_rfl) (endR ?_) : RT _ _ _ _ _ _ 6 _)
  refine blockR 0 (by kernel_rfl) (by kernel_rfl) ?_
  refine PT.keep (L' := [(0, .pointer (some ⟨b, 0, none⟩)), (1, .int .i64 (mnI (mxI n 0) 1099511627776)), (12, .int .i64 (l.length : Int)), (13, .int .i64 0)]) [0, 1, 12, 13] rfl ?_
  refine loopG (fun (x : List (Int × Int) × Nat) => [(0, .pointer (some ⟨b, 0, none⟩)), (1, .int .i64 (shN n)), (12, .int .i64 (l.length : Int)), (13, .int .i64 (x.2 : Int))]) (fun (x : List (Int × Int) × Nat) => (blk b 81 [.slice A l.length cap, .int .i64 room] :: row slE 65 (.slice A l.length cap) x.1 :: H)) (fun k (x : List (Int × Int) × Nat) => k + x.2 = l.length ∧ x.1 = (shiftE l n).take x.2 ++ l.drop x.2) l.length (l, 0) (by kernel_rfl) ⟨by simp, by simp⟩ ?_
  rintro k ⟨xs, u⟩ ⟨hku, hxs⟩
  dsimp only at hku hxs ⊢
  have hsl : (shiftE l n).length = l.length := by simp [shiftE]
  have hxl : xs.length = l.length := by rw [hxs, List.length_append, List.length_take, List.length_drop]; omega
  refine seqR (by kernel_rfl) ?_
  refine regionR 1 (by kernel_rfl) (by kernel_rfl) ?_
  refine (run0 (z := 0) 1 [0, 1, 12, 13, 14] [(0, .pointer (some ⟨b, 0, none⟩)), (1, .int .i64 (shN n)), (12, .int .i64 (l.length : Int)), (13, .int .i64 (u : Int)), (14, .bool (decide ((u : Int) < (l.length : Int))))] (fun _ => by kernel_rfl) (endR ?_) : RT _ _ _ _ _ _ 1 _)
  refine seqR (by kernel_rfl) ?_
  refine condR (b := decide ((u : Int) < (l.length : Int))) (by kernel_rfl) (fun _ => by kernel_rfl) (fun h1 => ?_) (fun h1 => ?_)
  · skip
    have hu : u < l.length := by have := of_decide_eq_true h1; omega
    obtain ⟨e, he⟩ : ∃ e, l[u]? = some e := ⟨_, by simp [hu]; rfl⟩
    have hxe : xs[u]? = some e := by rw [hxs, List.getElem?_append_right (by rw [List.length_take]; omega), List.length_take, List.getElem?_drop, hsl, show u + (u - min u l.length) = u by omega]; exact he
    have hse : (shiftE l n)[u]? = some (mxI 0 (IntKind.i64.wrap (e.1 - shN n)), e.2) := by rw [shiftE, List.getElem?_map, he]; rfl
    have hset : xs.set u (mxI 0 (IntKind.i64.wrap (e.1 - shN n)), e.2) = (shiftE l n).take (u + 1) ++ l.drop (u + 1) := by
      rw [hxs, List.set_append_right _ _ (by rw [List.length_take]; omega), List.length_take, hsl, show u - min u l.length = 0 by omega, List.take_add_one, hse, List.drop_eq_getElem_cons hu, List.set_cons_zero, List.append_assoc]
      rfl
    refine PT.know (KR.isSome (s := ⟨A, cap, xs⟩) (rowKRm 1 rfl hxl.symm) (List.ne_nil_of_length_pos (by show 0 < xs.length; omega))) ?_
    rintro ⟨sb, so, hA⟩
    dsimp only at hA
    subst hA
    refine skipR (by kernel_rfl) ?_
    refine seqR (by kernel_rfl) ?_
    refine blockR 1 (by kernel_rfl) (by kernel_rfl) ?_
    refine seqR (by kernel_rfl) ?_
    refine regionR 2 (by kernel_rfl) (by kernel_rfl) ?_
    refine (run0 (z := 0) 2 [0, 1, 12, 13, 4] [(0, .pointer (some ⟨b, 0, none⟩)), (1, .int .i64 (shN n)), (12, .int .i64 (l.length : Int)), (13, .int .i64 (u : Int)), (4, .int .i64 (u : Int))] (fun _ => by kernel_rfl) (endR ?_) : RT _ _ _ _ _ _ 2 _)
    refine drawR (fun w => Sat w (blk b 81 [.slice (some ⟨sb, so, none⟩) l.length cap, .int .i64 room] :: row slE 65 (.slice (some ⟨sb, so, none⟩) l.length cap) xs :: H)) [18] 19 (by kernel_rfl) (by kernel_rfl) (by kernel_rfl) (fun _ h => by first | exact h | exact h.tail | exact h.tail.tail | exact h.tail.tail.tail | exact h.tail.tail.tail.tail) ?_
    refine takesR [0, 1, 2, 3, 4, 5, 6, 7, 8, 9, 13] [0, 1, 12, 13, 19, 20, 24, 25, 29] 8 [true, true, true, true, true, true, true, true, true, true, false, false, false, true, false, false, false, false, false] [(0, .pointer (some ⟨b, 0, none⟩)), (1, .int .i64 (shN n)), (12, .int .i64 (l.length : Int)), (13, .int .i64 (u : Int)), (19, .slice (some ⟨sb, so, none⟩) l.length cap), (20, .int .i64 (u : Int)), (24, .slice (some ⟨sb, so, none⟩) l.length cap), (25, .int .i64 (u : Int)), (29, .int .i64 (shN n))] [(⟨b, 0, none⟩, .slice (some ⟨sb, so, none⟩) l.length cap), (⟨b, 0, none⟩, .slice (some ⟨sb, so, none⟩) l.length cap)] rfl (fun _ d _ _ _ h => by cases d <;> exact h) (fun _ h => by first | exact h | exact h.tail | exact h.tail.tail | exact h.tail.tail.tail | exact h.tail.tail.tail.tail) (hasC (blkAt (T := 81) (cs := [.slice (some ⟨sb, so, none⟩) l.length cap, .int .i64 room]) 0 rfl rfl) (hasC (blkAt (T := 81) (cs := [.slice (some ⟨sb, so, none⟩) l.length cap, .int .i64 room]) 0 rfl rfl) has0)) (fun _ => by kernel_rfl) ?_
    refine takeR1 10 7 [true, true, true, true, true, true, true, true, true, true, true, false, false, true, false, false, false, false, false] rfl rfl (by kernel_rfl) (fun _ d _ _ _ h => by cases d <;> exact h) (fun _ h => by first | exact h | exact h.tail | exact h.tail.tail | exact h.tail.tail.tail | exact h.tail.tail.tail.tail) (idxY 79 (.tmp 24) (.tmp 25) sb so l.length cap u 2 65 (u : Int) .i64 (some 26) (fun _ => by kernel_rfl) (by kernel_rfl) (by kernel_rfl) (fun _ => by kernel_rfl) (fun _ => by kernel_rfl) Tryz.underlying79 (by kernel_rfl) (by first | rfl | assumption | simp) (by first | omega | (simp; done) | (simp; omega) | (simp at *; omega))) ?_
    refine takesR [11, 12, 14, 15] [0, 1, 12, 13, 19, 20, 31] 3 [true, true, true, true, true, true, true, true, true, true, true, true, true, true, true, true, false, false, false] [(0, .pointer (some ⟨b, 0, none⟩)), (1, .int .i64 (shN n)), (12, .int .i64 (l.length : Int)), (13, .int .i64 (u : Int)), (19, .slice (some ⟨sb, so, none⟩) l.length cap), (20, .int .i64 (u : Int)), (31, .int .i64 (mxI 0 (IntKind.i64.wrap (e.1 - (shN n)))))] [(⟨sb, so + u * 2, none⟩, .int .i64 e.1)] rfl (fun _ d _ _ _ h => by cases d <;> exact h) (fun _ h => by first | exact h | exact h.tail | exact h.tail.tail | exact h.tail.tail.tail | exact h.tail.tail.tail.tail) (hasC ((rowKRm (xs := xs) (m := l.length) (A := some ⟨sb, so, none⟩) (k := cap) (E := slE) (T := 65) 1 rfl hxl.symm).cell rfl (i := u) (x := e) hxe (j := 0) rfl) has0) (fun _ => by kernel_rfl) ?_
    refine takeR1 16 2 [true, true, true, true, true, true, true, true, true, true, true, true, true, true, true, true, true, false, false] rfl rfl (by kernel_rfl) (fun _ d _ _ _ h => by cases d <;> exact h) (fun _ h => by first | exact h | exact h.tail | exact h.tail.tail | exact h.tail.tail.tail | exact h.tail.tail.tail.tail) (idxY 79 (.tmp 19) (.tmp 20) sb so l.length cap u 2 65 (u : Int) .i64 (some 32) (fun _ => by kernel_rfl) (by kernel_rfl) (by kernel_rfl) (fun _ => by kernel_rfl) (fun _ => by kernel_rfl) Tryz.underlying79 (by kernel_rfl) (by first | rfl | assumption | simp) (by first | omega | (simp; done) | (simp; omega) | (simp at *; omega))) ?_
    refine takesR [17] [0, 1, 12, 13, 31, 33] 1 [true, true, true, true, true, true, true, true, true, true, true, true, true, true, true, true, true, true, false] [(0, .pointer (some ⟨b, 0, none⟩)), (1, .int .i64 (shN n)), (12, .int .i64 (l.length : Int)), (13, .int .i64 (u : Int)), (31, .int .i64 (mxI 0 (IntKind.i64.wrap (e.1 - (shN n))))), (33, .pointer (some ⟨sb, so + u * 2, none⟩))] [] rfl (fun _ d _ _ _ h => by cases d <;> exact h) (fun _ h => by first | exact h | exact h.tail | exact h.tail.tail | exact h.tail.tail.tail | exact h.tail.tail.tail.tail) has0 (fun _ => by kernel_rfl) ?_
    refine DT.pick 1 rfl ?_
    refine oneR 18 0 [true, true, true, true, true, true, true, true, true, true, true, true, true, true, true, true, true, true, true] rfl rfl (by kernel_rfl) (setS (E := slE) (J := u) (j := 0) e (mxI 0 (IntKind.i64.wrap (e.1 - shN n)), e.2) (.int .i64 (mxI 0 (IntKind.i64.wrap (e.1 - (shN n))))) ⟨sb, so + u * 2, none⟩ (fun _ => by kernel_rfl) (by first | rfl | simp) (hxe) (rfl) (by decide)) (fun _ _ h hn => by first | exact h | exact h.tail | exact h.tail.tail | exact h.tail.tail.tail | exact h.tail.tail.tail.tail | exact absurd hn (by decide)) (fun _ => ?_)
    refine drawnR (by kernel_rfl) ?_
    refine regionR 2 (by kernel_rfl) (by kernel_rfl) ?_
    refine (run0 (z := 0) 2 [0, 1, 12, 13] [(0, .pointer (some ⟨b, 0, none⟩)), (1, .int .i64 (shN n)), (12, .int .i64 (l.length : Int)), (13, .int .i64 (IntKind.i64.wrap ((u : Int) + 1)))] (fun _ => by kernel_rfl) (endR ?_) : RT _ _ _ _ _ _ 2 _)
    rw [show IntKind.i64.wrap ((u : Int) + 1) = ((u + 1 : Nat) : Int) by rw [IntKind.wrap_i64]; omega]
    refine PT.pick 1 rfl ?_
    refine PT.keep (L' := [(0, .pointer (some ⟨b, 0, none⟩)), (1, .int .i64 (shN n)), (12, .int .i64 (l.length : Int)), (13, .int .i64 ((u + 1 : Nat) : Int))]) [0, 1, 12, 13] rfl ?_
    exact againG (k - 1) (xs.set u (mxI 0 (IntKind.i64.wrap (e.1 - shN n)), e.2), u + 1) rfl rfl (by omega) ⟨by simp only; omega, hset⟩
  · skip
    have hu : u = l.length := by have := of_decide_eq_false h1; omega
    have hfin : xs = shiftE l n := by rw [hxs, hu, List.drop_length, List.append_nil, List.take_of_length_le (by omega)]
    rw [hfin]
    refine exitR 0 (by kernel_rfl) (by kernel_rfl) ?_
    refine thenX ?_
    refine thenX ?_
    refine leaveR ?_
    refine regionR 5 (by kernel_rfl) (by kernel_rfl) ?_
    refine (runR (H := (blk b 81 [.slice A l.length cap, .int .i64 room] :: row slE 65 (.slice A l.length cap) (shiftE l n) :: H)) (z := 1) 4 [38] [(38, .slice A l.length cap)] [(⟨b, 0, none⟩, .slice A l.length cap)] (hasC (blkAt (T := 81) (cs := [.slice A l.length cap, .int .i64 room]) 0 rfl rfl) has0) (fun _ => by kernel_rfl) ?_ : RT _ _ _ _ _ _ 5 _)
    rw [← hsl]
    refine (stepR (z := 0) (callS 48 [.slice A ((shiftE l n).length) cap, .func (.func 49) #[] #[]] (some 39) (fun _ => .tuple #[]) (fun _ => (blk b 81 [.slice A ((shiftE l n).length) cap, .int .i64 room] :: row slE 65 (.slice A ((shiftE l n).length) cap) (shiftE l n) :: H)) (fun _ => by kernel_rfl) (sort_walk (blk b 81 [.slice A ((shiftE l n).length) cap, .int .i64 room] :: row slE 65 (.slice A ((shiftE l n).length) cap) (shiftE l n) :: H) ⟨A, cap, shiftE l n⟩ (rowKRat 1 rfl) hsr (by show (shiftE l n).length ≤ 64; omega))) (fun _ => ?_) : RT _ _ _ _ _ _ 1 _)
    refine endR ?_
    refine done0 (.tuple #[]) (fun _ => by kernel_rfl) (fun w hs => ?_) .normal (.inl rfl)
    exact ⟨(), rfl, hs⟩
theorem put_idx (H : List SP) (b : Nat) (room : Int) (l : List (Int × Int)) (p id : Int) (hsr : SrtE l) (hl : l.length < 1000000) : ∀ w, Sat w (idxS b room l :: H) → Calls Tryz.prog 34 #[.pointer (some ⟨b, 0, none⟩), .int .i64 p, .int .i64 id] w (Ret (ι := Unit) (fun _ => pqErr (putE room l p id).1) fun _ => idxS b room (putE room l p id).2 :: H) :=
  idx_open fun A cap w hs => (put_walk H b A cap room l p id hsr hl w hs).mono fun e w' ⟨x, he, hx⟩ => ⟨(), he, Sat.idx hx⟩
theorem drop_idx (H : List SP) (b : Nat) (room : Int) (l : List (Int × Int)) (id : Int) (hl : l.length < 1000000) : ∀ w, Sat w (idxS b room l :: H) → Calls Tryz.prog 36 #[.pointer (some ⟨b, 0, none⟩), .int .i64 id] w (Ret (ι := Unit) (fun _ => pqErr (dropE l id).1) fun _ => idxS b room (dropE l id).2 :: H) :=
  idx_open fun A cap w hs => (drop_walk H b A cap room l id hl w hs).mono fun e w' ⟨x, he, hx⟩ => ⟨(), he, Sat.idx hx⟩
theorem rekey_idx (H : List SP) (b : Nat) (room : Int) (l : List (Int × Int)) (id p : Int) (hsr : SrtE l) (hl : l.length < 1000000) : ∀ w, Sat w (idxS b room l :: H) → Calls Tryz.prog 38 #[.pointer (some ⟨b, 0, none⟩), .int .i64 id, .int .i64 p] w (Ret (ι := Unit) (fun _ => pqErr (rekeyE l id p).1) fun _ => idxS b room (rekeyE l id p).2 :: H) :=
  idx_open fun A cap w hs => (rekey_walk H b A cap room l id p hsr hl w hs).mono fun e w' ⟨x, he, hx⟩ => ⟨(), he, Sat.idx hx⟩
theorem shift_idx (H : List SP) (b : Nat) (room : Int) (l : List (Int × Int)) (n : Int) (hl : l.length ≤ 64) (hsr : SrtE (shiftE l n)) : ∀ w, Sat w (idxS b room l :: H) → Calls Tryz.prog 39 #[.pointer (some ⟨b, 0, none⟩), .int .i64 n] w (Ret (ι := Unit) (fun _ => .tuple #[]) fun _ => idxS b room (shiftE l n) :: H) :=
  idx_open fun A cap w hs => (shift_walk H b A cap room l n hl hsr w hs).mono fun e w' ⟨x, he, hx⟩ => ⟨(), he, Sat.idx hx⟩
end Go.Proofs.YtjbjngikaiggdaaGreat
