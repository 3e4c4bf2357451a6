/- The document's timers: walks of Set, Due, Next; SameInts. Conditions: none. -/
import Derived.Test.YtgkhnmeemiloaaaTimR
import Derived.Test.YtgkhnmeemiloaaaReg
import Derived.Deep.RegionHeld3
import Derived.BigRegion
set_option linter.unusedVariables false
set_option linter.unusedSimpArgs false
namespace Go.Proofs.Ytgkhnmeemiloaaa
open Go.RowKit

section
variable {α : Type} {E : Enc α} {T : TypeId} {w w' : World} {F G : Nat → Prop} {v y : Value} {xs ys : List α} {P : Program}
/-- append, as one step of a region that draws its order. -/
theorem step_append_row {o : Oper} {ops : Array Oper} {a : Act} {K : Act → World → Prop} {Q : Exit → Act → World → Prop} {Z : Prop} {s x : Operand} {t : TypeId} {z : Value}
    (hh : o.guard = none ∧ o.op = .call { callee := .builtin .append, args := #[s, x], argTypes := #[t, t] } ∧ a.eval s = v ∧ a.eval x = y) (ht : P.underlying t = some (.slice T)) (hE : Ety P E T z)
    (hrow : Row E T w F v xs) (hy : Rd E w y ys) (hn : xs.length + ys.length ≤ 1073741824)
    (h : ∀ v' w' F', Row E T w' F' v' (xs ++ ys) → Upd F w w' → (∀ b, F' b → F b ∨ w.heap.size ≤ b) → K (a.put o.dst v') w') : if Region.wanted o (yielded ops a.tmps) = true then Oper.wp P o a w K Q else Z := by
  obtain ⟨v', w', F', hr, h1, h2, h3, _⟩ := run_append_row (ty := o.type) ht hE hrow hy hn
  exact step_append_by hh.1 s x t t hh.2.1 hh.2.2.1 hh.2.2.2 hr (h v' w' F' h1 h2 h3)
/-- The same, of a row that is newer than the world w0. -/
theorem step_append_new (w0 : World) {o : Oper} {ops : Array Oper} {a : Act} {K : Act → World → Prop} {Q : Exit → Act → World → Prop} {Z : Prop} {s x : Operand} {t : TypeId} {z : Value}
    (hh : o.guard = none ∧ o.op = .call { callee := .builtin .append, args := #[s, x], argTypes := #[t, t] } ∧ a.eval s = v ∧ a.eval x = y) (ht : P.underlying t = some (.slice T)) (hE : Ety P E T z)
    (hrow : Row E T w F v xs) (hF : ∀ b, F b → w0.heap.size ≤ b) (hu : Upd NoB w0 w) (hy : Rd E w y ys) (hn : xs.length + ys.length ≤ 1073741824)
    (h : ∀ v' w' F', Row E T w' F' v' (xs ++ ys) → Upd NoB w0 w' → Upd F w w' → (∀ b, F' b → w0.heap.size ≤ b) → K (a.put o.dst v') w') : if Region.wanted o (yielded ops a.tmps) = true then Oper.wp P o a w K Q else Z :=
  step_append_row hh ht hE hrow hy hn fun v' w' F' h1 h2 h3 => h v' w' F' h1 (hu.then h2 (fun b hb hb' => by have := hF b hb'; omega)) h2 (fun b hb => (h3 b hb).elim (hF b) (fun h => Nat.le_trans hu.size h))
end
theorem takeWhile_at {α : Type} (p : α → Bool) : ∀ (l : List α) (k : Nat), (∀ i x, i < k → l[i]? = some x → p x = true) → k ≤ l.length → (∀ x, l[k]? = some x → p x = false) → l.takeWhile p = l.take k ∧ l.dropWhile p = l.drop k
  | [], k, _, hk, _ => by simp at hk; subst hk; simp
  | x :: l, 0, _, _, h => by have := h x (by simp); simp [this]
  | x :: l, k + 1, h1, hk, h2 => by
    have hx := h1 0 x (by omega) (by simp)
    obtain ⟨a, b⟩ := takeWhile_at p l k (fun i y hi hy => h1 (i + 1) y (by omega) (by simpa using hy)) (by simpa using hk) (fun y hy => h2 y (by simpa using hy))
    simp [hx, a, b]

/-- The head of a row, the tail of a row: what a cut shows. -/
theorem rd_take {α : Type} {E : Enc α} {T : TypeId} {w : World} {F : Nat → Prop} {ao : Option Addr} {n c : Nat} {xs : List α} (h : Row E T w F (.slice ao n c) xs) {k : Nat} (hk : k ≤ n) : Rd E w (.slice ao k c) (xs.take k) := by
  have hl := h.lenEq
  subst hl
  obtain ⟨ao', c', hv, h1, h2, h3, h4⟩ := h.rd
  cases hv
  have hl : (xs.take k).length = k := by simp; omega
  refine ⟨ao, c, by rw [hl], by rw [hl]; omega, h2, fun hn => ?_, fun a ha j u hu => ?_⟩
  · obtain ⟨rfl, hc⟩ := h3 hn; exact ⟨by simp, hc⟩
  · refine h4 a ha j u ?_
    rw [← Enc.flat_take, List.getElem?_take] at hu
    split at hu
    · exact hu
    · cases hu
theorem rd_drop {α : Type} {E : Enc α} {T : TypeId} {w : World} {F : Nat → Prop} {b o n c : Nat} {xs : List α} (h : Row E T w F (.slice (some ⟨b, o, none⟩) n c) xs) {k : Nat} (hk : k ≤ n) : Rd E w (.slice (if c = k then some ⟨b, o, none⟩ else some ⟨b, o + k * E.k, none⟩) (n - k) (c - k)) (xs.drop k) := by
  have hl := h.lenEq
  subst hl
  obtain ⟨ao', c', hv, h1, h2, h3, h4⟩ := h.rd
  cases hv
  have hl : (xs.drop k).length = xs.length - k := by simp
  refine ⟨_, _, by rw [hl], by rw [hl]; omega, by omega, ?_, fun a ha j u hu => ?_⟩
  · intro hn; split at hn <;> cases hn
  by_cases hck : c = k
  · have : xs.drop k = [] := by apply List.eq_nil_of_length_eq_zero; rw [hl]; omega
    rw [this] at hu
    simp [Enc.flat] at hu
  · rw [if_neg hck] at ha
    cases ha
    rw [Addr.add_lit, Nat.add_assoc, ← Addr.add_lit]
    refine h4 _ rfl _ u ?_
    rw [← Enc.flat_drop, List.getElem?_drop] at hu
    exact hu

theorem rd_drop0 {α : Type} {E : Enc α} {T : TypeId} {w : World} {F : Nat → Prop} {n c : Nat} {xs : List α} (h : Row E T w F (.slice none n c) xs) {k : Nat} (hk : k ≤ n) : Rd E w (.slice none (n - k) (c - k)) (xs.drop k) := by
  rcases h with ⟨h, rfl, _⟩ | ⟨_, _, _, _, h, _⟩
  · cases h
    obtain rfl : k = 0 := by omega
    exact ⟨none, 0, rfl, Nat.le_refl _, by simp [maxLen], fun _ => ⟨rfl, rfl⟩, fun a ha => by cases ha⟩
  · cases h

/-- 'append(append(append([]E(nil), l[:k]...), x), l[k:]...)': three appends. -/
theorem app_insert {α : Type} {E : Enc α} {T t ty : TypeId} {P : Program} {z : Value} (ht : P.underlying t = some (.slice T)) (hE : Ety P E T z) {w : World} {F : Nat → Prop} {b o n c : Nat} {xs : List α} (h : Row E T w F (.slice (some ⟨b, o, none⟩) n c) xs) {k : Nat} (hk : k ≤ n) (hn : n ≤ 1000000000) (x : α) :
    ∃ v1 w1 v2 w2 v3 w3 F3, (Builtin.append_ #[t, t] ty #[.slice none 0 0, .slice (some ⟨b, o, none⟩) k c]).run P w = .ok v1 w1 ∧
      (Builtin.append_ #[t, t] ty #[v1, .slice (some ⟨w1.heap.size, 0, none⟩) 1 1]).run P (w1.alloc (.cells (E.enc x).toArray T)) = .ok v2 w2 ∧
      (Builtin.append_ #[t, t] ty #[v2, .slice (if c = k then some ⟨b, o, none⟩ else some ⟨b, o + k * E.k, none⟩) (n - k) (c - k)]).run P w2 = .ok v3 w3 ∧
      Row E T w3 F3 v3 (xs.take k ++ x :: xs.drop k) ∧ Upd NoB w w1 ∧ Upd NoB w w2 ∧ Upd NoB w w3 ∧ (∀ y, F3 y → w.heap.size ≤ y) := by
  have hl := h.lenEq
  have hlt := h.lt
  obtain ⟨v1, w1, F1, r1, hr1, u1, f1, _⟩ := run_append_row (ty := ty) ht hE (Row.nil E T w) (rd_take h hk) (by simp; omega)
  simp only [List.nil_append] at hr1
  have f1' : ∀ y, F1 y → w.heap.size ≤ y := fun y hy => (f1 y hy).elim (fun h => h.elim) id
  obtain ⟨v2, w2, F2, r2, hr2, u2, f2⟩ := app_new (ty := ty) (x := x) ht hE hr1 (by simp; omega) (Upd.alloc NoB w1 _) (Blk.new w1 T (E.enc x))
  have f2' : ∀ y, F2 y → w.heap.size ≤ y := fun y hy => (f2 y hy).elim (f1' y) (fun h => Nat.le_trans u1.size h)
  have u2' : Upd NoB w w2 := u1.then u2 (fun y hy hy' => by have := f1' y hy'; omega)
  have h2 : Row E T w2 F (.slice (some ⟨b, o, none⟩) n c) xs := h.upd u2' (fun y _ h => h)
  obtain ⟨v3, w3, F3, r3, hr3, u3, f3, _⟩ := run_append_row (ty := ty) ht hE hr2 (rd_drop h2 hk) (by simp; omega)
  refine ⟨v1, w1, v2, w2, v3, w3, F3, r1, r2, r3, by simpa using hr3, u1, u2', u2'.then u3 (fun y hy hy' => by have := f2' y hy'; omega), fun y hy => (f3 y hy).elim (f2' y) (fun h => Nat.le_trans u2'.size h)⟩

theorem set_end {F F1 : Nat → Prop} {w w1 w2 : World} {p : Value} {l : List (Int × Int)} {e : Ending} (hu : Upd F w w1) (hf : ∀ x, F1 x → F x ∨ w.heap.size ≤ x) (h : RtPost F1 w1 p (.tuple #[]) l e w2) : RtPost F w p (.tuple #[]) l e w2 := by
  obtain ⟨F', rfl, h1, h2, h3⟩ := h
  exact ⟨F', rfl, h1, hu.then h2 (fun x hx hF => (hf x hF).elim id (fun h => by omega)), fun x hx => (h3 x hx).elim (hf x) (fun h => .inr (Nat.le_trans hu.size h))⟩

set_option maxHeartbeats 1000000 in
set_option maxRecDepth 100000 in
theorem rt_set (w : World) (F : Nat → Prop) (p : Value) (l : List (Int × Int)) (id u : Int) (h : RtAt w F p l) (hn : l.length ≤ 1000000000) :
    Calls Try.prog 15 #[p, .int .i64 id, .int .i64 u] w (RtPost F w p (.tuple #[]) (rtSet id u l)) := by
  have hdrop := rt_drop w F p l id h hn
  have hpp : ∃ b, p = .pointer (some ⟨b, 0, none⟩) := by obtain ⟨b, sv, G, rfl, _⟩ := h; exact ⟨b, rfl⟩
  obtain ⟨b, rfl⟩ := hpp
  have hm : (rtDrop id l).length ≤ l.length := List.length_filter_le _ _
  obtain ⟨m, hM⟩ : ∃ m, m = rtDrop id l := ⟨_, rfl⟩
  have hset : rtSet id u l = m.takeWhile (fun p => decide (p.1 < id)) ++ (id, u) :: m.dropWhile (fun p => decide (p.1 < id)) := by rw [hM]; rfl
  rw [← hM] at hdrop hm
  obtain ⟨R, hR⟩ : ∃ R, R = rtSet id u l := ⟨_, rfl⟩
  rw [← hR] at hset ⊢
  have HSET := Lib.hid hset
  have HD := Lib.hid hdrop
  clear hdrop hM hset hR h
  go_enter Try.func15, Try.ntmps15
  go_wp2_with (go_at_call 17; refine HD.out.mono ?_; rintro e w' ⟨F1, rfl, hps, hu1, hf1⟩; have HPS := Lib.hid hps; have HU1 := Lib.hid hu1; have HF1 := Lib.hid hf1; clear hps hu1 hf1 HD)
  obtain ⟨b', sv, G, hv, hb, hr, hnb, rfl⟩ := HPS.out
  cases hv
  clear HPS
  obtain ⟨ao, c, rfl, hlc⟩ := row_form hr
  have h0 : w'.cell? ⟨b, 0, none⟩ = some (.slice ao m.length c) := hb.cell 0
  have hbl := hb.lt
  have HB := Lib.hid hb
  have HR := Lib.hid hr
  have HNB := Lib.hid hnb
  clear hb hr hnb
  go_loop [6] (fun i => ∃ k : Nat, k ≤ m.length ∧ i = .int .i64 k ∧ Hid (∀ j x, j < k → m[j]? = some x → x.1 < id)) (fun i => m.length - (intOf i).toNat)
  case atStart => exact ⟨0, Nat.zero_le _, rfl, fun j x hj => by omega⟩
  case round =>
    obtain ⟨k, hk, rfl, hall⟩ := hrel
    by_cases hlt : k < m.length
    · obtain ⟨y, hy⟩ : ∃ y, m[k]? = some y := ⟨m[k], by simp [hlt]⟩
      obtain ⟨sb, o, rfl, hG, hsb, hcell, _⟩ := row_at HR.out hlt
      have g0 : w'.cell? ⟨sb, o + k * 2, none⟩ = some (.int .i64 y.1) := hcell k 0 y _ hy rfl
      have HC := Lib.hid hcell
      have HY := Lib.hid hy
      clear hcell hy
      by_cases hyi : y.1 < id
      · have hd : decide (y.1 < id) = true := by simpa using hyi
        go_wp2
        go_round
        case rel => exact ⟨k + 1, hlt, by go_num, fun j x hj hx => by
          by_cases hjk : j = k
          · subst hjk; have := HY.out; rw [hx] at this; cases this; exact hyi
          · exact hall.out j x (by omega) hx⟩
        case measure => simp [intOf]; omega
      · have hd : decide (y.1 < id) = false := by simpa using hyi
        obtain ⟨e1, e2⟩ := takeWhile_at (fun p => decide (p.1 < id)) m k (fun j x hj hx => by simpa using hall.out j x hj hx) hk (fun x hx => by rw [HY.out] at hx; cases hx; exact hd)
        have hkc : k ≤ c := by omega
        have E1 := Lib.hid e1
        have E2 := Lib.hid e2
        clear hall e1 e2 hyi
        go_wp2
        refine wp_region_noPanic ?_
        refine wp_region_N 22 (fun w1 => w1.cell? ⟨b, 0, none⟩ = some (.slice (some ⟨sb, o, none⟩) m.length c) ∧ Upd NoB w' w1) (by kernel_rfl) ⟨h0, Upd.drew _ _⟩ ?_
        intro hS
        (refine wpAnyN_take 0 (oi := ?oi1) (v := ?v1) ?hi1 (by kernel_rfl) (fun _ _ _ h => h) (by assumption) ?hy1 ?hk1; (case hi1 => (simp only [List.getElem?_toArray, List.getElem?_cons_zero, List.getElem?_cons_succ]; try rfl)); (case hy1 => (refine Or.inl ⟨by rfl, ?_⟩; intro wq hSw; (try dsimp only at hSw); go_split_ands; (try go_simp); (try with_reducible rfl))); simp only [Act.put, List.setIfInBounds_toArray, List.set_cons_zero, List.set_cons_succ]); (refine wpAnyN_take 1 (oi := ?oi2) (v := ?v2) ?hi2 (by kernel_rfl) (fun _ _ _ h => h) (by assumption) ?hy2 ?hk2; (case hi2 => (simp only [List.getElem?_toArray, List.getElem?_cons_zero, List.getElem?_cons_succ]; try rfl)); (case hy2 => (refine Or.inl ⟨by rfl, ?_⟩; intro wq hSw; (try dsimp only at hSw); go_split_ands; (try go_simp); (try with_reducible rfl))); simp only [Act.put, List.setIfInBounds_toArray, List.set_cons_zero, List.set_cons_succ]); (refine wpAnyN_take 2 (oi := ?oi3) (v := ?v3) ?hi3 (by kernel_rfl) (fun _ _ _ h => h) (by assumption) ?hy3 ?hk3; (case hi3 => (simp only [List.getElem?_toArray, List.getElem?_cons_zero, List.getElem?_cons_succ]; try rfl)); (case hy3 => (refine Or.inl ⟨by rfl, ?_⟩; intro wq hSw; (try dsimp only at hSw); go_split_ands; (try go_simp); (try with_reducible rfl))); simp only [Act.put, List.setIfInBounds_toArray, List.set_cons_zero, List.set_cons_succ]); (refine wpAnyN_take 3 (oi := ?oi4) (v := ?v4) ?hi4 (by kernel_rfl) (fun _ _ _ h => h) (by assumption) ?hy4 ?hk4; (case hi4 => (simp only [List.getElem?_toArray, List.getElem?_cons_zero, List.getElem?_cons_succ]; try rfl)); (case hy4 => (refine Or.inl ⟨by rfl, ?_⟩; intro wq hSw; (try dsimp only at hSw); go_split_ands; (try go_simp); (try with_reducible rfl))); simp only [Act.put, List.setIfInBounds_toArray, List.set_cons_zero, List.set_cons_succ]); (refine wpAnyN_take 4 (oi := ?oi5) (v := ?v5) ?hi5 (by kernel_rfl) (fun _ _ _ h => h) (by assumption) ?hy5 ?hk5; (case hi5 => (simp only [List.getElem?_toArray, List.getElem?_cons_zero, List.getElem?_cons_succ]; try rfl)); (case hy5 => (refine Or.inl ⟨by rfl, ?_⟩; intro wq hSw; (try dsimp only at hSw); go_split_ands; (try go_simp); (try with_reducible rfl))); simp only [Act.put, List.setIfInBounds_toArray, List.set_cons_zero, List.set_cons_succ]); (refine wpAnyN_take 5 (oi := ?oi6) (v := ?v6) ?hi6 (by kernel_rfl) (fun _ _ _ h => h) (by assumption) ?hy6 ?hk6; (case hi6 => (simp only [List.getElem?_toArray, List.getElem?_cons_zero, List.getElem?_cons_succ]; try rfl)); (case hy6 => (refine Or.inl ⟨by rfl, ?_⟩; intro wq hSw; (try dsimp only at hSw); go_split_ands; (try go_simp); (try with_reducible rfl))); simp only [Act.put, List.setIfInBounds_toArray, List.set_cons_zero, List.set_cons_succ]); (refine wpAnyN_take 6 (oi := ?oi7) (v := ?v7) ?hi7 (by kernel_rfl) (fun _ _ _ h => h) (by assumption) ?hy7 ?hk7; (case hi7 => (simp only [List.getElem?_toArray, List.getElem?_cons_zero, List.getElem?_cons_succ]; try rfl)); (case hy7 => (refine Or.inl ⟨by rfl, ?_⟩; intro wq hSw; (try dsimp only at hSw); go_split_ands; (try go_simp); (try with_reducible rfl))); simp only [Act.put, List.setIfInBounds_toArray, List.set_cons_zero, List.set_cons_succ]); (refine wpAnyN_take 8 (oi := ?oi8) (v := ?v8) ?hi8 (by kernel_rfl) (fun _ _ _ h => h) (by assumption) ?hy8 ?hk8; (case hi8 => (simp only [List.getElem?_toArray, List.getElem?_cons_zero, List.getElem?_cons_succ]; try rfl)); (case hy8 => (refine Or.inl ⟨by rfl, ?_⟩; intro wq hSw; (try dsimp only at hSw); go_split_ands; (try go_simp); (try with_reducible rfl))); simp only [Act.put, List.setIfInBounds_toArray, List.set_cons_zero, List.set_cons_succ]); (refine wpAnyN_take 9 (oi := ?oi9) (v := ?v9) ?hi9 (by kernel_rfl) (fun _ _ _ h => h) (by assumption) ?hy9 ?hk9; (case hi9 => (simp only [List.getElem?_toArray, List.getElem?_cons_zero, List.getElem?_cons_succ]; try rfl)); (case hy9 => (refine Or.inl ⟨by rfl, ?_⟩; intro wq hSw; (try dsimp only at hSw); go_split_ands; (try go_simp); (try with_reducible rfl))); simp only [Act.put, List.setIfInBounds_toArray, List.set_cons_zero, List.set_cons_succ]); (refine wpAnyN_take 10 (oi := ?oi10) (v := ?v10) ?hi10 (by kernel_rfl) (fun _ _ _ h => h) (by assumption) ?hy10 ?hk10; (case hi10 => (simp only [List.getElem?_toArray, List.getElem?_cons_zero, List.getElem?_cons_succ]; try rfl)); (case hy10 => (refine Or.inl ⟨by rfl, ?_⟩; intro wq hSw; (try dsimp only at hSw); go_split_ands; (try go_simp); (try with_reducible rfl))); simp only [Act.put, List.setIfInBounds_toArray, List.set_cons_zero, List.set_cons_succ]); (refine wpAnyN_take 13 (oi := ?oi11) (v := ?v11) ?hi11 (by kernel_rfl) (fun _ _ _ h => h) (by assumption) ?hy11 ?hk11; (case hi11 => (simp only [List.getElem?_toArray, List.getElem?_cons_zero, List.getElem?_cons_succ]; try rfl)); (case hy11 => (refine Or.inl ⟨by rfl, ?_⟩; intro wq hSw; (try dsimp only at hSw); go_split_ands; (try go_simp); (try with_reducible rfl))); simp only [Act.put, List.setIfInBounds_toArray, List.set_cons_zero, List.set_cons_succ]); (refine wpAnyN_take 14 (oi := ?oi12) (v := ?v12) ?hi12 (by kernel_rfl) (fun _ _ _ h => h) (by assumption) ?hy12 ?hk12; (case hi12 => (simp only [List.getElem?_toArray, List.getElem?_cons_zero, List.getElem?_cons_succ]; try rfl)); (case hy12 => (refine Or.inl ⟨by rfl, ?_⟩; intro wq hSw; (try dsimp only at hSw); go_split_ands; (try go_simp); (try with_reducible rfl))); simp only [Act.put, List.setIfInBounds_toArray, List.set_cons_zero, List.set_cons_succ]); (refine wpAnyN_take 15 (oi := ?oi13) (v := ?v13) ?hi13 (by kernel_rfl) (fun _ _ _ h => h) (by assumption) ?hy13 ?hk13; (case hi13 => (simp only [List.getElem?_toArray, List.getElem?_cons_zero, List.getElem?_cons_succ]; try rfl)); (case hy13 => (refine Or.inl ⟨by rfl, ?_⟩; intro wq hSw; (try dsimp only at hSw); go_split_ands; (try go_simp); (try with_reducible rfl))); simp only [Act.put, List.setIfInBounds_toArray, List.set_cons_zero, List.set_cons_succ]); (refine wpAnyN_take 16 (oi := ?oi14) (v := ?v14) ?hi14 (by kernel_rfl) (fun _ _ _ h => h) (by assumption) ?hy14 ?hk14; (case hi14 => (simp only [List.getElem?_toArray, List.getElem?_cons_zero, List.getElem?_cons_succ]; try rfl)); (case hy14 => (refine Or.inl ⟨by rfl, ?_⟩; intro wq hSw; (try dsimp only at hSw); go_split_ands; (try go_simp); (try with_reducible rfl))); simp only [Act.put, List.setIfInBounds_toArray, List.set_cons_zero, List.set_cons_succ]); (refine wpAnyN_take 17 (oi := ?oi15) (v := ?v15) ?hi15 (by kernel_rfl) (fun _ _ _ h => h) (by assumption) ?hy15 ?hk15; (case hi15 => (simp only [List.getElem?_toArray, List.getElem?_cons_zero, List.getElem?_cons_succ]; try rfl)); (case hy15 => (refine Or.inl ⟨by rfl, ?_⟩; intro wq hSw; (try dsimp only at hSw); go_split_ands; (try go_simp); (try with_reducible rfl))); simp only [Act.put, List.setIfInBounds_toArray, List.set_cons_zero, List.set_cons_succ]); (refine wpAnyN_take 18 (oi := ?oi16) (v := ?v16) ?hi16 (by kernel_rfl) (fun _ _ _ h => h) (by assumption) ?hy16 ?hk16; (case hi16 => (simp only [List.getElem?_toArray, List.getElem?_cons_zero, List.getElem?_cons_succ]; try rfl)); (case hy16 => (refine Or.inl ⟨by rfl, ?_⟩; intro wq hSw; (try dsimp only at hSw); go_split_ands; (try go_simp); (try with_reducible rfl))); simp only [Act.put, List.setIfInBounds_toArray, List.set_cons_zero, List.set_cons_succ])
        (refine wpAnyN_all [7, 11] (by kernel_rfl) ?_; refine AllN.cons (by simp only [List.getElem?_toArray, List.getElem?_cons_zero, List.getElem?_cons_succ]; try rfl) (fun K hK => ?_) (AllN.cons (by simp only [List.getElem?_toArray, List.getElem?_cons_zero, List.getElem?_cons_succ]; try rfl) (fun K hK => ?_) AllN.nil))
        · refine step_append_new w' ⟨rfl, rfl, rfl, rfl⟩ Try.underlying27 etyRs (Row.nil slE 61 _) (fun _ h => h.elim) (Upd.drew _ _) (rd_take (HR.out.upd (G := NoB) (Upd.drew _ _) (fun _ _ h => h)) hk) (by simp; omega) ?_
          intro v1 w1 F1 hr1 u1 s1 f1
          refine hK.out _ _ (fun _ => ⟨cell_keep u1 h0 hbl, u1⟩) ?_
          clear hK K
          (try simp only [Act.put, List.setIfInBounds_toArray, List.set_cons_zero, List.set_cons_succ])
          (refine wpAnyN_all [11] (by kernel_rfl) ?_; refine AllN.cons (by simp only [List.getElem?_toArray, List.getElem?_cons_zero, List.getElem?_cons_succ]; try rfl) (fun K hK => ?_) AllN.nil)
          go_simp
          refine hK.out _ _ (fun _ => ⟨cell_keep (u1.trans (Upd.alloc _ _ _)) h0 hbl, u1.trans (Upd.alloc _ _ _)⟩) ?_
          clear hK K
          (try simp only [Act.put, List.setIfInBounds_toArray, List.set_cons_zero, List.set_cons_succ])
          (refine wpAnyN_all [12] (by kernel_rfl) ?_; refine AllN.cons (by simp only [List.getElem?_toArray, List.getElem?_cons_zero, List.getElem?_cons_succ]; try rfl) (fun K hK => ?_) AllN.nil)
          refine step_append_new w' ⟨rfl, rfl, rfl, rfl⟩ Try.underlying27 etyRs (hr1.upd (G := NoB) (Upd.alloc _ _ _) (fun _ _ h => h)) f1 (u1.trans (Upd.alloc _ _ _)) (Rd.one (x := (id, u)) (T' := 61) (Blk.new w1 _ (slE.enc (id, u)))) (by simp; omega) ?_
          intro v2 w2 F2 hr2 u2 s2 f2
          refine hK.out _ _ (fun _ => ⟨cell_keep u2 h0 hbl, u2⟩) ?_
          clear hK K
          (try simp only [Act.put, List.setIfInBounds_toArray, List.set_cons_zero, List.set_cons_succ])
          (refine wpAnyN_all [19] (by kernel_rfl) ?_; refine AllN.cons (by simp only [List.getElem?_toArray, List.getElem?_cons_zero, List.getElem?_cons_succ]; try rfl) (fun K hK => ?_) AllN.nil)
          refine step_append_new w' ⟨rfl, rfl, rfl, rfl⟩ Try.underlying27 etyRs hr2 f2 u2 (rd_drop (HR.out.upd u2 (fun _ _ h => h)) hk) (by simp; omega) ?_
          intro v3 w3 F3 hr3 u3 s3 f3
          have hS3 : (w3.cell? ⟨b, 0, none⟩ = some (.slice (some ⟨sb, o, none⟩) m.length c) ∧ Upd NoB w' w3) := ⟨cell_keep u3 h0 hbl, u3⟩
          refine hK.out _ _ (fun _ => hS3) ?_
          clear hK K
          (try simp only [Act.put, List.setIfInBounds_toArray, List.set_cons_zero, List.set_cons_succ])
          (refine wpAnyN_take 20 (oi := ?oi17) (v := ?v17) ?hi17 (by kernel_rfl) (fun _ _ _ h => h) (by assumption) ?hy17 ?hk17; (case hi17 => (simp only [List.getElem?_toArray, List.getElem?_cons_zero, List.getElem?_cons_succ]; try rfl)); (case hy17 => (refine Or.inl ⟨by rfl, ?_⟩; intro wq hSw; (try dsimp only at hSw); go_split_ands; (try go_simp); (try with_reducible rfl))); simp only [Act.put, List.setIfInBounds_toArray, List.set_cons_zero, List.set_cons_succ]); (refine wpAnyN_take 21 (oi := ?oi18) (v := ?v18) ?hi18 (by kernel_rfl) (fun _ _ _ h => h) (by assumption) ?hy18 ?hk18; (case hi18 => (simp only [List.getElem?_toArray, List.getElem?_cons_zero, List.getElem?_cons_succ]; try rfl)); (case hy18 => (refine Or.inl ⟨by rfl, ?_⟩; intro wq hSw; (try dsimp only at hSw); go_split_ands; (try go_simp); (try with_reducible rfl))); simp only [Act.put, List.setIfInBounds_toArray, List.set_cons_zero, List.set_cons_succ])
          rw [← E1.out, ← E2.out] at hr3
          have hr3' : Row slE 61 w3 F3 v3 R := by rw [HSET.out]; simpa using hr3
          clear hr3
          have hr3 := hr3'
          clear hr3'
          obtain ⟨ao3, c3, rfl, _⟩ := row_form hr3
          have gf := (HB.out.upd u3 (fun h => h)).frozen 0
          have gc := cell_keep u3 h0 hbl
          have hnew := PsAt.put (R := .tuple #[]) HB.out HNB.out (u3.mono (fun x _ hx => hx.elim)) hr3 (fun x hx => .inr (f3 x hx))
          have HNEW := Lib.hid hnew
          clear hnew hr3 hr2 hr1 u1 u2 s1 s2 s3 f1 f2 f3 hS3
          (refine wpAnyN_all [22] (by kernel_rfl) ?_; refine AllN.cons (by simp only [List.getElem?_toArray, List.getElem?_cons_zero, List.getElem?_cons_succ]; try rfl) (fun K hK => ?_) AllN.nil)
          go_simp
          refine hK.out _ _ (fun h => absurd rfl h) ?_
          clear hK K
          (try simp only [Act.put, List.setIfInBounds_toArray, List.set_cons_zero, List.set_cons_succ])
          refine wpAnyN_done (by kernel_rfl) ?_
          refine NoPanic.normal ?_
          (go_end0; exact set_end HU1.out HF1.out HNEW.out)
        · go_simp
          refine hK.out _ _ (fun _ => ⟨cell_keep ((Upd.drew _ _).trans (Upd.alloc _ _ _)) h0 hbl, (Upd.drew _ _).trans (Upd.alloc _ _ _)⟩) ?_
          clear hK K
          (try simp only [Act.put, List.setIfInBounds_toArray, List.set_cons_zero, List.set_cons_succ])
          (refine wpAnyN_all [7] (by kernel_rfl) ?_; refine AllN.cons (by simp only [List.getElem?_toArray, List.getElem?_cons_zero, List.getElem?_cons_succ]; try rfl) (fun K hK => ?_) AllN.nil)
          refine step_append_new w' ⟨rfl, rfl, rfl, rfl⟩ Try.underlying27 etyRs (Row.nil slE 61 _) (fun _ h => h.elim) ((Upd.drew _ _).trans (Upd.alloc _ _ _)) (rd_take (HR.out.upd (G := NoB) ((Upd.drew _ _).trans (Upd.alloc _ _ _)) (fun _ _ h => h)) hk) (by simp; omega) ?_
          intro v1 w1 F1 hr1 u1 s1 f1
          refine hK.out _ _ (fun _ => ⟨cell_keep u1 h0 hbl, u1⟩) ?_
          clear hK K
          (try simp only [Act.put, List.setIfInBounds_toArray, List.set_cons_zero, List.set_cons_succ])
          (refine wpAnyN_all [12] (by kernel_rfl) ?_; refine AllN.cons (by simp only [List.getElem?_toArray, List.getElem?_cons_zero, List.getElem?_cons_succ]; try rfl) (fun K hK => ?_) AllN.nil)
          refine step_append_new w' ⟨rfl, rfl, rfl, rfl⟩ Try.underlying27 etyRs (hr1.upd (G := NoB) (Upd.refl _ _) (fun _ _ h => h)) f1 u1 (Rd.one (x := (id, u)) (T' := 61) (Blk.upd (F := NoB) (Blk.upd (F := NoB) (Blk.new w' _ (slE.enc (id, u))) (Upd.drew _ _) (fun h => h)) s1 (fun h => h))) (by simp; omega) ?_
          intro v2 w2 F2 hr2 u2 s2 f2
          refine hK.out _ _ (fun _ => ⟨cell_keep u2 h0 hbl, u2⟩) ?_
          clear hK K
          (try simp only [Act.put, List.setIfInBounds_toArray, List.set_cons_zero, List.set_cons_succ])
          (refine wpAnyN_all [19] (by kernel_rfl) ?_; refine AllN.cons (by simp only [List.getElem?_toArray, List.getElem?_cons_zero, List.getElem?_cons_succ]; try rfl) (fun K hK => ?_) AllN.nil)
          refine step_append_new w' ⟨rfl, rfl, rfl, rfl⟩ Try.underlying27 etyRs hr2 f2 u2 (rd_drop (HR.out.upd u2 (fun _ _ h => h)) hk) (by simp; omega) ?_
          intro v3 w3 F3 hr3 u3 s3 f3
          have hS3 : (w3.cell? ⟨b, 0, none⟩ = some (.slice (some ⟨sb, o, none⟩) m.length c) ∧ Upd NoB w' w3) := ⟨cell_keep u3 h0 hbl, u3⟩
          refine hK.out _ _ (fun _ => hS3) ?_
          clear hK K
          (try simp only [Act.put, List.setIfInBounds_toArray, List.set_cons_zero, List.set_cons_succ])
          (refine wpAnyN_take 20 (oi := ?oi19) (v := ?v19) ?hi19 (by kernel_rfl) (fun _ _ _ h => h) (by assumption) ?hy19 ?hk19; (case hi19 => (simp only [List.getElem?_toArray, List.getElem?_cons_zero, List.getElem?_cons_succ]; try rfl)); (case hy19 => (refine Or.inl ⟨by rfl, ?_⟩; intro wq hSw; (try dsimp only at hSw); go_split_ands; (try go_simp); (try with_reducible rfl))); simp only [Act.put, List.setIfInBounds_toArray, List.set_cons_zero, List.set_cons_succ]); (refine wpAnyN_take 21 (oi := ?oi20) (v := ?v20) ?hi20 (by kernel_rfl) (fun _ _ _ h => h) (by assumption) ?hy20 ?hk20; (case hi20 => (simp only [List.getElem?_toArray, List.getElem?_cons_zero, List.getElem?_cons_succ]; try rfl)); (case hy20 => (refine Or.inl ⟨by rfl, ?_⟩; intro wq hSw; (try dsimp only at hSw); go_split_ands; (try go_simp); (try with_reducible rfl))); simp only [Act.put, List.setIfInBounds_toArray, List.set_cons_zero, List.set_cons_succ])
          rw [← E1.out, ← E2.out] at hr3
          have hr3' : Row slE 61 w3 F3 v3 R := by rw [HSET.out]; simpa using hr3
          clear hr3
          have hr3 := hr3'
          clear hr3'
          obtain ⟨ao3, c3, rfl, _⟩ := row_form hr3
          have gf := (HB.out.upd u3 (fun h => h)).frozen 0
          have gc := cell_keep u3 h0 hbl
          have hnew := PsAt.put (R := .tuple #[]) HB.out HNB.out (u3.mono (fun x _ hx => hx.elim)) hr3 (fun x hx => .inr (f3 x hx))
          have HNEW := Lib.hid hnew
          clear hnew hr3 hr2 hr1 u1 u2 s1 s2 s3 f1 f2 f3 hS3
          (refine wpAnyN_all [22] (by kernel_rfl) ?_; refine AllN.cons (by simp only [List.getElem?_toArray, List.getElem?_cons_zero, List.getElem?_cons_succ]; try rfl) (fun K hK => ?_) AllN.nil)
          go_simp
          refine hK.out _ _ (fun h => absurd rfl h) ?_
          clear hK K
          (try simp only [Act.put, List.setIfInBounds_toArray, List.set_cons_zero, List.set_cons_succ])
          refine wpAnyN_done (by kernel_rfl) ?_
          refine NoPanic.normal ?_
          (go_end0; exact set_end HU1.out HF1.out HNEW.out)
    · have hke : k = m.length := by omega
      obtain ⟨e1, e2⟩ := takeWhile_at (fun p => decide (p.1 < id)) m k (fun j x hj hx => by simpa using hall.out j x hj hx) hk (fun x hx => by rw [hke] at hx; simp at hx)
      have E1 := Lib.hid e1
      have E2 := Lib.hid e2
      have hd : decide ((k : Int) < (m.length : Int)) = false := by simp; omega
      have hd' : decide (k < m.length) = false := by simp; omega
      have hkc : k ≤ c := by omega
      clear hke
      clear hall e1 e2
      cases ao with
      | none =>
        go_wp2
        refine wp_region_noPanic ?_
        refine wp_region_N 22 (fun w1 => w1.cell? ⟨b, 0, none⟩ = some (.slice none m.length c) ∧ Upd NoB w' w1) (by kernel_rfl) ⟨h0, Upd.drew _ _⟩ ?_
        intro hS
        (refine wpAnyN_take 0 (oi := ?oi21) (v := ?v21) ?hi21 (by kernel_rfl) (fun _ _ _ h => h) (by assumption) ?hy21 ?hk21; (case hi21 => (simp only [List.getElem?_toArray, List.getElem?_cons_zero, List.getElem?_cons_succ]; try rfl)); (case hy21 => (refine Or.inl ⟨by rfl, ?_⟩; intro wq hSw; (try dsimp only at hSw); go_split_ands; (try go_simp); (try with_reducible rfl))); simp only [Act.put, List.setIfInBounds_toArray, List.set_cons_zero, List.set_cons_succ]); (refine wpAnyN_take 1 (oi := ?oi22) (v := ?v22) ?hi22 (by kernel_rfl) (fun _ _ _ h => h) (by assumption) ?hy22 ?hk22; (case hi22 => (simp only [List.getElem?_toArray, List.getElem?_cons_zero, List.getElem?_cons_succ]; try rfl)); (case hy22 => (refine Or.inl ⟨by rfl, ?_⟩; intro wq hSw; (try dsimp only at hSw); go_split_ands; (try go_simp); (try with_reducible rfl))); simp only [Act.put, List.setIfInBounds_toArray, List.set_cons_zero, List.set_cons_succ]); (refine wpAnyN_take 2 (oi := ?oi23) (v := ?v23) ?hi23 (by kernel_rfl) (fun _ _ _ h => h) (by assumption) ?hy23 ?hk23; (case hi23 => (simp only [List.getElem?_toArray, List.getElem?_cons_zero, List.getElem?_cons_succ]; try rfl)); (case hy23 => (refine Or.inl ⟨by rfl, ?_⟩; intro wq hSw; (try dsimp only at hSw); go_split_ands; (try go_simp); (try with_reducible rfl))); simp only [Act.put, List.setIfInBounds_toArray, List.set_cons_zero, List.set_cons_succ]); (refine wpAnyN_take 3 (oi := ?oi24) (v := ?v24) ?hi24 (by kernel_rfl) (fun _ _ _ h => h) (by assumption) ?hy24 ?hk24; (case hi24 => (simp only [List.getElem?_toArray, List.getElem?_cons_zero, List.getElem?_cons_succ]; try rfl)); (case hy24 => (refine Or.inl ⟨by rfl, ?_⟩; intro wq hSw; (try dsimp only at hSw); go_split_ands; (try go_simp); (try with_reducible rfl))); simp only [Act.put, List.setIfInBounds_toArray, List.set_cons_zero, List.set_cons_succ]); (refine wpAnyN_take 4 (oi := ?oi25) (v := ?v25) ?hi25 (by kernel_rfl) (fun _ _ _ h => h) (by assumption) ?hy25 ?hk25; (case hi25 => (simp only [List.getElem?_toArray, List.getElem?_cons_zero, List.getElem?_cons_succ]; try rfl)); (case hy25 => (refine Or.inl ⟨by rfl, ?_⟩; intro wq hSw; (try dsimp only at hSw); go_split_ands; (try go_simp); (try with_reducible rfl))); simp only [Act.put, List.setIfInBounds_toArray, List.set_cons_zero, List.set_cons_succ]); (refine wpAnyN_take 5 (oi := ?oi26) (v := ?v26) ?hi26 (by kernel_rfl) (fun _ _ _ h => h) (by assumption) ?hy26 ?hk26; (case hi26 => (simp only [List.getElem?_toArray, List.getElem?_cons_zero, List.getElem?_cons_succ]; try rfl)); (case hy26 => (refine Or.inl ⟨by rfl, ?_⟩; intro wq hSw; (try dsimp only at hSw); go_split_ands; (try go_simp); (try with_reducible rfl))); simp only [Act.put, List.setIfInBounds_toArray, List.set_cons_zero, List.set_cons_succ]); (refine wpAnyN_take 6 (oi := ?oi27) (v := ?v27) ?hi27 (by kernel_rfl) (fun _ _ _ h => h) (by assumption) ?hy27 ?hk27; (case hi27 => (simp only [List.getElem?_toArray, List.getElem?_cons_zero, List.getElem?_cons_succ]; try rfl)); (case hy27 => (refine Or.inl ⟨by rfl, ?_⟩; intro wq hSw; (try dsimp only at hSw); go_split_ands; (try go_simp); (try with_reducible rfl))); simp only [Act.put, List.setIfInBounds_toArray, List.set_cons_zero, List.set_cons_succ]); (refine wpAnyN_take 8 (oi := ?oi28) (v := ?v28) ?hi28 (by kernel_rfl) (fun _ _ _ h => h) (by assumption) ?hy28 ?hk28; (case hi28 => (simp only [List.getElem?_toArray, List.getElem?_cons_zero, List.getElem?_cons_succ]; try rfl)); (case hy28 => (refine Or.inl ⟨by rfl, ?_⟩; intro wq hSw; (try dsimp only at hSw); go_split_ands; (try go_simp); (try with_reducible rfl))); simp only [Act.put, List.setIfInBounds_toArray, List.set_cons_zero, List.set_cons_succ]); (refine wpAnyN_take 9 (oi := ?oi29) (v := ?v29) ?hi29 (by kernel_rfl) (fun _ _ _ h => h) (by assumption) ?hy29 ?hk29; (case hi29 => (simp only [List.getElem?_toArray, List.getElem?_cons_zero, List.getElem?_cons_succ]; try rfl)); (case hy29 => (refine Or.inl ⟨by rfl, ?_⟩; intro wq hSw; (try dsimp only at hSw); go_split_ands; (try go_simp); (try with_reducible rfl))); simp only [Act.put, List.setIfInBounds_toArray, List.set_cons_zero, List.set_cons_succ]); (refine wpAnyN_take 10 (oi := ?oi30) (v := ?v30) ?hi30 (by kernel_rfl) (fun _ _ _ h => h) (by assumption) ?hy30 ?hk30; (case hi30 => (simp only [List.getElem?_toArray, List.getElem?_cons_zero, List.getElem?_cons_succ]; try rfl)); (case hy30 => (refine Or.inl ⟨by rfl, ?_⟩; intro wq hSw; (try dsimp only at hSw); go_split_ands; (try go_simp); (try with_reducible rfl))); simp only [Act.put, List.setIfInBounds_toArray, List.set_cons_zero, List.set_cons_succ]); (refine wpAnyN_take 13 (oi := ?oi31) (v := ?v31) ?hi31 (by kernel_rfl) (fun _ _ _ h => h) (by assumption) ?hy31 ?hk31; (case hi31 => (simp only [List.getElem?_toArray, List.getElem?_cons_zero, List.getElem?_cons_succ]; try rfl)); (case hy31 => (refine Or.inl ⟨by rfl, ?_⟩; intro wq hSw; (try dsimp only at hSw); go_split_ands; (try go_simp); (try with_reducible rfl))); simp only [Act.put, List.setIfInBounds_toArray, List.set_cons_zero, List.set_cons_succ]); (refine wpAnyN_take 14 (oi := ?oi32) (v := ?v32) ?hi32 (by kernel_rfl) (fun _ _ _ h => h) (by assumption) ?hy32 ?hk32; (case hi32 => (simp only [List.getElem?_toArray, List.getElem?_cons_zero, List.getElem?_cons_succ]; try rfl)); (case hy32 => (refine Or.inl ⟨by rfl, ?_⟩; intro wq hSw; (try dsimp only at hSw); go_split_ands; (try go_simp); (try with_reducible rfl))); simp only [Act.put, List.setIfInBounds_toArray, List.set_cons_zero, List.set_cons_succ]); (refine wpAnyN_take 15 (oi := ?oi33) (v := ?v33) ?hi33 (by kernel_rfl) (fun _ _ _ h => h) (by assumption) ?hy33 ?hk33; (case hi33 => (simp only [List.getElem?_toArray, List.getElem?_cons_zero, List.getElem?_cons_succ]; try rfl)); (case hy33 => (refine Or.inl ⟨by rfl, ?_⟩; intro wq hSw; (try dsimp only at hSw); go_split_ands; (try go_simp); (try with_reducible rfl))); simp only [Act.put, List.setIfInBounds_toArray, List.set_cons_zero, List.set_cons_succ]); (refine wpAnyN_take 16 (oi := ?oi34) (v := ?v34) ?hi34 (by kernel_rfl) (fun _ _ _ h => h) (by assumption) ?hy34 ?hk34; (case hi34 => (simp only [List.getElem?_toArray, List.getElem?_cons_zero, List.getElem?_cons_succ]; try rfl)); (case hy34 => (refine Or.inl ⟨by rfl, ?_⟩; intro wq hSw; (try dsimp only at hSw); go_split_ands; (try go_simp); (try with_reducible rfl))); simp only [Act.put, List.setIfInBounds_toArray, List.set_cons_zero, List.set_cons_succ]); (refine wpAnyN_take 17 (oi := ?oi35) (v := ?v35) ?hi35 (by kernel_rfl) (fun _ _ _ h => h) (by assumption) ?hy35 ?hk35; (case hi35 => (simp only [List.getElem?_toArray, List.getElem?_cons_zero, List.getElem?_cons_succ]; try rfl)); (case hy35 => (refine Or.inl ⟨by rfl, ?_⟩; intro wq hSw; (try dsimp only at hSw); go_split_ands; (try go_simp); (try with_reducible rfl))); simp only [Act.put, List.setIfInBounds_toArray, List.set_cons_zero, List.set_cons_succ]); (refine wpAnyN_take 18 (oi := ?oi36) (v := ?v36) ?hi36 (by kernel_rfl) (fun _ _ _ h => h) (by assumption) ?hy36 ?hk36; (case hi36 => (simp only [List.getElem?_toArray, List.getElem?_cons_zero, List.getElem?_cons_succ]; try rfl)); (case hy36 => (refine Or.inl ⟨by rfl, ?_⟩; intro wq hSw; (try dsimp only at hSw); go_split_ands; (try go_simp); (try with_reducible rfl))); simp only [Act.put, List.setIfInBounds_toArray, List.set_cons_zero, List.set_cons_succ])
        (refine wpAnyN_all [7, 11] (by kernel_rfl) ?_; refine AllN.cons (by simp only [List.getElem?_toArray, List.getElem?_cons_zero, List.getElem?_cons_succ]; try rfl) (fun K hK => ?_) (AllN.cons (by simp only [List.getElem?_toArray, List.getElem?_cons_zero, List.getElem?_cons_succ]; try rfl) (fun K hK => ?_) AllN.nil))
        · refine step_append_new w' ⟨rfl, rfl, rfl, rfl⟩ Try.underlying27 etyRs (Row.nil slE 61 _) (fun _ h => h.elim) (Upd.drew _ _) (rd_take (HR.out.upd (G := NoB) (Upd.drew _ _) (fun _ _ h => h)) hk) (by simp; omega) ?_
          intro v1 w1 F1 hr1 u1 s1 f1
          refine hK.out _ _ (fun _ => ⟨cell_keep u1 h0 hbl, u1⟩) ?_
          clear hK K
          (try simp only [Act.put, List.setIfInBounds_toArray, List.set_cons_zero, List.set_cons_succ])
          (refine wpAnyN_all [11] (by kernel_rfl) ?_; refine AllN.cons (by simp only [List.getElem?_toArray, List.getElem?_cons_zero, List.getElem?_cons_succ]; try rfl) (fun K hK => ?_) AllN.nil)
          go_simp
          refine hK.out _ _ (fun _ => ⟨cell_keep (u1.trans (Upd.alloc _ _ _)) h0 hbl, u1.trans (Upd.alloc _ _ _)⟩) ?_
          clear hK K
          (try simp only [Act.put, List.setIfInBounds_toArray, List.set_cons_zero, List.set_cons_succ])
          (refine wpAnyN_all [12] (by kernel_rfl) ?_; refine AllN.cons (by simp only [List.getElem?_toArray, List.getElem?_cons_zero, List.getElem?_cons_succ]; try rfl) (fun K hK => ?_) AllN.nil)
          refine step_append_new w' ⟨rfl, rfl, rfl, rfl⟩ Try.underlying27 etyRs (hr1.upd (G := NoB) (Upd.alloc _ _ _) (fun _ _ h => h)) f1 (u1.trans (Upd.alloc _ _ _)) (Rd.one (x := (id, u)) (T' := 61) (Blk.new w1 _ (slE.enc (id, u)))) (by simp; omega) ?_
          intro v2 w2 F2 hr2 u2 s2 f2
          refine hK.out _ _ (fun _ => ⟨cell_keep u2 h0 hbl, u2⟩) ?_
          clear hK K
          (try simp only [Act.put, List.setIfInBounds_toArray, List.set_cons_zero, List.set_cons_succ])
          (refine wpAnyN_all [19] (by kernel_rfl) ?_; refine AllN.cons (by simp only [List.getElem?_toArray, List.getElem?_cons_zero, List.getElem?_cons_succ]; try rfl) (fun K hK => ?_) AllN.nil)
          refine step_append_new w' ⟨rfl, rfl, rfl, rfl⟩ Try.underlying27 etyRs hr2 f2 u2 (rd_drop0 (HR.out.upd u2 (fun _ _ h => h)) hk) (by simp; omega) ?_
          intro v3 w3 F3 hr3 u3 s3 f3
          have hS3 : (w3.cell? ⟨b, 0, none⟩ = some (.slice none m.length c) ∧ Upd NoB w' w3) := ⟨cell_keep u3 h0 hbl, u3⟩
          refine hK.out _ _ (fun _ => hS3) ?_
          clear hK K
          (try simp only [Act.put, List.setIfInBounds_toArray, List.set_cons_zero, List.set_cons_succ])
          (refine wpAnyN_take 20 (oi := ?oi37) (v := ?v37) ?hi37 (by kernel_rfl) (fun _ _ _ h => h) (by assumption) ?hy37 ?hk37; (case hi37 => (simp only [List.getElem?_toArray, List.getElem?_cons_zero, List.getElem?_cons_succ]; try rfl)); (case hy37 => (refine Or.inl ⟨by rfl, ?_⟩; intro wq hSw; (try dsimp only at hSw); go_split_ands; (try go_simp); (try with_reducible rfl))); simp only [Act.put, List.setIfInBounds_toArray, List.set_cons_zero, List.set_cons_succ]); (refine wpAnyN_take 21 (oi := ?oi38) (v := ?v38) ?hi38 (by kernel_rfl) (fun _ _ _ h => h) (by assumption) ?hy38 ?hk38; (case hi38 => (simp only [List.getElem?_toArray, List.getElem?_cons_zero, List.getElem?_cons_succ]; try rfl)); (case hy38 => (refine Or.inl ⟨by rfl, ?_⟩; intro wq hSw; (try dsimp only at hSw); go_split_ands; (try go_simp); (try with_reducible rfl))); simp only [Act.put, List.setIfInBounds_toArray, List.set_cons_zero, List.set_cons_succ])
          rw [← E1.out, ← E2.out] at hr3
          have hr3' : Row slE 61 w3 F3 v3 R := by rw [HSET.out]; simpa using hr3
          clear hr3
          have hr3 := hr3'
          clear hr3'
          obtain ⟨ao3, c3, rfl, _⟩ := row_form hr3
          have gf := (HB.out.upd u3 (fun h => h)).frozen 0
          have gc := cell_keep u3 h0 hbl
          have hnew := PsAt.put (R := .tuple #[]) HB.out HNB.out (u3.mono (fun x _ hx => hx.elim)) hr3 (fun x hx => .inr (f3 x hx))
          have HNEW := Lib.hid hnew
          clear hnew hr3 hr2 hr1 u1 u2 s1 s2 s3 f1 f2 f3 hS3
          (refine wpAnyN_all [22] (by kernel_rfl) ?_; refine AllN.cons (by simp only [List.getElem?_toArray, List.getElem?_cons_zero, List.getElem?_cons_succ]; try rfl) (fun K hK => ?_) AllN.nil)
          go_simp
          refine hK.out _ _ (fun h => absurd rfl h) ?_
          clear hK K
          (try simp only [Act.put, List.setIfInBounds_toArray, List.set_cons_zero, List.set_cons_succ])
          refine wpAnyN_done (by kernel_rfl) ?_
          refine NoPanic.normal ?_
          (go_end0; exact set_end HU1.out HF1.out HNEW.out)
        · go_simp
          refine hK.out _ _ (fun _ => ⟨cell_keep ((Upd.drew _ _).trans (Upd.alloc _ _ _)) h0 hbl, (Upd.drew _ _).trans (Upd.alloc _ _ _)⟩) ?_
          clear hK K
          (try simp only [Act.put, List.setIfInBounds_toArray, List.set_cons_zero, List.set_cons_succ])
          (refine wpAnyN_all [7] (by kernel_rfl) ?_; refine AllN.cons (by simp only [List.getElem?_toArray, List.getElem?_cons_zero, List.getElem?_cons_succ]; try rfl) (fun K hK => ?_) AllN.nil)
          refine step_append_new w' ⟨rfl, rfl, rfl, rfl⟩ Try.underlying27 etyRs (Row.nil slE 61 _) (fun _ h => h.elim) ((Upd.drew _ _).trans (Upd.alloc _ _ _)) (rd_take (HR.out.upd (G := NoB) ((Upd.drew _ _).trans (Upd.alloc _ _ _)) (fun _ _ h => h)) hk) (by simp; omega) ?_
          intro v1 w1 F1 hr1 u1 s1 f1
          refine hK.out _ _ (fun _ => ⟨cell_keep u1 h0 hbl, u1⟩) ?_
          clear hK K
          (try simp only [Act.put, List.setIfInBounds_toArray, List.set_cons_zero, List.set_cons_succ])
          (refine wpAnyN_all [12] (by kernel_rfl) ?_; refine AllN.cons (by simp only [List.getElem?_toArray, List.getElem?_cons_zero, List.getElem?_cons_succ]; try rfl) (fun K hK => ?_) AllN.nil)
          refine step_append_new w' ⟨rfl, rfl, rfl, rfl⟩ Try.underlying27 etyRs (hr1.upd (G := NoB) (Upd.refl _ _) (fun _ _ h => h)) f1 u1 (Rd.one (x := (id, u)) (T' := 61) (Blk.upd (F := NoB) (Blk.upd (F := NoB) (Blk.new w' _ (slE.enc (id, u))) (Upd.drew _ _) (fun h => h)) s1 (fun h => h))) (by simp; omega) ?_
          intro v2 w2 F2 hr2 u2 s2 f2
          refine hK.out _ _ (fun _ => ⟨cell_keep u2 h0 hbl, u2⟩) ?_
          clear hK K
          (try simp only [Act.put, List.setIfInBounds_toArray, List.set_cons_zero, List.set_cons_succ])
          (refine wpAnyN_all [19] (by kernel_rfl) ?_; refine AllN.cons (by simp only [List.getElem?_toArray, List.getElem?_cons_zero, List.getElem?_cons_succ]; try rfl) (fun K hK => ?_) AllN.nil)
          refine step_append_new w' ⟨rfl, rfl, rfl, rfl⟩ Try.underlying27 etyRs hr2 f2 u2 (rd_drop0 (HR.out.upd u2 (fun _ _ h => h)) hk) (by simp; omega) ?_
          intro v3 w3 F3 hr3 u3 s3 f3
          have hS3 : (w3.cell? ⟨b, 0, none⟩ = some (.slice none m.length c) ∧ Upd NoB w' w3) := ⟨cell_keep u3 h0 hbl, u3⟩
          refine hK.out _ _ (fun _ => hS3) ?_
          clear hK K
          (try simp only [Act.put, List.setIfInBounds_toArray, List.set_cons_zero, List.set_cons_succ])
          (refine wpAnyN_take 20 (oi := ?oi39) (v := ?v39) ?hi39 (by kernel_rfl) (fun _ _ _ h => h) (by assumption) ?hy39 ?hk39; (case hi39 => (simp only [List.getElem?_toArray, List.getElem?_cons_zero, List.getElem?_cons_succ]; try rfl)); (case hy39 => (refine Or.inl ⟨by rfl, ?_⟩; intro wq hSw; (try dsimp only at hSw); go_split_ands; (try go_simp); (try with_reducible rfl))); simp only [Act.put, List.setIfInBounds_toArray, List.set_cons_zero, List.set_cons_succ]); (refine wpAnyN_take 21 (oi := ?oi40) (v := ?v40) ?hi40 (by kernel_rfl) (fun _ _ _ h => h) (by assumption) ?hy40 ?hk40; (case hi40 => (simp only [List.getElem?_toArray, List.getElem?_cons_zero, List.getElem?_cons_succ]; try rfl)); (case hy40 => (refine Or.inl ⟨by rfl, ?_⟩; intro wq hSw; (try dsimp only at hSw); go_split_ands; (try go_simp); (try with_reducible rfl))); simp only [Act.put, List.setIfInBounds_toArray, List.set_cons_zero, List.set_cons_succ])
          rw [← E1.out, ← E2.out] at hr3
          have hr3' : Row slE 61 w3 F3 v3 R := by rw [HSET.out]; simpa using hr3
          clear hr3
          have hr3 := hr3'
          clear hr3'
          obtain ⟨ao3, c3, rfl, _⟩ := row_form hr3
          have gf := (HB.out.upd u3 (fun h => h)).frozen 0
          have gc := cell_keep u3 h0 hbl
          have hnew := PsAt.put (R := .tuple #[]) HB.out HNB.out (u3.mono (fun x _ hx => hx.elim)) hr3 (fun x hx => .inr (f3 x hx))
          have HNEW := Lib.hid hnew
          clear hnew hr3 hr2 hr1 u1 u2 s1 s2 s3 f1 f2 f3 hS3
          (refine wpAnyN_all [22] (by kernel_rfl) ?_; refine AllN.cons (by simp only [List.getElem?_toArray, List.getElem?_cons_zero, List.getElem?_cons_succ]; try rfl) (fun K hK => ?_) AllN.nil)
          go_simp
          refine hK.out _ _ (fun h => absurd rfl h) ?_
          clear hK K
          (try simp only [Act.put, List.setIfInBounds_toArray, List.set_cons_zero, List.set_cons_succ])
          refine wpAnyN_done (by kernel_rfl) ?_
          refine NoPanic.normal ?_
          (go_end0; exact set_end HU1.out HF1.out HNEW.out)
      | some a =>
        obtain ⟨sb, o, rfl⟩ : ∃ sb o, a = ⟨sb, o, none⟩ := by
          rcases HR.out with ⟨h, _⟩ | ⟨b', o', c', cur, h, _⟩
          · cases h
          · cases h; exact ⟨_, _, rfl⟩
        go_wp2
        refine wp_region_noPanic ?_
        refine wp_region_N 22 (fun w1 => w1.cell? ⟨b, 0, none⟩ = some (.slice (some ⟨sb, o, none⟩) m.length c) ∧ Upd NoB w' w1) (by kernel_rfl) ⟨h0, Upd.drew _ _⟩ ?_
        intro hS
        (refine wpAnyN_take 0 (oi := ?oi41) (v := ?v41) ?hi41 (by kernel_rfl) (fun _ _ _ h => h) (by assumption) ?hy41 ?hk41; (case hi41 => (simp only [List.getElem?_toArray, List.getElem?_cons_zero, List.getElem?_cons_succ]; try rfl)); (case hy41 => (refine Or.inl ⟨by rfl, ?_⟩; intro wq hSw; (try dsimp only at hSw); go_split_ands; (try go_simp); (try with_reducible rfl))); simp only [Act.put, List.setIfInBounds_toArray, List.set_cons_zero, List.set_cons_succ]); (refine wpAnyN_take 1 (oi := ?oi42) (v := ?v42) ?hi42 (by kernel_rfl) (fun _ _ _ h => h) (by assumption) ?hy42 ?hk42; (case hi42 => (simp only [List.getElem?_toArray, List.getElem?_cons_zero, List.getElem?_cons_succ]; try rfl)); (case hy42 => (refine Or.inl ⟨by rfl, ?_⟩; intro wq hSw; (try dsimp only at hSw); go_split_ands; (try go_simp); (try with_reducible rfl))); simp only [Act.put, List.setIfInBounds_toArray, List.set_cons_zero, List.set_cons_succ]); (refine wpAnyN_take 2 (oi := ?oi43) (v := ?v43) ?hi43 (by kernel_rfl) (fun _ _ _ h => h) (by assumption) ?hy43 ?hk43; (case hi43 => (simp only [List.getElem?_toArray, List.getElem?_cons_zero, List.getElem?_cons_succ]; try rfl)); (case hy43 => (refine Or.inl ⟨by rfl, ?_⟩; intro wq hSw; (try dsimp only at hSw); go_split_ands; (try go_simp); (try with_reducible rfl))); simp only [Act.put, List.setIfInBounds_toArray, List.set_cons_zero, List.set_cons_succ]); (refine wpAnyN_take 3 (oi := ?oi44) (v := ?v44) ?hi44 (by kernel_rfl) (fun _ _ _ h => h) (by assumption) ?hy44 ?hk44; (case hi44 => (simp only [List.getElem?_toArray, List.getElem?_cons_zero, List.getElem?_cons_succ]; try rfl)); (case hy44 => (refine Or.inl ⟨by rfl, ?_⟩; intro wq hSw; (try dsimp only at hSw); go_split_ands; (try go_simp); (try with_reducible rfl))); simp only [Act.put, List.setIfInBounds_toArray, List.set_cons_zero, List.set_cons_succ]); (refine wpAnyN_take 4 (oi := ?oi45) (v := ?v45) ?hi45 (by kernel_rfl) (fun _ _ _ h => h) (by assumption) ?hy45 ?hk45; (case hi45 => (simp only [List.getElem?_toArray, List.getElem?_cons_zero, List.getElem?_cons_succ]; try rfl)); (case hy45 => (refine Or.inl ⟨by rfl, ?_⟩; intro wq hSw; (try dsimp only at hSw); go_split_ands; (try go_simp); (try with_reducible rfl))); simp only [Act.put, List.setIfInBounds_toArray, List.set_cons_zero, List.set_cons_succ]); (refine wpAnyN_take 5 (oi := ?oi46) (v := ?v46) ?hi46 (by kernel_rfl) (fun _ _ _ h => h) (by assumption) ?hy46 ?hk46; (case hi46 => (simp only [List.getElem?_toArray, List.getElem?_cons_zero, List.getElem?_cons_succ]; try rfl)); (case hy46 => (refine Or.inl ⟨by rfl, ?_⟩; intro wq hSw; (try dsimp only at hSw); go_split_ands; (try go_simp); (try with_reducible rfl))); simp only [Act.put, List.setIfInBounds_toArray, List.set_cons_zero, List.set_cons_succ]); (refine wpAnyN_take 6 (oi := ?oi47) (v := ?v47) ?hi47 (by kernel_rfl) (fun _ _ _ h => h) (by assumption) ?hy47 ?hk47; (case hi47 => (simp only [List.getElem?_toArray, List.getElem?_cons_zero, List.getElem?_cons_succ]; try rfl)); (case hy47 => (refine Or.inl ⟨by rfl, ?_⟩; intro wq hSw; (try dsimp only at hSw); go_split_ands; (try go_simp); (try with_reducible rfl))); simp only [Act.put, List.setIfInBounds_toArray, List.set_cons_zero, List.set_cons_succ]); (refine wpAnyN_take 8 (oi := ?oi48) (v := ?v48) ?hi48 (by kernel_rfl) (fun _ _ _ h => h) (by assumption) ?hy48 ?hk48; (case hi48 => (simp only [List.getElem?_toArray, List.getElem?_cons_zero, List.getElem?_cons_succ]; try rfl)); (case hy48 => (refine Or.inl ⟨by rfl, ?_⟩; intro wq hSw; (try dsimp only at hSw); go_split_ands; (try go_simp); (try with_reducible rfl))); simp only [Act.put, List.setIfInBounds_toArray, List.set_cons_zero, List.set_cons_succ]); (refine wpAnyN_take 9 (oi := ?oi49) (v := ?v49) ?hi49 (by kernel_rfl) (fun _ _ _ h => h) (by assumption) ?hy49 ?hk49; (case hi49 => (simp only [List.getElem?_toArray, List.getElem?_cons_zero, List.getElem?_cons_succ]; try rfl)); (case hy49 => (refine Or.inl ⟨by rfl, ?_⟩; intro wq hSw; (try dsimp only at hSw); go_split_ands; (try go_simp); (try with_reducible rfl))); simp only [Act.put, List.setIfInBounds_toArray, List.set_cons_zero, List.set_cons_succ]); (refine wpAnyN_take 10 (oi := ?oi50) (v := ?v50) ?hi50 (by kernel_rfl) (fun _ _ _ h => h) (by assumption) ?hy50 ?hk50; (case hi50 => (simp only [List.getElem?_toArray, List.getElem?_cons_zero, List.getElem?_cons_succ]; try rfl)); (case hy50 => (refine Or.inl ⟨by rfl, ?_⟩; intro wq hSw; (try dsimp only at hSw); go_split_ands; (try go_simp); (try with_reducible rfl))); simp only [Act.put, List.setIfInBounds_toArray, List.set_cons_zero, List.set_cons_succ]); (refine wpAnyN_take 13 (oi := ?oi51) (v := ?v51) ?hi51 (by kernel_rfl) (fun _ _ _ h => h) (by assumption) ?hy51 ?hk51; (case hi51 => (simp only [List.getElem?_toArray, List.getElem?_cons_zero, List.getElem?_cons_succ]; try rfl)); (case hy51 => (refine Or.inl ⟨by rfl, ?_⟩; intro wq hSw; (try dsimp only at hSw); go_split_ands; (try go_simp); (try with_reducible rfl))); simp only [Act.put, List.setIfInBounds_toArray, List.set_cons_zero, List.set_cons_succ]); (refine wpAnyN_take 14 (oi := ?oi52) (v := ?v52) ?hi52 (by kernel_rfl) (fun _ _ _ h => h) (by assumption) ?hy52 ?hk52; (case hi52 => (simp only [List.getElem?_toArray, List.getElem?_cons_zero, List.getElem?_cons_succ]; try rfl)); (case hy52 => (refine Or.inl ⟨by rfl, ?_⟩; intro wq hSw; (try dsimp only at hSw); go_split_ands; (try go_simp); (try with_reducible rfl))); simp only [Act.put, List.setIfInBounds_toArray, List.set_cons_zero, List.set_cons_succ]); (refine wpAnyN_take 15 (oi := ?oi53) (v := ?v53) ?hi53 (by kernel_rfl) (fun _ _ _ h => h) (by assumption) ?hy53 ?hk53; (case hi53 => (simp only [List.getElem?_toArray, List.getElem?_cons_zero, List.getElem?_cons_succ]; try rfl)); (case hy53 => (refine Or.inl ⟨by rfl, ?_⟩; intro wq hSw; (try dsimp only at hSw); go_split_ands; (try go_simp); (try with_reducible rfl))); simp only [Act.put, List.setIfInBounds_toArray, List.set_cons_zero, List.set_cons_succ]); (refine wpAnyN_take 16 (oi := ?oi54) (v := ?v54) ?hi54 (by kernel_rfl) (fun _ _ _ h => h) (by assumption) ?hy54 ?hk54; (case hi54 => (simp only [List.getElem?_toArray, List.getElem?_cons_zero, List.getElem?_cons_succ]; try rfl)); (case hy54 => (refine Or.inl ⟨by rfl, ?_⟩; intro wq hSw; (try dsimp only at hSw); go_split_ands; (try go_simp); (try with_reducible rfl))); simp only [Act.put, List.setIfInBounds_toArray, List.set_cons_zero, List.set_cons_succ]); (refine wpAnyN_take 17 (oi := ?oi55) (v := ?v55) ?hi55 (by kernel_rfl) (fun _ _ _ h => h) (by assumption) ?hy55 ?hk55; (case hi55 => (simp only [List.getElem?_toArray, List.getElem?_cons_zero, List.getElem?_cons_succ]; try rfl)); (case hy55 => (refine Or.inl ⟨by rfl, ?_⟩; intro wq hSw; (try dsimp only at hSw); go_split_ands; (try go_simp); (try with_reducible rfl))); simp only [Act.put, List.setIfInBounds_toArray, List.set_cons_zero, List.set_cons_succ]); (refine wpAnyN_take 18 (oi := ?oi56) (v := ?v56) ?hi56 (by kernel_rfl) (fun _ _ _ h => h) (by assumption) ?hy56 ?hk56; (case hi56 => (simp only [List.getElem?_toArray, List.getElem?_cons_zero, List.getElem?_cons_succ]; try rfl)); (case hy56 => (refine Or.inl ⟨by rfl, ?_⟩; intro wq hSw; (try dsimp only at hSw); go_split_ands; (try go_simp); (try with_reducible rfl))); simp only [Act.put, List.setIfInBounds_toArray, List.set_cons_zero, List.set_cons_succ])
        (refine wpAnyN_all [7, 11] (by kernel_rfl) ?_; refine AllN.cons (by simp only [List.getElem?_toArray, List.getElem?_cons_zero, List.getElem?_cons_succ]; try rfl) (fun K hK => ?_) (AllN.cons (by simp only [List.getElem?_toArray, List.getElem?_cons_zero, List.getElem?_cons_succ]; try rfl) (fun K hK => ?_) AllN.nil))
        · refine step_append_new w' ⟨rfl, rfl, rfl, rfl⟩ Try.underlying27 etyRs (Row.nil slE 61 _) (fun _ h => h.elim) (Upd.drew _ _) (rd_take (HR.out.upd (G := NoB) (Upd.drew _ _) (fun _ _ h => h)) hk) (by simp; omega) ?_
          intro v1 w1 F1 hr1 u1 s1 f1
          refine hK.out _ _ (fun _ => ⟨cell_keep u1 h0 hbl, u1⟩) ?_
          clear hK K
          (try simp only [Act.put, List.setIfInBounds_toArray, List.set_cons_zero, List.set_cons_succ])
          (refine wpAnyN_all [11] (by kernel_rfl) ?_; refine AllN.cons (by simp only [List.getElem?_toArray, List.getElem?_cons_zero, List.getElem?_cons_succ]; try rfl) (fun K hK => ?_) AllN.nil)
          go_simp
          refine hK.out _ _ (fun _ => ⟨cell_keep (u1.trans (Upd.alloc _ _ _)) h0 hbl, u1.trans (Upd.alloc _ _ _)⟩) ?_
          clear hK K
          (try simp only [Act.put, List.setIfInBounds_toArray, List.set_cons_zero, List.set_cons_succ])
          (refine wpAnyN_all [12] (by kernel_rfl) ?_; refine AllN.cons (by simp only [List.getElem?_toArray, List.getElem?_cons_zero, List.getElem?_cons_succ]; try rfl) (fun K hK => ?_) AllN.nil)
          refine step_append_new w' ⟨rfl, rfl, rfl, rfl⟩ Try.underlying27 etyRs (hr1.upd (G := NoB) (Upd.alloc _ _ _) (fun _ _ h => h)) f1 (u1.trans (Upd.alloc _ _ _)) (Rd.one (x := (id, u)) (T' := 61) (Blk.new w1 _ (slE.enc (id, u)))) (by simp; omega) ?_
          intro v2 w2 F2 hr2 u2 s2 f2
          refine hK.out _ _ (fun _ => ⟨cell_keep u2 h0 hbl, u2⟩) ?_
          clear hK K
          (try simp only [Act.put, List.setIfInBounds_toArray, List.set_cons_zero, List.set_cons_succ])
          (refine wpAnyN_all [19] (by kernel_rfl) ?_; refine AllN.cons (by simp only [List.getElem?_toArray, List.getElem?_cons_zero, List.getElem?_cons_succ]; try rfl) (fun K hK => ?_) AllN.nil)
          refine step_append_new w' ⟨rfl, rfl, rfl, rfl⟩ Try.underlying27 etyRs hr2 f2 u2 (rd_drop (HR.out.upd u2 (fun _ _ h => h)) hk) (by simp; omega) ?_
          intro v3 w3 F3 hr3 u3 s3 f3
          have hS3 : (w3.cell? ⟨b, 0, none⟩ = some (.slice (some ⟨sb, o, none⟩) m.length c) ∧ Upd NoB w' w3) := ⟨cell_keep u3 h0 hbl, u3⟩
          refine hK.out _ _ (fun _ => hS3) ?_
          clear hK K
          (try simp only [Act.put, List.setIfInBounds_toArray, List.set_cons_zero, List.set_cons_succ])
          (refine wpAnyN_take 20 (oi := ?oi57) (v := ?v57) ?hi57 (by kernel_rfl) (fun _ _ _ h => h) (by assumption) ?hy57 ?hk57; (case hi57 => (simp only [List.getElem?_toArray, List.getElem?_cons_zero, List.getElem?_cons_succ]; try rfl)); (case hy57 => (refine Or.inl ⟨by rfl, ?_⟩; intro wq hSw; (try dsimp only at hSw); go_split_ands; (try go_simp); (try with_reducible rfl))); simp only [Act.put, List.setIfInBounds_toArray, List.set_cons_zero, List.set_cons_succ]); (refine wpAnyN_take 21 (oi := ?oi58) (v := ?v58) ?hi58 (by kernel_rfl) (fun _ _ _ h => h) (by assumption) ?hy58 ?hk58; (case hi58 => (simp only [List.getElem?_toArray, List.getElem?_cons_zero, List.getElem?_cons_succ]; try rfl)); (case hy58 => (refine Or.inl ⟨by rfl, ?_⟩; intro wq hSw; (try dsimp only at hSw); go_split_ands; (try go_simp); (try with_reducible rfl))); simp only [Act.put, List.setIfInBounds_toArray, List.set_cons_zero, List.set_cons_succ])
          rw [← E1.out, ← E2.out] at hr3
          have hr3' : Row slE 61 w3 F3 v3 R := by rw [HSET.out]; simpa using hr3
          clear hr3
          have hr3 := hr3'
          clear hr3'
          obtain ⟨ao3, c3, rfl, _⟩ := row_form hr3
          have gf := (HB.out.upd u3 (fun h => h)).frozen 0
          have gc := cell_keep u3 h0 hbl
          have hnew := PsAt.put (R := .tuple #[]) HB.out HNB.out (u3.mono (fun x _ hx => hx.elim)) hr3 (fun x hx => .inr (f3 x hx))
          have HNEW := Lib.hid hnew
          clear hnew hr3 hr2 hr1 u1 u2 s1 s2 s3 f1 f2 f3 hS3
          (refine wpAnyN_all [22] (by kernel_rfl) ?_; refine AllN.cons (by simp only [List.getElem?_toArray, List.getElem?_cons_zero, List.getElem?_cons_succ]; try rfl) (fun K hK => ?_) AllN.nil)
          go_simp
          refine hK.out _ _ (fun h => absurd rfl h) ?_
          clear hK K
          (try simp only [Act.put, List.setIfInBounds_toArray, List.set_cons_zero, List.set_cons_succ])
          refine wpAnyN_done (by kernel_rfl) ?_
          refine NoPanic.normal ?_
          (go_end0; exact set_end HU1.out HF1.out HNEW.out)
        · go_simp
          refine hK.out _ _ (fun _ => ⟨cell_keep ((Upd.drew _ _).trans (Upd.alloc _ _ _)) h0 hbl, (Upd.drew _ _).trans (Upd.alloc _ _ _)⟩) ?_
          clear hK K
          (try simp only [Act.put, List.setIfInBounds_toArray, List.set_cons_zero, List.set_cons_succ])
          (refine wpAnyN_all [7] (by kernel_rfl) ?_; refine AllN.cons (by simp only [List.getElem?_toArray, List.getElem?_cons_zero, List.getElem?_cons_succ]; try rfl) (fun K hK => ?_) AllN.nil)
          refine step_append_new w' ⟨rfl, rfl, rfl, rfl⟩ Try.underlying27 etyRs (Row.nil slE 61 _) (fun _ h => h.elim) ((Upd.drew _ _).trans (Upd.alloc _ _ _)) (rd_take (HR.out.upd (G := NoB) ((Upd.drew _ _).trans (Upd.alloc _ _ _)) (fun _ _ h => h)) hk) (by simp; omega) ?_
          intro v1 w1 F1 hr1 u1 s1 f1
          refine hK.out _ _ (fun _ => ⟨cell_keep u1 h0 hbl, u1⟩) ?_
          clear hK K
          (try simp only [Act.put, List.setIfInBounds_toArray, List.set_cons_zero, List.set_cons_succ])
          (refine wpAnyN_all [12] (by kernel_rfl) ?_; refine AllN.cons (by simp only [List.getElem?_toArray, List.getElem?_cons_zero, List.getElem?_cons_succ]; try rfl) (fun K hK => ?_) AllN.nil)
          refine step_append_new w' ⟨rfl, rfl, rfl, rfl⟩ Try.underlying27 etyRs (hr1.upd (G := NoB) (Upd.refl _ _) (fun _ _ h => h)) f1 u1 (Rd.one (x := (id, u)) (T' := 61) (Blk.upd (F := NoB) (Blk.upd (F := NoB) (Blk.new w' _ (slE.enc (id, u))) (Upd.drew _ _) (fun h => h)) s1 (fun h => h))) (by simp; omega) ?_
          intro v2 w2 F2 hr2 u2 s2 f2
          refine hK.out _ _ (fun _ => ⟨cell_keep u2 h0 hbl, u2⟩) ?_
          clear hK K
          (try simp only [Act.put, List.setIfInBounds_toArray, List.set_cons_zero, List.set_cons_succ])
          (refine wpAnyN_all [19] (by kernel_rfl) ?_; refine AllN.cons (by simp only [List.getElem?_toArray, List.getElem?_cons_zero, List.getElem?_cons_succ]; try rfl) (fun K hK => ?_) AllN.nil)
          refine step_append_new w' ⟨rfl, rfl, rfl, rfl⟩ Try.underlying27 etyRs hr2 f2 u2 (rd_drop (HR.out.upd u2 (fun _ _ h => h)) hk) (by simp; omega) ?_
          intro v3 w3 F3 hr3 u3 s3 f3
          have hS3 : (w3.cell? ⟨b, 0, none⟩ = some (.slice (some ⟨sb, o, none⟩) m.length c) ∧ Upd NoB w' w3) := ⟨cell_keep u3 h0 hbl, u3⟩
          refine hK.out _ _ (fun _ => hS3) ?_
          clear hK K
          (try simp only [Act.put, List.setIfInBounds_toArray, List.set_cons_zero, List.set_cons_succ])
          (refine wpAnyN_take 20 (oi := ?oi59) (v := ?v59) ?hi59 (by kernel_rfl) (fun _ _ _ h => h) (by assumption) ?hy59 ?hk59; (case hi59 => (simp only [List.getElem?_toArray, List.getElem?_cons_zero, List.getElem?_cons_succ]; try rfl)); (case hy59 => (refine Or.inl ⟨by rfl, ?_⟩; intro wq hSw; (try dsimp only at hSw); go_split_ands; (try go_simp); (try with_reducible rfl))); simp only [Act.put, List.setIfInBounds_toArray, List.set_cons_zero, List.set_cons_succ]); (refine wpAnyN_take 21 (oi := ?oi60) (v := ?v60) ?hi60 (by kernel_rfl) (fun _ _ _ h => h) (by assumption) ?hy60 ?hk60; (case hi60 => (simp only [List.getElem?_toArray, List.getElem?_cons_zero, List.getElem?_cons_succ]; try rfl)); (case hy60 => (refine Or.inl ⟨by rfl, ?_⟩; intro wq hSw; (try dsimp only at hSw); go_split_ands; (try go_simp); (try with_reducible rfl))); simp only [Act.put, List.setIfInBounds_toArray, List.set_cons_zero, List.set_cons_succ])
          rw [← E1.out, ← E2.out] at hr3
          have hr3' : Row slE 61 w3 F3 v3 R := by rw [HSET.out]; simpa using hr3
          clear hr3
          have hr3 := hr3'
          clear hr3'
          obtain ⟨ao3, c3, rfl, _⟩ := row_form hr3
          have gf := (HB.out.upd u3 (fun h => h)).frozen 0
          have gc := cell_keep u3 h0 hbl
          have hnew := PsAt.put (R := .tuple #[]) HB.out HNB.out (u3.mono (fun x _ hx => hx.elim)) hr3 (fun x hx => .inr (f3 x hx))
          have HNEW := Lib.hid hnew
          clear hnew hr3 hr2 hr1 u1 u2 s1 s2 s3 f1 f2 f3 hS3
          (refine wpAnyN_all [22] (by kernel_rfl) ?_; refine AllN.cons (by simp only [List.getElem?_toArray, List.getElem?_cons_zero, List.getElem?_cons_succ]; try rfl) (fun K hK => ?_) AllN.nil)
          go_simp
          refine hK.out _ _ (fun h => absurd rfl h) ?_
          clear hK K
          (try simp only [Act.put, List.setIfInBounds_toArray, List.set_cons_zero, List.set_cons_succ])
          refine wpAnyN_done (by kernel_rfl) ?_
          refine NoPanic.normal ?_
          (go_end0; exact set_end HU1.out HF1.out HNEW.out)
end Go.Proofs.Ytgkhnmeemiloaaa
