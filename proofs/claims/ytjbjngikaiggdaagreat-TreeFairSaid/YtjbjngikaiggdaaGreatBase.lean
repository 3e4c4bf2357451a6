/- Words of our own for the walks: rows of elements in memory, what may have changed. Conditions: none. -/
import Derived.Test.YtjbjngikaiggdaaGreatProg
import Derived.WalkKit
import Derived.WalkLawsBesides
import Derived.WalkSpells
import Derived.Lib.Hide
import Derived.Deep.LoopGhost
import Derived.Deep.QuietTactic
import Derived.BigQuiet
import Derived.RowKit3
namespace Go.Proofs.YtjbjngikaiggdaaGreat
open Go.RowKit

/-- What may have changed: blocks of F, and new ones. -/
structure Upd (F : Nat → Prop) (w w' : World) : Prop where
  os : w'.os = w.os
  tape : w'.tape = w.tape
  output : w'.output = w.output
  size : w.heap.size ≤ w'.heap.size
  keep : ∀ b, b < w.heap.size → ¬ F b → w'.heap[b]? = w.heap[b]?

def NoB : Nat → Prop := fun _ => False
def OneB (b : Nat) : Nat → Prop := fun x => x = b
def OrB (F G : Nat → Prop) : Nat → Prop := fun x => F x ∨ G x

theorem Upd.refl (F : Nat → Prop) (w : World) : Upd F w w := ⟨rfl, rfl, rfl, Nat.le_refl _, fun _ _ _ => rfl⟩
theorem Upd.mono {F G : Nat → Prop} {w w' : World} (h : Upd F w w') (hs : ∀ b, b < w.heap.size → F b → G b) : Upd G w w' :=
  ⟨h.os, h.tape, h.output, h.size, fun b hb hn => h.keep b hb (fun hf => hn (hs b hb hf))⟩
theorem Upd.trans {F : Nat → Prop} {a b c : World} (h : Upd F a b) (k : Upd F b c) : Upd F a c :=
  ⟨k.os.trans h.os, k.tape.trans h.tape, k.output.trans h.output, Nat.le_trans h.size k.size, fun i hi hn => (k.keep i (Nat.lt_of_lt_of_le hi h.size) hn).trans (h.keep i hi hn)⟩
/-- The second step may change what the first one could, and what was new to it. -/
theorem Upd.then {F G : Nat → Prop} {a b c : World} (h : Upd F a b) (k : Upd G b c) (hs : ∀ x, x < a.heap.size → G x → F x) : Upd F a c :=
  ⟨k.os.trans h.os, k.tape.trans h.tape, k.output.trans h.output, Nat.le_trans h.size k.size, fun i hi hn => (k.keep i (Nat.lt_of_lt_of_le hi h.size) (fun hg => hn (hs i hi hg))).trans (h.keep i hi hn)⟩
theorem Upd.below {w w' : World} (h : Upd NoB w w') : Below w.heap.size w w' := ⟨h.os, h.tape, h.output, h.size, fun b hb => h.keep b hb (fun x => x)⟩
theorem Upd.ofBelow {w w' : World} {F : Nat → Prop} (h : Below w.heap.size w w') : Upd F w w' := ⟨h.os, h.tape, h.output, h.size, fun b hb _ => h.block b hb⟩
theorem Upd.ofGrown {w w' : World} {r : Option Nat} {F : Nat → Prop} (h : w.grownBy w' r) (hr : ∀ b, r = some b → F b) : Upd F w w' :=
  ⟨h.os, h.tape, h.output, h.size, fun b hb hn => h.block b hb (fun e => hn (hr b e.symm))⟩
theorem Upd.toBelow {B : Nat} {w w' : World} {F : Nat → Prop} (h : Upd F w w') (hB : B ≤ w.heap.size) (hF : ∀ b, F b → B ≤ b) : Below B w w' :=
  ⟨h.os, h.tape, h.output, h.size, fun b hb => h.keep b (Nat.lt_of_lt_of_le hb hB) (fun hf => by have := hF b hf; omega)⟩
theorem Upd.drew (F : Nat → Prop) (w : World) : Upd F w w.drew := ⟨rfl, rfl, rfl, Nat.le_refl _, fun _ _ _ => rfl⟩
theorem Upd.drewN (F : Nat → Prop) (w : World) (n : Nat) : Upd F w (w.drewN n) := ⟨rfl, rfl, rfl, Nat.le_refl _, fun _ _ _ => rfl⟩
theorem Upd.alloc (F : Nat → Prop) (w : World) (o : Obj) : Upd F w (w.alloc o) := ⟨rfl, rfl, rfl, by simp, fun b hb _ => Below.heap_alloc w o b hb⟩
theorem Upd.setCell {F : Nat → Prop} (w : World) (a : Addr) (v : Value) (h : F a.block) : Upd F w (w.setCell a v) :=
  ⟨rfl, rfl, rfl, by simp [World.setCell], fun b _ hn => Below.heap_setCell w a v b (fun e => hn (e ▸ h))⟩
theorem Upd.lt {F : Nat → Prop} {w w' : World} (h : Upd F w w') {b : Nat} (hb : b < w.heap.size) : b < w'.heap.size := Nat.lt_of_lt_of_le hb h.size

/-- A block of cells. -/
def Blk (w : World) (b : Nat) (T : TypeId) (cs : List Value) : Prop := w.heap[b]? = some (.cells cs.toArray T (0, 0))
theorem Blk.lt {w : World} {b : Nat} {T : TypeId} {cs : List Value} (h : Blk w b T cs) : b < w.heap.size := lt_of_block h
theorem Blk.cell {w : World} {b : Nat} {T : TypeId} {cs : List Value} (h : Blk w b T cs) (j : Nat) : w.cell? ⟨b, j, none⟩ = cs[j]? := by
  rw [cell_of_row w b j _ T (0, 0) h]; simp
theorem Blk.frozen {w : World} {b : Nat} {T : TypeId} {cs : List Value} (h : Blk w b T cs) (j : Nat) : w.frozen? ⟨b, j, none⟩ = false := by
  have h' : w.heap[b]? = some (.cells cs.toArray T (0, 0)) := h
  simp [World.frozen?, h']
theorem Blk.upd {w w' : World} {F : Nat → Prop} {b : Nat} {T : TypeId} {cs : List Value} (h : Blk w b T cs) (u : Upd F w w') (hn : ¬ F b) : Blk w' b T cs :=
  (u.keep b h.lt hn).trans h
theorem Blk.set {w : World} {b : Nat} {T : TypeId} {cs : List Value} (h : Blk w b T cs) (j : Nat) (v : Value) : Blk (w.setCell ⟨b, j, none⟩ v) b T (cs.set j v) := by
  have h' : w.heap[b]? = some (.cells cs.toArray T (0, 0)) := h
  simp [Blk, World.setCell, Array.getElem?_modify, h']
theorem Blk.new (w : World) (T : TypeId) (cs : List Value) : Blk (w.alloc (.cells cs.toArray T)) w.heap.size T cs := heap_alloc_new w _

/-- How an element lies in cells. -/
structure Enc (α : Type) where
  k : Nat
  kpos : 0 < k
  enc : α → List Value
  len : ∀ a, (enc a).length = k
  one : ∀ a, ∀ u ∈ enc a, u.oneCell' = true
variable {α : Type}
def Enc.flat (E : Enc α) (xs : List α) : List Value := xs.flatMap E.enc
theorem Enc.flat_nil (E : Enc α) : E.flat [] = [] := rfl
theorem Enc.flat_append (E : Enc α) (xs ys : List α) : E.flat (xs ++ ys) = E.flat xs ++ E.flat ys := by simp [Enc.flat]
theorem Enc.flat_cons (E : Enc α) (x : α) (ys : List α) : E.flat (x :: ys) = E.enc x ++ E.flat ys := by simp [Enc.flat]
theorem Enc.flat_one (E : Enc α) (x : α) : E.flat [x] = E.enc x := by simp [Enc.flat]
theorem Enc.flat_length (E : Enc α) (xs : List α) : (E.flat xs).length = xs.length * E.k := by
  induction xs with
  | nil => simp [Enc.flat]
  | cons x xs ih => rw [Enc.flat_cons, List.length_append, ih, E.len, List.length_cons, Nat.add_mul]; omega
theorem Enc.flat_one' (E : Enc α) (xs : List α) : ∀ u ∈ E.flat xs, u.oneCell' = true := by
  intro u hu
  obtain ⟨x, _, hx⟩ := List.mem_flatMap.1 hu
  exact E.one x u hx
theorem Enc.flat_get (E : Enc α) : ∀ (xs : List α) (i j : Nat) (x : α), xs[i]? = some x → j < E.k → (E.flat xs)[i * E.k + j]? = (E.enc x)[j]?
  | [], i, j, x, h, _ => by simp at h
  | y :: xs, 0, j, x, h, hj => by
    simp at h; subst h
    rw [Enc.flat_cons, Nat.zero_mul, Nat.zero_add, List.getElem?_append_left (by rw [E.len]; exact hj)]
  | y :: xs, i + 1, j, x, h, hj => by
    rw [Enc.flat_cons, List.getElem?_append_right (by rw [E.len, Nat.add_mul]; omega), E.len]
    have : (i + 1) * E.k + j - E.k = i * E.k + j := by rw [Nat.add_mul]; omega
    rw [this]
    exact Enc.flat_get E xs i j x (by simpa using h) hj
theorem Enc.flat_take (E : Enc α) : ∀ (xs : List α) (n : Nat), (E.flat xs).take (n * E.k) = E.flat (xs.take n)
  | [], n => by simp [Enc.flat]
  | x :: xs, 0 => by simp [Enc.flat]
  | x :: xs, n + 1 => by
    rw [Enc.flat_cons, List.take_succ_cons, Enc.flat_cons, Nat.add_mul, Nat.one_mul, List.take_append, E.len, ← Enc.flat_take E xs n]
    rw [List.take_of_length_le (by rw [E.len]; omega)]
    congr 2; omega
theorem Enc.flat_drop (E : Enc α) : ∀ (xs : List α) (n : Nat), (E.flat xs).drop (n * E.k) = E.flat (xs.drop n)
  | [], n => by simp [Enc.flat]
  | x :: xs, 0 => by simp [Enc.flat]
  | x :: xs, n + 1 => by
    rw [Enc.flat_cons, List.drop_succ_cons, Nat.add_mul, Nat.one_mul, List.drop_append, E.len, ← Enc.flat_drop E xs n]
    rw [List.drop_of_length_le (by rw [E.len]; omega), List.nil_append]
    congr 1; omega

def intE : Enc Int := ⟨1, by decide, fun n => [.int .i64 n], fun _ => rfl, by intro a u hu; simp at hu; subst hu; rfl⟩

/-- A row of elements that a slice value shows: nil, or so many elements from a place of a block on, with room behind them. F: its block. -/
def Row (E : Enc α) (T : TypeId) (w : World) (F : Nat → Prop) (v : Value) (xs : List α) : Prop :=
  (v = .slice none 0 0 ∧ xs = [] ∧ F = NoB) ∨
  ∃ b o c cur, v = .slice (some ⟨b, o, none⟩) xs.length c ∧ F = OneB b ∧ w.heap[b]? = some (.cells cur T (0, 0)) ∧ xs.length ≤ c ∧ c ≤ maxLen ∧ o + c * E.k ≤ cur.size ∧ (cur.toList.drop o).take (xs.length * E.k) = E.flat xs

/-- What a slice value shows, to be read. -/
def Rd (E : Enc α) (w : World) (v : Value) (xs : List α) : Prop :=
  ∃ ao c, v = .slice ao xs.length c ∧ xs.length ≤ c ∧ c ≤ maxLen ∧ (ao = none → xs = [] ∧ c = 0) ∧
    ∀ a, ao = some a → ∀ j u, (E.flat xs)[j]? = some u → w.cell? (a.add j) = some u

section
variable {E : Enc α} {T : TypeId} {w w' : World} {F G : Nat → Prop} {v : Value} {xs : List α}
theorem Row.nil (E : Enc α) (T : TypeId) (w : World) : Row E T w NoB (.slice none 0 0) [] := .inl ⟨rfl, rfl, rfl⟩
theorem Row.lt (h : Row E T w F v xs) : ∀ b, F b → b < w.heap.size := by
  rcases h with ⟨_, _, rfl⟩ | ⟨b, o, c, cur, _, rfl, hb, _⟩
  · intro b hb; exact hb.elim
  · intro x hx; cases hx; exact lt_of_block hb
theorem Row.upd (h : Row E T w F v xs) (u : Upd G w w') (hd : ∀ b, F b → ¬ G b) : Row E T w' F v xs := by
  rcases h with h | ⟨b, o, c, cur, h1, rfl, hb, r⟩
  · exact .inl h
  · exact .inr ⟨b, o, c, cur, h1, rfl, (u.keep b (lt_of_block hb) (hd b rfl)).trans hb, r⟩
theorem Row.rd (h : Row E T w F v xs) : Rd E w v xs := by
  rcases h with ⟨rfl, rfl, _⟩ | ⟨b, o, c, cur, rfl, _, hb, h1, h2, h3, h4⟩
  · exact ⟨none, 0, rfl, Nat.le_refl _, by simp [maxLen], fun _ => ⟨rfl, rfl⟩, fun a ha => by cases ha⟩
  · refine ⟨some ⟨b, o, none⟩, c, rfl, h1, h2, fun h => (by cases h), fun a ha => ?_⟩
    cases ha
    intro j u hu
    rw [Addr.add_lit, cell_of_row w b (o + j) cur T (0, 0) hb]
    rw [← h4, List.getElem?_take] at hu
    split at hu
    · rw [List.getElem?_drop] at hu; simpa using hu
    · cases hu
theorem Row.frozen (h : Row E T w F v xs) {b o c : Nat} (hv : v = .slice (some ⟨b, o, none⟩) xs.length c) (j : Nat) : w.frozen? ⟨b, j, none⟩ = false := by
  rcases h with ⟨rfl, _, _⟩ | ⟨b', o', c', cur, rfl, _, hb, _⟩
  · cases hv
  · cases hv; simp [World.frozen?, hb]
theorem addr_block (a : Addr) (j : Nat) : (a.add j).block = a.block := by unfold Addr.add; split <;> rfl
theorem Rd.upd (h : Rd E w v xs) (u : Upd G w w') (hd : ∀ a c, v = .slice (some a) xs.length c → xs ≠ [] → a.block < w.heap.size → ¬ G a.block) : Rd E w' v xs := by
  obtain ⟨ao, c, rfl, h1, h2, h3, h4⟩ := h
  refine ⟨ao, c, rfl, h1, h2, h3, fun a ha j u' hu => ?_⟩
  subst ha
  have hc := h4 a rfl j u' hu
  have hlt : a.block < w.heap.size := by have := World.block_lt_of_cell? w _ hc; rwa [addr_block] at this
  have hne : xs ≠ [] := by rintro rfl; simp [Enc.flat] at hu
  exact (World.cell?_of_block (w := w) (a := a.add j) (u.keep _ (by rw [addr_block]; exact hlt) (by rw [addr_block]; exact hd a c rfl hne hlt))).trans hc
/-- The cell of an element. -/
theorem Rd.at (h : Rd E w v xs) {i : Nat} (hi : i < xs.length) : ∃ b o c, v = .slice (some ⟨b, o, none⟩) xs.length c ∧ xs.length ≤ c ∧ c ≤ maxLen ∧
    ∀ i j x u, xs[i]? = some x → (E.enc x)[j]? = some u → w.cell? ⟨b, o + i * E.k + j, none⟩ = some u := by
  obtain ⟨ao, c, rfl, h1, h2, h3, h4⟩ := h
  cases ao with
  | none => have := (h3 rfl).1; subst this; simp at hi
  | some a =>
    obtain ⟨b, o, s⟩ := a
    have hc := h4 _ rfl
    have hs : s = none := by
      obtain ⟨x, hx⟩ : ∃ x, xs[0]? = some x := ⟨xs[0]'(by omega), by simp⟩
      obtain ⟨u, hu⟩ : ∃ u, (E.enc x)[0]? = some u := ⟨(E.enc x)[0]'(by rw [E.len]; exact E.kpos), by simp⟩
      have h0 := hc 0 u (by have := Enc.flat_get E xs 0 0 x hx E.kpos; simp only [Nat.zero_mul, Nat.zero_add] at this; rw [this]; exact hu)
      cases s with
      | none => rfl
      | some z => simp [Addr.add, World.cell?] at h0; split at h0 <;> simp at h0
    subst hs
    refine ⟨b, o, c, rfl, h1, h2, fun i j x u hx hu => ?_⟩
    have hj : j < E.k := by have := (List.getElem?_eq_some_iff.1 hu).1; rwa [E.len] at this
    rw [Nat.add_assoc, ← Addr.add_lit]
    exact hc _ u (by rw [Enc.flat_get E xs i j x hx hj]; exact hu)
end
end Go.Proofs.YtjbjngikaiggdaaGreat
