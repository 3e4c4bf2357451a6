/- Texts put together: passq: New, isPass, Min, Len, Pass. passq: the search for a place; insert. passq: insert, Put, Drop, Rekey. math/bits.Len of small numbers: its walk. slices.SortFunc of entries that are in order: it changes nothing. Conditions: the row is in order. passq: All, Shift. slices.Insert, slices.Delete of one element at rows of int. Whole numbers below 2^53 as floats: exact, in their order, back again; sums and products. Whole numbers as floats: comparisons, sums, conversions as operations. Maps of numbers in G. Maps of numbers in G: gone through; an entry that goes; how many. errors.Is of numbered errors: its walk. passq: entries compared; errors; what the laws know first. Conditions: none. -/
import Derived.Test.YtlhjibkkkhgonaaGreatMgKb0
import Derived.Lib.BitFns
import Derived.Lib.Tables
import Derived.Laws.FloatArith
import Ieee.Arith
import Derived.MapKept
import Derived.WideLaws
import Derived.Laws.IdiomRangeMap
import Derived.LaidEql
import Derived.Stop.Asserts
import Derived.RowKitTokens
import Derived.Lib.IfaceEq
import Derived.Laws.StructEq
import Derived.ChangeKeysEq
set_option linter.unusedVariables false
set_option linter.unusedSimpArgs false
namespace Go.Proofs.YtlhjibkkkhgonaaGreat
open Go.RowKit G
/-- An index in memory: its entries, its room. -/
def idxS (b : Nat) (room : Int) (l : List (Int × Int)) : SP := exS fun p : Option Addr × Nat => two (blk b 130 [.slice p.1 l.length p.2, .int .i64 room]) (row slE 104 (.slice p.1 l.length p.2) l)
theorem Sat.idx {w : World} {H : List SP} {b : Nat} {A : Option Addr} {cap : Nat} {room : Int} {l : List (Int × Int)} (h : Sat w (blk b 130 [.slice A l.length cap, .int .i64 room] :: row slE 104 (.slice A l.length cap) l :: H)) : Sat w (idxS b room l :: H) := Sat.closeEx (A, cap) (Sat.closeTwo h)
theorem idx_open {Φ : World → Prop} {H : List SP} {b : Nat} {room : Int} {l : List (Int × Int)} (h : ∀ A cap w, Sat w (blk b 130 [.slice A l.length cap, .int .i64 room] :: row slE 104 (.slice A l.length cap) l :: H) → Φ w) : ∀ w, Sat w (idxS b room l :: H) → Φ w := fun w hs => by
  obtain ⟨⟨A, cap⟩, h2⟩ := Sat.openEx hs
  exact h A cap w (Sat.openTwo h2)
theorem idx_same {H : List SP} {b : Nat} {room : Int} {l : List (Int × Int)} {P : Program} {f : FuncId} {vs : Array Value} {v : Value} (h : ∀ A cap w, Sat w (blk b 130 [.slice A l.length cap, .int .i64 room] :: row slE 104 (.slice A l.length cap) l :: H) → Calls P f vs w (Ret (ι := Unit) (fun _ => v) fun _ => blk b 130 [.slice A l.length cap, .int .i64 room] :: row slE 104 (.slice A l.length cap) l :: H)) :
    ∀ w, Sat w (idxS b room l :: H) → Calls P f vs w (Ret (ι := Unit) (fun _ => v) fun _ => idxS b room l :: H) :=
  idx_open fun A cap w hs => (h A cap w hs).mono fun e w' ⟨_, he, hx⟩ => ⟨(), he, Sat.idx hx⟩
theorem find_idx (H : List SP) (b : Nat) (room : Int) (l : List (Int × Int)) (id : Int) (hl : l.length ≤ 1000000) : ∀ w, Sat w (idxS b room l :: H) → Calls Tryz.prog 81 #[.pointer (some ⟨b, 0, none⟩), .int .i64 id] w (Ret (ι := Unit) (fun _ => .int .i64 (findI l id)) fun _ => idxS b room l :: H) :=
  idx_same fun A cap => find_walk H b A cap room l id hl
theorem Sat.erase {l : List SP} {w : World} (i : Nat) {P : SP} (hi : l[i]? = some P) (h : Sat w l) : Sat w (l.eraseIdx i) := (h.pick i hi).tail
def isPassB (n : Int) : Bool := decide (n ≥ 0) && decide (n ≤ 1099511627776)
set_option maxRecDepth 100000 in
theorem isPass_walk (H : List SP) (n : Int) : ∀ w, Sat w H → Calls Tryz.prog 80 #[.int .i64 n] w (Ret (ι := Unit) (fun _ => .bool (isPassB n)) fun _ => H) := by
  refine enterG (fn := Tryz.f80) 9 [.int .i64 n] Tryz.func80 (by kernel_rfl) (by kernel_rfl) (by kernel_rfl) ?_
  refine seqR (by kernel_rfl) ?_
  refine regionR 1 (by kernel_rfl) (by kernel_rfl) ?_
  refine (run0 (z := 0) 1 [0, 2] [(0, .int .i64 n), (2, .bool false)] (fun _ => by kernel_rfl) (endR ?_) : RT _ _ _ _ _ _ 1 _)
  refine seqR (by kernel_rfl) ?_
  refine regionR 7 (by kernel_rfl) (by kernel_rfl) ?_
  refine (run0 (z := 4) 3 [0, 2, 5] [(0, .int .i64 n), (2, .bool false), (5, .bool (decide (n ≥ 0)))] (fun _ => by kernel_rfl) ?_ : RT _ _ _ _ _ _ 7 _)
  refine (segR (ι := Unit) (z := 1) 3 (fun _ => [(2, .bool false), (8, .bool ((decide (n ≥ 0)) && (decide (n ≤ 1099511627776))))]) (fun _ => (H)) ?_ (fun _ => ?_) : RT _ _ _ _ _ _ 4 _)
  · cases hg3 : (decide (n ≥ 0)) with
    | true =>
      refine (run0 (z := 0) 3 [2, 8] [(2, .bool false), (8, .bool (decide (n ≤ 1099511627776)))] (fun _ => by kernel_rfl) (endR ?_) : RT _ _ _ _ _ _ 3 _)
      refine PT.keep (L' := [(2, .bool false), (8, .bool (true && (decide (n ≤ 1099511627776))))]) [2, 8] rfl ?_
      exact midR () rfl rfl
    | false =>
      refine (run0 (z := 0) 3 [2, 8] [(2, .bool false), (8, .bool false)] (fun _ => by kernel_rfl) (endR ?_) : RT _ _ _ _ _ _ 3 _)
      refine PT.keep (L' := [(2, .bool false), (8, .bool (false && (decide (n ≤ 1099511627776))))]) [2, 8] rfl ?_
      exact midR () rfl rfl
  refine (run0 (z := 0) 1 [2] [(2, .bool ((decide (n ≥ 0)) && (decide (n ≤ 1099511627776))))] (fun _ => by kernel_rfl) (endR ?_) : RT _ _ _ _ _ _ 1 _)
  refine retR (by kernel_rfl) ?_
  refine done0 (.bool ((decide (n ≥ 0)) && (decide (n ≤ 1099511627776)))) (fun _ => by kernel_rfl) (fun w hs => ?_) .ret (.inr rfl)
  exact ⟨(), rfl, hs⟩
def roomOf (r : Int) : Int := mnI (mxI r 0) 64
set_option maxRecDepth 100000 in
theorem new_walk (H : List SP) (r : Int) : ∀ w, Sat w H → Calls Tryz.prog 43 #[.int .i64 r] w (Ret (ι := Nat) (fun b => .pointer (some ⟨b, 0, none⟩)) fun b => idxS b (roomOf r) [] :: H) := by
  refine enterG (fn := Tryz.f43) 8 [.int .i64 r] Tryz.func43 (by kernel_rfl) (by kernel_rfl) (by kernel_rfl) ?_
  refine seqR (by kernel_rfl) ?_
  refine regionR 1 (by kernel_rfl) (by kernel_rfl) ?_
  refine (run0 (z := 0) 1 [0, 2] [(0, .int .i64 r), (2, .pointer none)] (fun _ => by kernel_rfl) (endR ?_) : RT _ _ _ _ _ _ 1 _)
  refine seqR (by kernel_rfl) ?_
  refine regionR 6 (by kernel_rfl) (by kernel_rfl) ?_
  refine (run0 (z := 2) 4 [2, 6] [(2, .pointer none), (6, .agg #[.slice none 0 0, .int .i64 (mnI (mxI r 0) 64)])] (fun _ => by kernel_rfl) ?_ : RT _ _ _ _ _ _ 6 _)
  refine (stepR (z := 1) (newS 130 [.slice none 0 0, .int .i64 (mnI (mxI r 0) 64)] (some 7) (fun b => .pointer (some ⟨b, 0, none⟩)) (fun _ _ => by kernel_rfl)) (fun b1 => ?_) : RT _ _ _ _ _ _ 2 _)
  refine (run0 (z := 0) 1 [2] [(2, .pointer (some ⟨b1, 0, none⟩))] (fun _ => by kernel_rfl) (endR ?_) : RT _ _ _ _ _ _ 1 _)
  refine retR (by kernel_rfl) ?_
  refine done0 (.pointer (some ⟨b1, 0, none⟩)) (fun _ => by kernel_rfl) (fun w hs => ?_) .ret (.inr rfl)
  exact ⟨b1, rfl, Sat.idx (A := none) (cap := 0) (SatF.swap (Sat.rowNil hs))⟩
set_option maxRecDepth 100000 in
theorem len_walk (H : List SP) (b : Nat) (A : Option Addr) (cap : Nat) (room : Int) (l : List (Int × Int)) : ∀ w, Sat w (blk b 130 [.slice A l.length cap, .int .i64 room] :: row slE 104 (.slice A l.length cap) l :: H) → Calls Tryz.prog 68 #[.pointer (some ⟨b, 0, none⟩)] w (Ret (ι := Unit) (fun _ => .int .i64 (l.length : Int)) fun _ => blk b 130 [.slice A l.length cap, .int .i64 room] :: row slE 104 (.slice A l.length cap) l :: H) := by
  refine enterG (fn := Tryz.f68) 8 [.pointer (some ⟨b, 0, none⟩)] Tryz.func68 (by kernel_rfl) (by kernel_rfl) (by kernel_rfl) ?_
  refine seqR (by kernel_rfl) ?_
  refine regionR 1 (by kernel_rfl) (by kernel_rfl) ?_
  refine (run0 (z := 0) 1 [0, 2] [(0, .pointer (some ⟨b, 0, none⟩)), (2, .int .i64 0)] (fun _ => by kernel_rfl) (endR ?_) : RT _ _ _ _ _ _ 1 _)
  refine seqR (by kernel_rfl) ?_
  refine regionR 6 (by kernel_rfl) (by kernel_rfl) ?_
  refine (runR (H := (blk b 130 [.slice A l.length cap, .int .i64 room] :: row slE 104 (.slice A l.length cap) l :: H)) (z := 0) 6 [2] [(2, .int .i64 (l.length : Int))] [(⟨b, 0, none⟩, .slice A l.length cap)] (hasC (blkAt (T := 130) (cs := [.slice A l.length cap, .int .i64 room]) 0 rfl rfl) has0) (fun _ => by kernel_rfl) (endR ?_) : RT _ _ _ _ _ _ 6 _)
  refine retR (by kernel_rfl) ?_
  refine done0 (.int .i64 (l.length : Int)) (fun _ => by kernel_rfl) (fun w hs => ?_) .ret (.inr rfl)
  exact ⟨(), rfl, hs⟩
theorem len_idx (H : List SP) (b : Nat) (room : Int) (l : List (Int × Int)) : ∀ w, Sat w (idxS b room l :: H) → Calls Tryz.prog 68 #[.pointer (some ⟨b, 0, none⟩)] w (Ret (ι := Unit) (fun _ => .int .i64 (l.length : Int)) fun _ => idxS b room l :: H) :=
  idx_same fun A cap => len_walk H b A cap room l
def minE (l : List (Int × Int)) : (Int × Int) × Bool := match l with | [] => ((0, 0), false) | e :: _ => (e, true)
set_option maxRecDepth 100000 in
theorem min_walk (H : List SP) (b : Nat) (A : Option Addr) (cap : Nat) (room : Int) (l : List (Int × Int)) : ∀ w, Sat w (blk b 130 [.slice A l.length cap, .int .i64 room] :: row slE 104 (.slice A l.length cap) l :: H) → Calls Tryz.prog 55 #[.pointer (some ⟨b, 0, none⟩)] w (Ret (ι := Unit) (fun _ => .tuple #[.agg #[.int .i64 (minE l).1.1, .int .i64 (minE l).1.2], .bool (minE l).2]) fun _ => blk b 130 [.slice A l.length cap, .int .i64 room] :: row slE 104 (.slice A l.length cap) l :: H) := by
  refine enterG (fn := Tryz.f55) 17 [.pointer (some ⟨b, 0, none⟩)] Tryz.func55 (by kernel_rfl) (by kernel_rfl) (by kernel_rfl) ?_
  refine seqR (by kernel_rfl) ?_
  refine regionR 2 (by kernel_rfl) (by kernel_rfl) ?_
  refine (stepR (z := 1) (newS 104 [.int .i64 0, .int .i64 0] (some 2) (fun b => .pointer (some ⟨b, 0, none⟩)) (fun _ _ => by kernel_rfl)) (fun b1 => ?_) : RT _ _ _ _ _ _ 2 _)
  refine (run0 (z := 0) 1 [2, 0, 3] [(2, .pointer (some ⟨b1, 0, none⟩)), (0, .pointer (some ⟨b, 0, none⟩)), (3, .bool false)] (fun _ => by kernel_rfl) (endR ?_) : RT _ _ _ _ _ _ 1 _)
  refine seqR (by kernel_rfl) ?_
  refine seqR (by kernel_rfl) ?_
  refine regionR 6 (by kernel_rfl) (by kernel_rfl) ?_
  refine (runR (H := (blk b1 104 [.int .i64 0, .int .i64 0] :: blk b 130 [.slice A l.length cap, .int .i64 room] :: row slE 104 (.slice A l.length cap) l :: H)) (z := 0) 6 [2, 0, 3, 9] [(2, .pointer (some ⟨b1, 0, none⟩)), (0, .pointer (some ⟨b, 0, none⟩)), (3, .bool false), (9, .bool ((l.length : Int) == 0))] [(⟨b, 0, none⟩, .slice A l.length cap)] (hasC (blkAt (T := 130) (cs := [.slice A l.length cap, .int .i64 room]) 1 rfl rfl) has0) (fun _ => by kernel_rfl) (endR ?_) : RT _ _ _ _ _ _ 6 _)
  refine condR (b := (l.length : Int) == 0) (by kernel_rfl) (fun _ => by kernel_rfl) (fun h1 => ?_) (fun h1 => ?_)
  · skip
    have hl0 : (l.length : Int) = 0 := eq_of_beq h1
    obtain rfl : l = [] := List.eq_nil_of_length_eq_zero (by omega)
    refine seqR (by kernel_rfl) ?_
    refine regionR 3 (by kernel_rfl) (by kernel_rfl) ?_
    refine (run0 (z := 2) 1 [2, 0, 3, 10] [(2, .pointer (some ⟨b1, 0, none⟩)), (0, .pointer (some ⟨b, 0, none⟩)), (3, .bool false), (10, .agg #[.int .i64 0, .int .i64 0])] (fun _ => by kernel_rfl) ?_ : RT _ _ _ _ _ _ 3 _)
    refine (stepR (z := 1) (storeS [(0, .int .i64 0), (1, .int .i64 0)] [.int .i64 0, .int .i64 0] (fun _ => by kernel_rfl) (by kernel_rfl) (by kernel_rfl)) (fun _ => ?_) : RT _ _ _ _ _ _ 2 _)
    refine (run0 (z := 0) 1 [2, 0, 3] [(2, .pointer (some ⟨b1, 0, none⟩)), (0, .pointer (some ⟨b, 0, none⟩)), (3, .bool false)] (fun _ => by kernel_rfl) (endR ?_) : RT _ _ _ _ _ _ 1 _)
    refine retR (by kernel_rfl) ?_
    refine thenV ?_
    refine doneG (.tuple #[.agg #[.int .i64 0, .int .i64 0], .bool false]) [(⟨b1, 0, none⟩, .int .i64 0), (⟨b1, 1, none⟩, .int .i64 0)] (hasC (blkAt (T := 104) (cs := [.int .i64 0, .int .i64 0]) 0 rfl rfl) (hasC (blkAt (T := 104) (cs := [.int .i64 0, .int .i64 0]) 0 rfl rfl) has0)) (fun _ => by kernel_rfl) (fun w hs => ?_) .ret (.inr rfl)
    exact ⟨(), rfl, hs.tail⟩
  · skip
    have hl0 : ¬ (l.length : Int) = 0 := beq_eq_false_iff_ne.1 h1
    obtain ⟨e, r, rfl⟩ : ∃ e r, l = e :: r := List.exists_cons_of_length_pos (by omega)
    refine PT.know (KR.isSome (s := ⟨A, cap, e :: r⟩) (rowKRat 2 rfl) (by simp)) ?_
    rintro ⟨sb, so, hA⟩
    dsimp only at hA
    subst hA
    refine skipR (by kernel_rfl) ?_
    refine seqR (by kernel_rfl) ?_
    refine regionR 8 (by kernel_rfl) (by kernel_rfl) ?_
    refine (runR (H := (blk b1 104 [.int .i64 0, .int .i64 0] :: blk b 130 [.slice (some ⟨sb, so, none⟩) ((e :: r).length) cap, .int .i64 room] :: row slE 104 (.slice (some ⟨sb, so, none⟩) (e :: r).length cap) (e :: r) :: H)) (z := 4) 4 [2, 3, 14] [(2, .pointer (some ⟨b1, 0, none⟩)), (3, .bool false), (14, .slice (some ⟨sb, so, none⟩) ((e :: r).length) cap)] [(⟨b, 0, none⟩, .slice (some ⟨sb, so, none⟩) ((e :: r).length) cap)] (hasC (blkAt (T := 130) (cs := [.slice (some ⟨sb, so, none⟩) ((e :: r).length) cap, .int .i64 room]) 1 rfl rfl) has0) (fun _ => by kernel_rfl) ?_ : RT _ _ _ _ _ _ 8 _)
    refine (stepR (z := 3) (yldS (idxY 128 (.tmp 14) (.const (.int .i64 0)) sb so ((e :: r).length) cap 0 2 104 0 .i64 (some 15) (fun _ => by kernel_rfl) (by kernel_rfl) (by kernel_rfl) (fun _ => by kernel_rfl) (fun _ => by kernel_rfl) Tryz.underlying128 (by kernel_rfl) (by first | rfl | assumption | simp) (by first | omega | (simp; done) | (simp; omega) | (simp at *; omega)))) (fun _ => ?_) : RT _ _ _ _ _ _ 4 _)
    refine (runR (H := (blk b1 104 [.int .i64 0, .int .i64 0] :: blk b 130 [.slice (some ⟨sb, so, none⟩) ((e :: r).length) cap, .int .i64 room] :: row slE 104 (.slice (some ⟨sb, so, none⟩) (e :: r).length cap) (e :: r) :: H)) (z := 2) 1 [2, 3, 16] [(2, .pointer (some ⟨b1, 0, none⟩)), (3, .bool false), (16, .agg #[.int .i64 e.1, .int .i64 e.2])] [(⟨sb, so + 0 * 2, none⟩, .int .i64 e.1), (⟨sb, so + 0 * 2 + 1, none⟩, .int .i64 e.2)] (hasC ((rowKRat (xs := e :: r) (A := some ⟨sb, so, none⟩) (k := cap) (E := slE) (T := 104) 2 rfl).cell rfl (i := 0) (x := e) rfl (j := 0) rfl) (hasC ((rowKRat (xs := e :: r) (A := some ⟨sb, so, none⟩) (k := cap) (E := slE) (T := 104) 2 rfl).cell rfl (i := 0) (x := e) rfl (j := 1) rfl) has0)) (fun _ => by kernel_rfl) ?_ : RT _ _ _ _ _ _ 3 _)
    refine (stepR (z := 1) (storeS [(0, .int .i64 e.1), (1, .int .i64 e.2)] [.int .i64 e.1, .int .i64 e.2] (fun _ => by kernel_rfl) (by kernel_rfl) (by kernel_rfl)) (fun _ => ?_) : RT _ _ _ _ _ _ 2 _)
    refine (run0 (z := 0) 1 [2, 3] [(2, .pointer (some ⟨b1, 0, none⟩)), (3, .bool true)] (fun _ => by kernel_rfl) (endR ?_) : RT _ _ _ _ _ _ 1 _)
    refine retR (by kernel_rfl) ?_
    refine doneG (.tuple #[.agg #[.int .i64 e.1, .int .i64 e.2], .bool true]) [(⟨b1, 0, none⟩, .int .i64 e.1), (⟨b1, 1, none⟩, .int .i64 e.2)] (hasC (blkAt (T := 104) (cs := [.int .i64 e.1, .int .i64 e.2]) 0 rfl rfl) (hasC (blkAt (T := 104) (cs := [.int .i64 e.1, .int .i64 e.2]) 0 rfl rfl) has0)) (fun _ => by kernel_rfl) (fun w hs => ?_) .ret (.inr rfl)
    exact ⟨(), rfl, hs.tail⟩
theorem min_idx (H : List SP) (b : Nat) (room : Int) (l : List (Int × Int)) : ∀ w, Sat w (idxS b room l :: H) → Calls Tryz.prog 55 #[.pointer (some ⟨b, 0, none⟩)] w (Ret (ι := Unit) (fun _ => .tuple #[.agg #[.int .i64 (minE l).1.1, .int .i64 (minE l).1.2], .bool (minE l).2]) fun _ => idxS b room l :: H) :=
  idx_same fun A cap => min_walk H b A cap room l
theorem findI_cases (l : List (Int × Int)) (id : Int) : (findI l id = -1 ∧ ∀ e ∈ l, e.2 ≠ id) ∨ ∃ (i : Nat) (e : Int × Int), findI l id = i ∧ l[i]? = some e ∧ e.2 = id ∧ ∀ v e, v < i → l[v]? = some e → e.2 ≠ id := by
  unfold findI
  cases h : l.findIdx? (fun e => e.2 == id) with
  | none => exact .inl ⟨rfl, fun e he => by simpa using List.findIdx?_eq_none_iff.1 h e he⟩
  | some i =>
    right
    obtain ⟨h1, h2, h3⟩ := List.findIdx?_eq_some_iff_getElem.1 h
    refine ⟨i, l[i], rfl, by simp, by simpa using h2, fun v e hv hve => ?_⟩
    obtain ⟨hvl, rfl⟩ := List.getElem?_eq_some_iff.1 hve
    have := h3 v hv
    simpa using this
def passI (l : List (Int × Int)) (id : Int) : Int × Bool := if findI l id < 0 then (0, false) else ((l.getD (findI l id).toNat (0, 0)).1, true)
end Go.Proofs.YtlhjibkkkhgonaaGreat
set_option linter.unusedVariables false
set_option linter.unusedSimpArgs false
namespace Go.Proofs.YtlhjibkkkhgonaaGreat
open Go.RowKit G
def eLt (a b : Int × Int) : Prop := a.1 < b.1 ∨ a.1 = b.1 ∧ a.2 < b.2
instance (a b : Int × Int) : Decidable (eLt a b) := by unfold eLt; infer_instance
theorem byI_lt (a b : Int × Int) : byI a b < 0 ↔ eLt a b := by
  unfold byI orI cmpI eLt
  by_cases h1 : a.1 < b.1
  · simp [h1]
  · by_cases h2 : a.1 > b.1
    · simp [h1, h2]; omega
    · have h3 : a.1 = b.1 := by omega
      by_cases h4 : a.2 < b.2
      · simp [h3, h4]
      · by_cases h5 : a.2 > b.2 <;> simp [h3, h4, h5]
theorem eLt_trans {a b c : Int × Int} (h : eLt a b) (g : eLt b c) : eLt a c := by unfold eLt at *; omega
theorem eLt_irrefl (a : Int × Int) : ¬ eLt a a := by unfold eLt; omega
theorem eLt_total {a b : Int × Int} (h : ¬ eLt a b) : a = b ∨ eLt b a := by
  unfold eLt at *
  by_cases h1 : a.1 = b.1
  · by_cases h2 : a.2 = b.2
    · exact .inl (Prod.ext h1 h2)
    · exact .inr (by omega)
  · exact .inr (by omega)
def SrtE (l : List (Int × Int)) : Prop := l.Pairwise eLt
theorem SrtE.at {l : List (Int × Int)} (h : SrtE l) {u v : Nat} {x y : Int × Int} (hu : l[u]? = some x) (hv : l[v]? = some y) (huv : u < v) : eLt x y := by
  obtain ⟨hu1, rfl⟩ := List.getElem?_eq_some_iff.1 hu
  obtain ⟨hv1, rfl⟩ := List.getElem?_eq_some_iff.1 hv
  exact List.pairwise_iff_getElem.1 h u v hu1 hv1 huv
/-- Where an entry belongs. -/
def CutE (l : List (Int × Int)) (e : Int × Int) (i : Nat) : Prop := i ≤ l.length ∧ (∀ v x, v < i → l[v]? = some x → eLt x e) ∧ ∀ v x, i ≤ v → l[v]? = some x → ¬ eLt x e
theorem half_of {i j : Nat} (h : i < 1000000) (h2 : j < 1000000) : IntKind.i64.wrap (Int.fdiv (IntKind.u64.wrap (IntKind.i64.wrap ((i : Int) + (j : Int)))) 2) = (((i + j) / 2 : Nat) : Int) := by
  have h3 : IntKind.i64.wrap ((i : Int) + (j : Int)) = ((i + j : Nat) : Int) := by rw [IntKind.wrap_i64]; omega
  have h4 : IntKind.u64.wrap ((i + j : Nat) : Int) = ((i + j : Nat) : Int) := by rw [IntKind.wrap_u64]; omega
  rw [h3, h4, Int.fdiv_eq_ediv_of_nonneg _ (by omega), IntKind.wrap_i64]
  omega
set_option maxHeartbeats 1000000 in
set_option maxRecDepth 100000 in
theorem bs_walk (H : List SP) (s : SV (Int × Int)) (p i : Int) (hk : KR H slE s) (hsr : SrtE s.l) (hl : s.l.length < 1000000) : ∀ w, Sat w H → Calls Tryz.prog 91 #[.slice s.a s.l.length s.c, .agg #[.int .i64 p, .int .i64 i], .func (.func 86) #[] #[]] w (Ret (ι := {x : Nat × Bool // CutE s.l (p, i) x.1}) (fun x => .tuple #[.int .i64 (x.1.1 : Int), .bool x.1.2]) fun _ => H) := by
  refine enterG (fn := Tryz.f91) 49 [.slice s.a s.l.length s.c, .agg #[.int .i64 p, .int .i64 i], .func (.func 86) #[] #[]] Tryz.func91 (by kernel_rfl) (by kernel_rfl) (by kernel_rfl) ?_
  refine seqR (by kernel_rfl) ?_
  refine regionR 3 (by kernel_rfl) (by kernel_rfl) ?_
  refine (stepR (z := 2) (newS 104 [.int .i64 p, .int .i64 i] (some 4) (fun b => .pointer (some ⟨b, 0, none⟩)) (fun _ _ => by kernel_rfl)) (fun b1 => ?_) : RT _ _ _ _ _ _ 3 _)
  refine (run0 (z := 0) 2 [4, 0, 2, 6, 7] [(4, .pointer (some ⟨b1, 0, none⟩)), (0, .slice s.a s.l.length s.c), (2, .func (.func 86) #[] #[]), (6, .int .i64 0), (7, .bool false)] (fun _ => by kernel_rfl) (endR ?_) : RT _ _ _ _ _ _ 2 _)
  refine seqR (by kernel_rfl) ?_
  refine regionR 3 (by kernel_rfl) (by kernel_rfl) ?_
  refine (run0 (z := 0) 3 [4, 0, 2, 6, 7, 8] [(4, .pointer (some ⟨b1, 0, none⟩)), (0, .slice s.a s.l.length s.c), (2, .func (.func 86) #[] #[]), (6, .int .i64 0), (7, .bool false), (8, .int .i64 (s.l.length : Int))] (fun _ => by kernel_rfl) (endR ?_) : RT _ _ _ _ _ _ 3 _)
  refine seqR (by kernel_rfl) ?_
  refine regionR 3 (by kernel_rfl) (by kernel_rfl) ?_
  refine (run0 (z := 0) 3 [4, 0, 2, 6, 7, 8, 9, 10] [(4, .pointer (some ⟨b1, 0, none⟩)), (0, .slice s.a s.l.length s.c), (2, .func (.func 86) #[] #[]), (6, .int .i64 0), (7, .bool false), (8, .int .i64 (s.l.length : Int)), (9, .int .i64 0), (10, .int .i64 (s.l.length : Int))] (fun _ => by kernel_rfl) (endR ?_) : RT _ _ _ _ _ _ 3 _)
  refine seqR (by kernel_rfl) ?_
  refine blockR 0 (by kernel_rfl) (by kernel_rfl) ?_
  refine PT.keep (L' := [(0, .slice s.a s.l.length s.c), (2, .func (.func 86) #[] #[]), (4, .pointer (some ⟨b1, 0, none⟩)), (6, .int .i64 0), (7, .bool false), (8, .int .i64 (s.l.length : Int)), (9, .int .i64 0), (10, .int .i64 (s.l.length : Int))]) [0, 2, 4, 6, 7, 8, 9, 10] rfl ?_
  refine loopG (fun (x : Nat × Nat) => [(0, .slice s.a s.l.length s.c), (2, .func (.func 86) #[] #[]), (4, .pointer (some ⟨b1, 0, none⟩)), (6, .int .i64 0), (7, .bool false), (8, .int .i64 (s.l.length : Int)), (9, .int .i64 (x.1 : Int)), (10, .int .i64 (x.2 : Int))]) (fun (x : Nat × Nat) => (blk b1 104 [.int .i64 p, .int .i64 i] :: H)) (fun k (x : Nat × Nat) => k = x.2 - x.1 ∧ x.1 ≤ x.2 ∧ x.2 ≤ s.l.length ∧ (∀ v y, v < x.1 → s.l[v]? = some y → eLt y (p, i)) ∧ (∀ v y, x.2 ≤ v → s.l[v]? = some y → ¬ eLt y (p, i))) s.l.length (0, s.l.length) (by kernel_rfl) ⟨by simp, by simp, by simp, fun v y hv => by simp at hv, fun v y hv hy => by have := (List.getElem?_eq_some_iff.1 hy).1; simp at hv; omega⟩ ?_
  rintro k ⟨a, z⟩ ⟨hk1, haz, hzl, hlo, hhi⟩
  dsimp only at hk1 haz hzl hlo hhi ⊢
  refine seqR (by kernel_rfl) ?_
  refine seqR (by kernel_rfl) ?_
  refine regionR 3 (by kernel_rfl) (by kernel_rfl) ?_
  refine (run0 (z := 0) 3 [0, 2, 4, 6, 7, 8, 9, 10, 17] [(0, .slice s.a s.l.length s.c), (2, .func (.func 86) #[] #[]), (4, .pointer (some ⟨b1, 0, none⟩)), (6, .int .i64 0), (7, .bool false), (8, .int .i64 (s.l.length : Int)), (9, .int .i64 (a : Int)), (10, .int .i64 (z : Int)), (17, .bool (decide ((a : Int) < (z : Int))))] (fun _ => by kernel_rfl) (endR ?_) : RT _ _ _ _ _ _ 3 _)
  refine condR (b := decide ((a : Int) < (z : Int))) (by kernel_rfl) (fun _ => by kernel_rfl) (fun h1 => ?_) (fun h1 => ?_)
  · skip
    have h1' : a < z := by have := of_decide_eq_true h1; omega
    refine skipR (by kernel_rfl) ?_
    refine blockR 1 (by kernel_rfl) (by kernel_rfl) ?_
    refine seqR (by kernel_rfl) ?_
    refine regionR 7 (by kernel_rfl) (by kernel_rfl) ?_
    refine (run0 (z := 0) 7 [0, 2, 4, 6, 7, 8, 9, 10, 11] [(0, .slice s.a s.l.length s.c), (2, .func (.func 86) #[] #[]), (4, .pointer (some ⟨b1, 0, none⟩)), (6, .int .i64 0), (7, .bool false), (8, .int .i64 (s.l.length : Int)), (9, .int .i64 (a : Int)), (10, .int .i64 (z : Int)), (11, .int .i64 (IntKind.i64.wrap (Int.fdiv (IntKind.u64.wrap (IntKind.i64.wrap ((a : Int) + (z : Int)))) 2)))] (fun _ => by kernel_rfl) (endR ?_) : RT _ _ _ _ _ _ 7 _)
    refine seqR (by kernel_rfl) ?_
    refine drawR (fun w => Sat w (blk b1 104 [.int .i64 p, .int .i64 i] :: H)) [] 8 (by kernel_rfl) (by kernel_rfl) (by kernel_rfl) (fun _ h => by first | exact h | exact h.tail | exact h.tail.tail | exact h.tail.tail.tail | exact h.tail.tail.tail.tail) ?_
    refine takesR [0, 1, 2, 5] [0, 2, 4, 6, 7, 8, 9, 10, 11, 24, 25, 26, 29] 4 [true, true, true, false, false, true, false, false] [(0, .slice s.a s.l.length s.c), (2, .func (.func 86) #[] #[]), (4, .pointer (some ⟨b1, 0, none⟩)), (6, .int .i64 0), (7, .bool false), (8, .int .i64 (s.l.length : Int)), (9, .int .i64 (a : Int)), (10, .int .i64 (z : Int)), (11, .int .i64 (IntKind.i64.wrap (Int.fdiv (IntKind.u64.wrap (IntKind.i64.wrap ((a : Int) + (z : Int)))) 2))), (24, .func (.func 86) #[] #[]), (25, .slice s.a s.l.length s.c), (26, .int .i64 (IntKind.i64.wrap (Int.fdiv (IntKind.u64.wrap (IntKind.i64.wrap ((a : Int) + (z : Int)))) 2))), (29, .agg #[.int .i64 p, .int .i64 i])] [(⟨b1, 0, none⟩, .int .i64 p), (⟨b1, 1, none⟩, .int .i64 i)] rfl (fun _ d _ _ _ h => by cases d <;> exact h) (fun _ h => by first | exact h | exact h.tail | exact h.tail.tail | exact h.tail.tail.tail | exact h.tail.tail.tail.tail) (hasC (blkAt (T := 104) (cs := [.int .i64 p, .int .i64 i]) 0 rfl rfl) (hasC (blkAt (T := 104) (cs := [.int .i64 p, .int .i64 i]) 0 rfl rfl) has0)) (fun _ => by kernel_rfl) ?_
    rw [half_of (by omega) (by omega)]
    obtain ⟨h, hh⟩ : ∃ h, h = (a + z) / 2 := ⟨_, rfl⟩
    rw [← hh]
    have hhl : h < s.l.length := by omega
    obtain ⟨y, hy⟩ : ∃ y, s.l[h]? = some y := ⟨_, by simp [hhl]; rfl⟩
    refine PT.know ((hk).up.isSome (List.ne_nil_of_length_pos (by omega))) ?_
    rintro ⟨sb, so, hA⟩
    try rw [hA]
    refine takeR1 3 3 [true, true, true, true, false, true, false, false] rfl rfl (by kernel_rfl) (fun _ d _ _ _ h => by cases d <;> exact h) (fun _ h => by first | exact h | exact h.tail | exact h.tail.tail | exact h.tail.tail.tail | exact h.tail.tail.tail.tail) (idxY 128 (.tmp 25) (.tmp 26) sb so s.l.length s.c h 2 104 (h : Int) .i64 (some 27) (fun _ => by kernel_rfl) (by kernel_rfl) (by kernel_rfl) (fun _ => by kernel_rfl) (fun _ => by kernel_rfl) Tryz.underlying128 (by kernel_rfl) (by first | rfl | assumption | simp) (by first | omega | (simp; done) | (simp; omega) | (simp at *; omega))) ?_
    refine takesR [4] [0, 2, 4, 6, 7, 8, 9, 10, 11, 24, 29, 28] 2 [true, true, true, true, true, true, false, false] [(0, .slice (some ⟨sb, so, none⟩) s.l.length s.c), (2, .func (.func 86) #[] #[]), (4, .pointer (some ⟨b1, 0, none⟩)), (6, .int .i64 0), (7, .bool false), (8, .int .i64 (s.l.length : Int)), (9, .int .i64 (a : Int)), (10, .int .i64 (z : Int)), (11, .int .i64 (h : Int)), (24, .func (.func 86) #[] #[]), (29, .agg #[.int .i64 p, .int .i64 i]), (28, .agg #[.int .i64 y.1, .int .i64 y.2])] [(⟨sb, so + h * 2, none⟩, .int .i64 y.1), (⟨sb, so + h * 2 + 1, none⟩, .int .i64 y.2)] rfl (fun _ d _ _ _ h => by cases d <;> exact h) (fun _ h => by first | exact h | exact h.tail | exact h.tail.tail | exact h.tail.tail.tail | exact h.tail.tail.tail.tail) (hasC (up (hk.cell hA (i := h) (x := y) hy (j := 0) rfl)) (hasC (up (hk.cell hA (i := h) (x := y) hy (j := 1) rfl)) has0)) (fun _ => by kernel_rfl) ?_
    refine oneR 6 1 [true, true, true, true, true, true, true, false] rfl rfl (by kernel_rfl) (callS 86 [.agg #[.int .i64 y.1, .int .i64 y.2], .agg #[.int .i64 p, .int .i64 i]] (some 30) (fun _ => .int .i64 (byI (y.1, y.2) (p, i))) (fun (_ : Unit) => (blk b1 104 [.int .i64 p, .int .i64 i] :: H)) (fun _ => by kernel_rfl) (by_walk _ y.1 y.2 p i)) (fun _ _ h hn => by first | exact h | exact h.tail | exact h.tail.tail | exact h.tail.tail.tail | exact h.tail.tail.tail.tail | exact absurd hn (by decide)) (fun _ => ?_)
    refine takesR [7] [0, 2, 4, 6, 7, 8, 9, 10, 11, 31] 0 [true, true, true, true, true, true, true, true] [(0, .slice (some ⟨sb, so, none⟩) s.l.length s.c), (2, .func (.func 86) #[] #[]), (4, .pointer (some ⟨b1, 0, none⟩)), (6, .int .i64 0), (7, .bool false), (8, .int .i64 (s.l.length : Int)), (9, .int .i64 (a : Int)), (10, .int .i64 (z : Int)), (11, .int .i64 (h : Int)), (31, .bool (decide ((byI (y.1, y.2) (p, i)) < 0)))] [] rfl (fun _ d _ _ _ h => by cases d <;> exact h) (fun _ h => by first | exact h | exact h.tail | exact h.tail.tail | exact h.tail.tail.tail | exact h.tail.tail.tail.tail) has0 (fun _ => by kernel_rfl) ?_
    refine drawnR (by kernel_rfl) ?_
    try rw [← hA]
    refine condR (b := decide ((byI (y.1, y.2) (p, i)) < 0)) (by kernel_rfl) (fun _ => by kernel_rfl) (fun h2 => ?_) (fun h2 => ?_)
    · skip
      have h2' : eLt y (p, i) := (byI_lt y (p, i)).1 (of_decide_eq_true h2)
      have hw : IntKind.i64.wrap ((h : Int) + 1) = ((h + 1 : Nat) : Int) := by rw [IntKind.wrap_i64]; omega
      have hlo2 : ∀ v y', v < h + 1 → s.l[v]? = some y' → eLt y' (p, i) := by
        intro v y' hv hy'
        by_cases c : v = h
        · subst c; rw [hy] at hy'; cases hy'; exact h2'
        · exact eLt_trans (hsr.at hy' hy (by omega)) h2'
      refine regionR 3 (by kernel_rfl) (by kernel_rfl) ?_
      refine (run0 (z := 0) 3 [0, 2, 4, 6, 7, 8, 9, 10] [(0, .slice s.a s.l.length s.c), (2, .func (.func 86) #[] #[]), (4, .pointer (some ⟨b1, 0, none⟩)), (6, .int .i64 0), (7, .bool false), (8, .int .i64 (s.l.length : Int)), (9, .int .i64 (IntKind.i64.wrap ((h : Int) + 1))), (10, .int .i64 (z : Int))] (fun _ => by kernel_rfl) (endR ?_) : RT _ _ _ _ _ _ 3 _)
      refine PT.keep (L' := [(0, .slice s.a s.l.length s.c), (2, .func (.func 86) #[] #[]), (4, .pointer (some ⟨b1, 0, none⟩)), (6, .int .i64 0), (7, .bool false), (8, .int .i64 (s.l.length : Int)), (9, .int .i64 (IntKind.i64.wrap ((h : Int) + 1))), (10, .int .i64 (z : Int))]) [0, 2, 4, 6, 7, 8, 9, 10] rfl ?_
      exact againG (z - (h + 1)) (h + 1, z) (by rw [hw]) rfl (by omega) ⟨rfl, by simp only; omega, hzl, hlo2, hhi⟩
    · skip
      have h2' : ¬ eLt y (p, i) := fun h => of_decide_eq_false h2 ((byI_lt y (p, i)).2 h)
      have hhi2 : ∀ v y', h ≤ v → s.l[v]? = some y' → ¬ eLt y' (p, i) := by
        intro v y' hv hy'
        by_cases c : v = h
        · subst c; rw [hy] at hy'; cases hy'; exact h2'
        · exact fun h3 => h2' (eLt_trans (hsr.at hy hy' (by omega)) h3)
      refine regionR 2 (by kernel_rfl) (by kernel_rfl) ?_
      refine (run0 (z := 0) 2 [0, 2, 4, 6, 7, 8, 9, 10] [(0, .slice s.a s.l.length s.c), (2, .func (.func 86) #[] #[]), (4, .pointer (some ⟨b1, 0, none⟩)), (6, .int .i64 0), (7, .bool false), (8, .int .i64 (s.l.length : Int)), (9, .int .i64 (a : Int)), (10, .int .i64 (h : Int))] (fun _ => by kernel_rfl) (endR ?_) : RT _ _ _ _ _ _ 2 _)
      refine PT.keep (L' := [(0, .slice s.a s.l.length s.c), (2, .func (.func 86) #[] #[]), (4, .pointer (some ⟨b1, 0, none⟩)), (6, .int .i64 0), (7, .bool false), (8, .int .i64 (s.l.length : Int)), (9, .int .i64 (a : Int)), (10, .int .i64 (h : Int))]) [0, 2, 4, 6, 7, 8, 9, 10] rfl ?_
      exact againG (h - a) (a, h) rfl rfl (by omega) ⟨rfl, by simp only; omega, by simp only; omega, hlo, hhi2⟩
  · skip
    have h1' : a = z := by have := of_decide_eq_false h1; omega
    subst h1'
    refine exitR 0 (by kernel_rfl) (by kernel_rfl) ?_
    refine thenX ?_
    refine thenX ?_
    refine leaveR ?_
    refine seqR (by kernel_rfl) ?_
    refine drawR (fun w => Sat w (blk b1 104 [.int .i64 p, .int .i64 i] :: H)) [] 16 (by kernel_rfl) (by kernel_rfl) (by kernel_rfl) (fun _ h => by first | exact h | exact h.tail | exact h.tail.tail | exact h.tail.tail.tail | exact h.tail.tail.tail.tail) ?_
    refine takesR [0, 1, 2, 3, 4] [0, 2, 4, 6, 7, 9, 35, 39] 11 [true, true, true, true, true, false, false, false, false, false, false, false, false, false, false, false] [(0, .slice s.a s.l.length s.c), (2, .func (.func 86) #[] #[]), (4, .pointer (some ⟨b1, 0, none⟩)), (6, .int .i64 0), (7, .bool false), (9, .int .i64 (a : Int)), (35, .int .i64 (a : Int)), (39, .bool (decide ((a : Int) < (s.l.length : Int))))] [] rfl (fun _ d _ _ _ h => by cases d <;> exact h) (fun _ h => by first | exact h | exact h.tail | exact h.tail.tail | exact h.tail.tail.tail | exact h.tail.tail.tail.tail) has0 (fun _ => by kernel_rfl) ?_
    cases h2 : (decide ((a : Int) < (s.l.length : Int))) with
    | true =>
      have hal : a < s.l.length := by have := of_decide_eq_true h2; omega
      obtain ⟨y, hy⟩ : ∃ y, s.l[a]? = some y := ⟨_, by simp [hal]; rfl⟩
      refine PT.know ((hk).up.isSome (List.ne_nil_of_length_pos (by omega))) ?_
      rintro ⟨sb, so, hA⟩
      try rw [hA]
      refine takesR [5, 6, 7, 10] [6, 7, 35, 39, 40, 41, 42, 45] 7 [true, true, true, true, true, true, true, true, false, false, true, false, false, false, false, false] [(6, .int .i64 0), (7, .bool false), (35, .int .i64 (a : Int)), (39, .bool true), (40, .func (.func 86) #[] #[]), (41, .slice (some ⟨sb, so, none⟩) s.l.length s.c), (42, .int .i64 (a : Int)), (45, .agg #[.int .i64 p, .int .i64 i])] [(⟨b1, 0, none⟩, .int .i64 p), (⟨b1, 1, none⟩, .int .i64 i)] rfl (fun _ d _ _ _ h => by cases d <;> exact h) (fun _ h => by first | exact h | exact h.tail | exact h.tail.tail | exact h.tail.tail.tail | exact h.tail.tail.tail.tail) (hasC (blkAt (T := 104) (cs := [.int .i64 p, .int .i64 i]) 0 rfl rfl) (hasC (blkAt (T := 104) (cs := [.int .i64 p, .int .i64 i]) 0 rfl rfl) has0)) (fun _ => by kernel_rfl) ?_
      refine takeR1 8 6 [true, true, true, true, true, true, true, true, true, false, true, false, false, false, false, false] rfl rfl (by kernel_rfl) (fun _ d _ _ _ h => by cases d <;> exact h) (fun _ h => by first | exact h | exact h.tail | exact h.tail.tail | exact h.tail.tail.tail | exact h.tail.tail.tail.tail) (idxY 128 (.tmp 41) (.tmp 42) sb so s.l.length s.c a 2 104 (a : Int) .i64 (some 43) (fun _ => by kernel_rfl) (by kernel_rfl) (by kernel_rfl) (fun _ => by kernel_rfl) (fun _ => by kernel_rfl) Tryz.underlying128 (by kernel_rfl) (by first | rfl | assumption | simp) (by first | omega | (simp; done) | (simp; omega) | (simp at *; omega))) ?_
      refine takesR [9] [6, 7, 35, 39, 40, 45, 44] 5 [true, true, true, true, true, true, true, true, true, true, true, false, false, false, false, false] [(6, .int .i64 0), (7, .bool false), (35, .int .i64 (a : Int)), (39, .bool true), (40, .func (.func 86) #[] #[]), (45, .agg #[.int .i64 p, .int .i64 i]), (44, .agg #[.int .i64 y.1, .int .i64 y.2])] [(⟨sb, so + a * 2, none⟩, .int .i64 y.1), (⟨sb, so + a * 2 + 1, none⟩, .int .i64 y.2)] rfl (fun _ d _ _ _ h => by cases d <;> exact h) (fun _ h => by first | exact h | exact h.tail | exact h.tail.tail | exact h.tail.tail.tail | exact h.tail.tail.tail.tail) (hasC (up (hk.cell hA (i := a) (x := y) hy (j := 0) rfl)) (hasC (up (hk.cell hA (i := a) (x := y) hy (j := 1) rfl)) has0)) (fun _ => by kernel_rfl) ?_
      refine oneR 11 4 [true, true, true, true, true, true, true, true, true, true, true, true, false, false, false, false] rfl rfl (by kernel_rfl) (callS 86 [.agg #[.int .i64 y.1, .int .i64 y.2], .agg #[.int .i64 p, .int .i64 i]] (some 46) (fun _ => .int .i64 (byI (y.1, y.2) (p, i))) (fun (_ : Unit) => (blk b1 104 [.int .i64 p, .int .i64 i] :: H)) (fun _ => by kernel_rfl) (by_walk _ y.1 y.2 p i)) (fun _ _ h hn => by first | exact h | exact h.tail | exact h.tail.tail | exact h.tail.tail.tail | exact h.tail.tail.tail.tail | exact absurd hn (by decide)) (fun _ => ?_)
      refine takesR [12, 13, 14, 15] [6, 7] 0 [true, true, true, true, true, true, true, true, true, true, true, true, true, true, true, true] [(6, .int .i64 (a : Int)), (7, .bool ((byI (y.1, y.2) (p, i)) == 0))] [] rfl (fun _ d _ _ _ h => by cases d <;> exact h) (fun _ h => by first | exact h | exact h.tail | exact h.tail.tail | exact h.tail.tail.tail | exact h.tail.tail.tail.tail) has0 (fun _ => by kernel_rfl) ?_
      refine drawnR (by kernel_rfl) ?_
      refine retR (by kernel_rfl) ?_
      refine done0 (.tuple #[.int .i64 (a : Int), .bool ((byI (y.1, y.2) (p, i)) == 0)]) (fun _ => by kernel_rfl) (fun w hs => ?_) .ret (.inr rfl)
      exact ⟨⟨(a, byI (y.1, y.2) (p, i) == 0), hzl, hlo, hhi⟩, rfl, hs.tail⟩
    | false =>
      refine takesR [5, 6, 7, 8, 9, 10, 11, 12, 13, 14, 15] [6, 7] 0 [true, true, true, true, true, true, true, true, true, true, true, true, true, true, true, true] [(6, .int .i64 (a : Int)), (7, .bool false)] [] rfl (fun _ d _ _ _ h => by cases d <;> exact h) (fun _ h => by first | exact h | exact h.tail | exact h.tail.tail | exact h.tail.tail.tail | exact h.tail.tail.tail.tail) has0 (fun _ => by kernel_rfl) ?_
      refine drawnR (by kernel_rfl) ?_
      refine retR (by kernel_rfl) ?_
      refine done0 (.tuple #[.int .i64 (a : Int), .bool false]) (fun _ => by kernel_rfl) (fun w hs => ?_) .ret (.inr rfl)
      exact ⟨⟨(a, false), hzl, hlo, hhi⟩, rfl, hs.tail⟩
end Go.Proofs.YtlhjibkkkhgonaaGreat
set_option linter.unusedVariables false
set_option linter.unusedSimpArgs false
namespace Go.Proofs.YtlhjibkkkhgonaaGreat
open Go.RowKit G
def pinS (P : SP) (G : Nat → Prop) : SP := ⟨fun w F => P.holds w F ∧ F = G, fun h => P.lt h.1, fun h a => ⟨P.stay h.1 a, h.2⟩⟩
/-- A call that changes a row, by what it says of the row. -/
theorem rowCall {α : Type} {E : Enc α} {T : TypeId} {v : Value} {xs zs : List α} {H : List SP} {P : Program} {f : FuncId} {vs : Array Value}
    (h : ∀ w F, Row E T w F v xs → SatF H w (fun b => True ∧ ¬ F b) → Calls P f vs w (RowPost E T F w zs)) :
    ∀ w, Sat w (row E T v xs :: H) → Calls P f vs w (Ret (ι := Option Addr × Nat) (fun p => .slice p.1 zs.length p.2) fun p => row E T (.slice p.1 zs.length p.2) zs :: H) := by
  rintro w ⟨G, hG, _, h3⟩
  refine (h w G hG h3).mono ?_
  rintro e w' ⟨v', F', rfl, hr, hu, hf⟩
  have hp : Sat w (pinS (row E T v xs) G :: H) := ⟨G, ⟨hG, rfl⟩, fun _ _ => trivial, h3⟩
  have key : Sat w' (row E T v' zs :: H) := hp.change fun G' hG' => by
    obtain ⟨_, rfl⟩ := hG'
    exact ⟨hu, F', hr, hf⟩
  rcases hr with ⟨rfl, h0, _⟩ | ⟨b, o, c, cur, rfl, _⟩
  · subst h0; exact ⟨(none, 0), rfl, key⟩
  · exact ⟨(some ⟨b, o, none⟩, c), rfl, key⟩
theorem ins_walk (H : List SP) (j : Nat) (v : Value) (xs : List (Int × Int)) (x : Int × Int) (yb : Nat) (T' : TypeId) (hj : H[j]? = some (blk yb T' (slE.enc x))) (i : Nat) (hi : i ≤ xs.length) (hn : xs.length ≤ 1000000000) :
    ∀ w, Sat w (row slE 104 v xs :: H) → Calls Tryz.prog 92 #[v, .int .i64 i, .slice (some ⟨yb, 0, none⟩) 1 1] w (Ret (ι := Option Addr × Nat) (fun p => .slice p.1 (xs.take i ++ x :: xs.drop i).length p.2) fun p => row slE 104 (.slice p.1 (xs.take i ++ x :: xs.drop i).length p.2) (xs.take i ++ x :: xs.drop i) :: H) :=
  rowCall fun w F hr h3 => by
    obtain ⟨K, ⟨hk1, hk2⟩, hk3, _⟩ := SatF.pick j hj h3
    exact ins_sl w F v xs x hr yb T' hk1 ((hk3 yb ((hk2 yb).2 rfl)).2) i hi hn
theorem del_walk (H : List SP) (v : Value) (xs : List (Int × Int)) (i : Nat) (hi : i < xs.length) (hn : xs.length ≤ 1000000000) :
    ∀ w, Sat w (row slE 104 v xs :: H) → Calls Tryz.prog 83 #[v, .int .i64 i, .int .i64 ((i : Int) + 1)] w (Ret (ι := Option Addr × Nat) (fun p => .slice p.1 (xs.take i ++ xs.drop (i + 1)).length p.2) fun p => row slE 104 (.slice p.1 (xs.take i ++ xs.drop (i + 1)).length p.2) (xs.take i ++ xs.drop (i + 1)) :: H) :=
  rowCall fun w F hr _ => del_sl w F v xs hr i hi hn
/-- An entry where it belongs. -/
def insE (e : Int × Int) : List (Int × Int) → List (Int × Int)
  | [] => [e]
  | x :: r => if eLt x e then x :: insE e r else e :: x :: r
theorem insE_cut (e : Int × Int) : ∀ (l : List (Int × Int)) (i : Nat), CutE l e i → l.take i ++ e :: l.drop i = insE e l
  | [], i, h => by simp [insE]
  | x :: r, 0, h => by
    have := h.2.2 0 x (by omega) rfl
    simp [insE, this]
  | x :: r, i + 1, h => by
    have h1 := h.2.1 0 x (by omega) rfl
    have ih := insE_cut e r i ⟨by have := h.1; simp at this; omega, fun v y hv hy => h.2.1 (v + 1) y (by omega) (by simpa using hy), fun v y hv hy => h.2.2 (v + 1) y (by omega) (by simpa using hy)⟩
    simp only [insE, List.take_succ_cons, List.drop_succ_cons, List.cons_append, if_pos h1, ih]
set_option maxHeartbeats 1000000 in
set_option maxRecDepth 100000 in
theorem insert_walk (H : List SP) (b : Nat) (A : Option Addr) (cap : Nat) (room : Int) (l : List (Int × Int)) (p i : Int) (hsr : SrtE l) (hl : l.length < 1000000) : ∀ w, Sat w (blk b 130 [.slice A l.length cap, .int .i64 room] :: row slE 104 (.slice A l.length cap) l :: H) → Calls Tryz.prog 82 #[.pointer (some ⟨b, 0, none⟩), .agg #[.int .i64 p, .int .i64 i]] w (Ret (ι := Option Addr × Nat) (fun _ => .tuple #[]) fun x => blk b 130 [.slice x.1 (insE (p, i) l).length x.2, .int .i64 room] :: row slE 104 (.slice x.1 (insE (p, i) l).length x.2) (insE (p, i) l) :: H) := by
  refine enterG (fn := Tryz.f82) 26 [.pointer (some ⟨b, 0, none⟩), .agg #[.int .i64 p, .int .i64 i]] Tryz.func82 (by kernel_rfl) (by kernel_rfl) (by kernel_rfl) ?_
  refine seqR (by kernel_rfl) ?_
  refine regionR 1 (by kernel_rfl) (by kernel_rfl) ?_
  refine (stepR (z := 0) (newS 104 [.int .i64 p, .int .i64 i] (some 3) (fun b => .pointer (some ⟨b, 0, none⟩)) (fun _ _ => by kernel_rfl)) (fun b1 => ?_) : RT _ _ _ _ _ _ 1 _)
  refine endR ?_
  refine seqR (by kernel_rfl) ?_
  refine drawR (fun w => Sat w (blk b1 104 [.int .i64 p, .int .i64 i] :: blk b 130 [.slice A l.length cap, .int .i64 room] :: row slE 104 (.slice A l.length cap) l :: H)) [] 11 (by kernel_rfl) (by kernel_rfl) (by kernel_rfl) (fun _ h => by first | exact h | exact h.tail | exact h.tail.tail | exact h.tail.tail.tail | exact h.tail.tail.tail.tail) ?_
  refine takesR [0, 1, 2, 3, 4] [3, 0, 10, 11] 6 [true, true, true, true, true, false, false, false, false, false, false] [(3, .pointer (some ⟨b1, 0, none⟩)), (0, .pointer (some ⟨b, 0, none⟩)), (10, .slice A l.length cap), (11, .agg #[.int .i64 p, .int .i64 i])] [(⟨b, 0, none⟩, .slice A l.length cap), (⟨b1, 0, none⟩, .int .i64 p), (⟨b1, 1, none⟩, .int .i64 i)] rfl (fun _ d _ _ _ h => by cases d <;> exact h) (fun _ h => by first | exact h | exact h.tail | exact h.tail.tail | exact h.tail.tail.tail | exact h.tail.tail.tail.tail) (hasC (blkAt (T := 130) (cs := [.slice A l.length cap, .int .i64 room]) 1 rfl rfl) (hasC (blkAt (T := 104) (cs := [.int .i64 p, .int .i64 i]) 0 rfl rfl) (hasC (blkAt (T := 104) (cs := [.int .i64 p, .int .i64 i]) 0 rfl rfl) has0))) (fun _ => by kernel_rfl) ?_
  refine oneR 5 5 [true, true, true, true, true, true, false, false, false, false, false] rfl rfl (by kernel_rfl) (callS 91 [.slice A l.length cap, .agg #[.int .i64 p, .int .i64 i], .func (.func 86) #[] #[]] (some 12) (fun (x : {x : Nat × Bool // CutE l (p, i) x.1}) => .tuple #[.int .i64 (x.1.1 : Int), .bool x.1.2]) (fun (x : {x : Nat × Bool // CutE l (p, i) x.1}) => (blk b1 104 [.int .i64 p, .int .i64 i] :: blk b 130 [.slice A l.length cap, .int .i64 room] :: row slE 104 (.slice A l.length cap) l :: H)) (fun _ => by kernel_rfl) (bs_walk _ ⟨A, cap, l⟩ p i (rowKRat 2 rfl) hsr hl)) (fun _ _ h hn => by first | exact h | exact h.tail | exact h.tail.tail | exact h.tail.tail.tail | exact h.tail.tail.tail.tail | exact absurd hn (by decide)) (fun (x : {x : Nat × Bool // CutE l (p, i) x.1}) => ?_)
  obtain ⟨⟨m, fo⟩, hcut⟩ := x
  dsimp only
  refine takesR [6, 7, 8, 9, 10] [3, 0, 4] 0 [true, true, true, true, true, true, true, true, true, true, true] [(3, .pointer (some ⟨b1, 0, none⟩)), (0, .pointer (some ⟨b, 0, none⟩)), (4, .int .i64 (m : Int))] [] rfl (fun _ d _ _ _ h => by cases d <;> exact h) (fun _ h => by first | exact h | exact h.tail | exact h.tail.tail | exact h.tail.tail.tail | exact h.tail.tail.tail.tail) has0 (fun _ => by kernel_rfl) ?_
  refine drawnR (by kernel_rfl) ?_
  refine PT.pick 2 rfl ?_
  refine drawR (fun w => Sat w (blk b1 104 [.int .i64 p, .int .i64 i] :: blk b 130 [.slice A l.length cap, .int .i64 room] :: H)) [11] 12 (by kernel_rfl) (by kernel_rfl) (by kernel_rfl) (fun _ h => by first | exact h | exact h.tail | exact h.tail.tail | exact h.tail.tail.tail | exact h.tail.tail.tail.tail) ?_
  refine takesR [0, 1, 2, 3, 4, 5, 6] [15, 19, 20, 21] 5 [true, true, true, true, true, true, true, false, false, false, false, false] [(15, .pointer (some ⟨b, 0, none⟩)), (19, .slice A l.length cap), (20, .int .i64 (m : Int)), (21, .agg #[.int .i64 p, .int .i64 i])] [(⟨b, 0, none⟩, .slice A l.length cap), (⟨b1, 0, none⟩, .int .i64 p), (⟨b1, 1, none⟩, .int .i64 i)] rfl (fun _ d _ _ _ h => by cases d <;> exact h) (fun _ h => by first | exact h | exact h.tail | exact h.tail.tail | exact h.tail.tail.tail | exact h.tail.tail.tail.tail) (hasC (blkAt (T := 130) (cs := [.slice A l.length cap, .int .i64 room]) 1 rfl rfl) (hasC (blkAt (T := 104) (cs := [.int .i64 p, .int .i64 i]) 0 rfl rfl) (hasC (blkAt (T := 104) (cs := [.int .i64 p, .int .i64 i]) 0 rfl rfl) has0))) (fun _ => by kernel_rfl) ?_
  refine oneR 7 4 [true, true, true, true, true, true, true, true, false, false, false, false] rfl rfl (by kernel_rfl) (newS 104 [.int .i64 p, .int .i64 i] (some 22) (fun b => .slice (some ⟨b, 0, none⟩) 1 1) (fun _ _ => by kernel_rfl)) (fun _ _ h hn => by first | exact h | exact h.tail | exact h.tail.tail | exact h.tail.tail.tail | exact h.tail.tail.tail.tail | exact absurd hn (by decide)) (fun b2 => ?_)
  refine DT.pick 1 rfl ?_
  refine oneR 8 3 [true, true, true, true, true, true, true, true, true, false, false, false] rfl rfl (by kernel_rfl) (callS 92 [.slice A l.length cap, .int .i64 (m : Int), .slice (some ⟨b2, 0, none⟩) 1 1] (some 23) (fun (r : Option Addr × Nat) => .slice r.1 (l.take m ++ (p, i) :: l.drop m).length r.2) (fun (r : Option Addr × Nat) => (row slE 104 (.slice r.1 (l.take m ++ (p, i) :: l.drop m).length r.2) (l.take m ++ (p, i) :: l.drop m) :: blk b2 104 [.int .i64 p, .int .i64 i] :: blk b1 104 [.int .i64 p, .int .i64 i] :: blk b 130 [.slice A l.length cap, .int .i64 room] :: H)) (fun _ => by kernel_rfl) (ins_walk (blk b2 104 [.int .i64 p, .int .i64 i] :: blk b1 104 [.int .i64 p, .int .i64 i] :: blk b 130 [.slice A l.length cap, .int .i64 room] :: H) 0 (.slice A l.length cap) l (p, i) b2 _ rfl m hcut.1 (by omega))) (fun _ _ h hn => by first | exact h | exact h.tail | exact h.tail.tail | exact h.tail.tail.tail | exact h.tail.tail.tail.tail | exact absurd hn (by decide)) (fun (r : Option Addr × Nat) => ?_)
  rw [insE_cut (p, i) l m hcut]
  refine takesR [9, 10] [23, 25] 1 [true, true, true, true, true, true, true, true, true, true, true, false] [(23, .slice r.1 ((insE (p, i) l).length) r.2), (25, .pointer (some ⟨b, 0, none⟩))] [] rfl (fun _ d _ _ _ h => by cases d <;> exact h) (fun _ h => by first | exact h | exact h.tail | exact h.tail.tail | exact h.tail.tail.tail | exact h.tail.tail.tail.tail) has0 (fun _ => by kernel_rfl) ?_
  refine DT.pick 3 rfl ?_
  refine oneR 11 0 [true, true, true, true, true, true, true, true, true, true, true, true] rfl rfl (by kernel_rfl) (storeS [(0, .slice r.1 ((insE (p, i) l).length) r.2)] [.slice r.1 ((insE (p, i) l).length) r.2, .int .i64 room] (fun _ => by kernel_rfl) (by kernel_rfl) (by kernel_rfl)) (fun _ _ h hn => by first | exact h | exact h.tail | exact h.tail.tail | exact h.tail.tail.tail | exact h.tail.tail.tail.tail | exact absurd hn (by decide)) (fun _ => ?_)
  refine drawnR (by kernel_rfl) ?_
  refine done0 (.tuple #[]) (fun _ => by kernel_rfl) (fun w hs => ?_) .normal (.inl rfl)
  exact ⟨r, rfl, Sat.erase 2 rfl (Sat.erase 2 rfl hs)⟩
def pqErr (e : Int) : Value := if e = 0 then .nilIface else .iface 40 (.int .i64 e)
def putE (room : Int) (l : List (Int × Int)) (p id : Int) : Int × List (Int × Int) :=
  if ((!isPassB p) || decide (id < 0)) = true then (10, l) else if findI l id ≥ 0 then (20, l) else if (l.length : Int) ≥ room then (14, l) else (0, insE (p, id) l)
set_option maxRecDepth 100000 in
theorem put_walk (H : List SP) (b : Nat) (A : Option Addr) (cap : Nat) (room : Int) (l : List (Int × Int)) (p id : Int) (hsr : SrtE l) (hl : l.length < 1000000) : ∀ w, Sat w (blk b 130 [.slice A l.length cap, .int .i64 room] :: row slE 104 (.slice A l.length cap) l :: H) → Calls Tryz.prog 67 #[.pointer (some ⟨b, 0, none⟩), .int .i64 p, .int .i64 id] w (Ret (ι := Option Addr × Nat) (fun _ => pqErr (putE room l p id).1) fun x => blk b 130 [.slice x.1 (putE room l p id).2.length x.2, .int .i64 room] :: row slE 104 (.slice x.1 (putE room l p id).2.length x.2) (putE room l p id).2 :: H) := by
  refine enterG (fn := Tryz.f67) 39 [.pointer (some ⟨b, 0, none⟩), .int .i64 p, .int .i64 id] Tryz.func67 (by kernel_rfl) (by kernel_rfl) (by kernel_rfl) ?_
  refine seqR (by kernel_rfl) ?_
  refine regionR 1 (by kernel_rfl) (by kernel_rfl) ?_
  refine (run0 (z := 0) 1 [0, 1, 2, 6] [(0, .pointer (some ⟨b, 0, none⟩)), (1, .int .i64 p), (2, .int .i64 id), (6, .nilIface)] (fun _ => by kernel_rfl) (endR ?_) : RT _ _ _ _ _ _ 1 _)
  refine seqR (by kernel_rfl) ?_
  refine blockR 0 (by kernel_rfl) (by kernel_rfl) ?_
  refine seqR (by kernel_rfl) ?_
  refine regionR 8 (by kernel_rfl) (by kernel_rfl) ?_
  refine (run0 (z := 7) 1 [0, 1, 2, 6, 8] [(0, .pointer (some ⟨b, 0, none⟩)), (1, .int .i64 p), (2, .int .i64 id), (6, .nilIface), (8, .int .i64 p)] (fun _ => by kernel_rfl) ?_ : RT _ _ _ _ _ _ 8 _)
  refine (stepR (z := 6) (callS 80 [.int .i64 p] (some 9) (fun _ => .bool (isPassB p)) (fun (_ : Unit) => (blk b 130 [.slice A l.length cap, .int .i64 room] :: row slE 104 (.slice A l.length cap) l :: H)) (fun _ => by kernel_rfl) (isPass_walk _ p)) (fun _ => ?_) : RT _ _ _ _ _ _ 7 _)
  refine (run0 (z := 4) 2 [0, 1, 2, 6, 11] [(0, .pointer (some ⟨b, 0, none⟩)), (1, .int .i64 p), (2, .int .i64 id), (6, .nilIface), (11, .bool (!(isPassB p)))] (fun _ => by kernel_rfl) ?_ : RT _ _ _ _ _ _ 6 _)
  refine (segR (ι := Unit) (z := 1) 3 (fun _ => [(0, .pointer (some ⟨b, 0, none⟩)), (1, .int .i64 p), (2, .int .i64 id), (6, .nilIface), (14, .bool ((!(isPassB p)) || (decide (id < 0))))]) (fun _ => (blk b 130 [.slice A l.length cap, .int .i64 room] :: row slE 104 (.slice A l.length cap) l :: H)) ?_ (fun _ => ?_) : RT _ _ _ _ _ _ 4 _)
  · cases hg4 : (!(isPassB p)) with
    | true =>
      refine (run0 (z := 0) 3 [0, 1, 2, 6, 14] [(0, .pointer (some ⟨b, 0, none⟩)), (1, .int .i64 p), (2, .int .i64 id), (6, .nilIface), (14, .bool true)] (fun _ => by kernel_rfl) (endR ?_) : RT _ _ _ _ _ _ 3 _)
      refine PT.keep (L' := [(0, .pointer (some ⟨b, 0, none⟩)), (1, .int .i64 p), (2, .int .i64 id), (6, .nilIface), (14, .bool (true || (decide (id < 0))))]) [0, 1, 2, 6, 14] rfl ?_
      exact midR () rfl rfl
    | false =>
      refine (run0 (z := 0) 3 [0, 1, 2, 6, 14] [(0, .pointer (some ⟨b, 0, none⟩)), (1, .int .i64 p), (2, .int .i64 id), (6, .nilIface), (14, .bool (decide (id < 0)))] (fun _ => by kernel_rfl) (endR ?_) : RT _ _ _ _ _ _ 3 _)
      refine PT.keep (L' := [(0, .pointer (some ⟨b, 0, none⟩)), (1, .int .i64 p), (2, .int .i64 id), (6, .nilIface), (14, .bool (false || (decide (id < 0))))]) [0, 1, 2, 6, 14] rfl ?_
      exact midR () rfl rfl
  refine (run0 (z := 0) 1 [0, 1, 2, 6, 7] [(0, .pointer (some ⟨b, 0, none⟩)), (1, .int .i64 p), (2, .int .i64 id), (6, .nilIface), (7, .bool ((!(isPassB p)) || (decide (id < 0))))] (fun _ => by kernel_rfl) (endR ?_) : RT _ _ _ _ _ _ 1 _)
  refine condR (b := (!(isPassB p)) || (decide (id < 0))) (by kernel_rfl) (fun _ => by kernel_rfl) (fun h1 => ?_) (fun h1 => ?_)
  · skip
    refine seqR (by kernel_rfl) ?_
    refine regionR 2 (by kernel_rfl) (by kernel_rfl) ?_
    refine (run0 (z := 0) 2 [0, 1, 2, 6] [(0, .pointer (some ⟨b, 0, none⟩)), (1, .int .i64 p), (2, .int .i64 id), (6, .iface 40 (.int .i64 10))] (fun _ => by kernel_rfl) (endR ?_) : RT _ _ _ _ _ _ 2 _)
    refine retR (by kernel_rfl) ?_
    refine blockV ?_
    refine thenV ?_
    refine done0 (.iface 40 (.int .i64 10)) (fun _ => by kernel_rfl) (fun w hs => ?_) .ret (.inr rfl)
    rw [putE, if_pos h1]; exact ⟨(A, cap), rfl, hs⟩
  · skip
    have h1' : ¬ ((!isPassB p) || decide (id < 0)) = true := by rw [show ((!isPassB p) || decide (id < 0)) = false from h1]; simp
    refine seqR (by kernel_rfl) ?_
    refine regionR 5 (by kernel_rfl) (by kernel_rfl) ?_
    refine (run0 (z := 3) 2 [0, 1, 2, 6, 17, 18] [(0, .pointer (some ⟨b, 0, none⟩)), (1, .int .i64 p), (2, .int .i64 id), (6, .nilIface), (17, .pointer (some ⟨b, 0, none⟩)), (18, .int .i64 id)] (fun _ => by kernel_rfl) ?_ : RT _ _ _ _ _ _ 5 _)
    refine (stepR (z := 2) (callS 81 [.pointer (some ⟨b, 0, none⟩), .int .i64 id] (some 19) (fun _ => .int .i64 (findI l id)) (fun _ => (blk b 130 [.slice A l.length cap, .int .i64 room] :: row slE 104 (.slice A l.length cap) l :: H)) (fun _ => by kernel_rfl) (find_walk _ b A cap room l id (by omega))) (fun _ => ?_) : RT _ _ _ _ _ _ 3 _)
    refine (run0 (z := 0) 2 [0, 1, 2, 6, 16] [(0, .pointer (some ⟨b, 0, none⟩)), (1, .int .i64 p), (2, .int .i64 id), (6, .nilIface), (16, .bool (decide ((findI l id) ≥ 0)))] (fun _ => by kernel_rfl) (endR ?_) : RT _ _ _ _ _ _ 2 _)
    refine condR (b := decide ((findI l id) ≥ 0)) (by kernel_rfl) (fun _ => by kernel_rfl) (fun h2 => ?_) (fun h2 => ?_)
    · skip
      refine seqR (by kernel_rfl) ?_
      refine regionR 2 (by kernel_rfl) (by kernel_rfl) ?_
      refine (run0 (z := 0) 2 [0, 1, 2, 6] [(0, .pointer (some ⟨b, 0, none⟩)), (1, .int .i64 p), (2, .int .i64 id), (6, .iface 40 (.int .i64 20))] (fun _ => by kernel_rfl) (endR ?_) : RT _ _ _ _ _ _ 2 _)
      refine retR (by kernel_rfl) ?_
      refine blockV ?_
      refine thenV ?_
      refine done0 (.iface 40 (.int .i64 20)) (fun _ => by kernel_rfl) (fun w hs => ?_) .ret (.inr rfl)
      rw [putE, if_neg h1', if_pos (of_decide_eq_true h2)]; exact ⟨(A, cap), rfl, hs⟩
    · skip
      refine seqR (by kernel_rfl) ?_
      refine drawR (fun w => Sat w (blk b 130 [.slice A l.length cap, .int .i64 room] :: row slE 104 (.slice A l.length cap) l :: H)) [] 11 (by kernel_rfl) (by kernel_rfl) (by kernel_rfl) (fun _ h => by first | exact h | exact h.tail | exact h.tail.tail | exact h.tail.tail.tail | exact h.tail.tail.tail.tail) ?_
      refine takesR [0, 1, 2, 3, 4, 5, 6, 7, 8, 9, 10] [0, 1, 2, 6, 22] 0 [true, true, true, true, true, true, true, true, true, true, true] [(0, .pointer (some ⟨b, 0, none⟩)), (1, .int .i64 p), (2, .int .i64 id), (6, .nilIface), (22, .bool (decide ((l.length : Int) ≥ room)))] [(⟨b, 0, none⟩, .slice A l.length cap), (⟨b, 1, none⟩, .int .i64 room)] rfl (fun _ d _ _ _ h => by cases d <;> exact h) (fun _ h => by first | exact h | exact h.tail | exact h.tail.tail | exact h.tail.tail.tail | exact h.tail.tail.tail.tail) (hasC (blkAt (T := 130) (cs := [.slice A l.length cap, .int .i64 room]) 0 rfl rfl) (hasC (blkAt (T := 130) (cs := [.slice A l.length cap, .int .i64 room]) 0 rfl rfl) has0)) (fun _ => by kernel_rfl) ?_
      refine drawnR (by kernel_rfl) ?_
      refine condR (b := decide ((l.length : Int) ≥ room)) (by kernel_rfl) (fun _ => by kernel_rfl) (fun h3 => ?_) (fun h3 => ?_)
      · skip
        refine seqR (by kernel_rfl) ?_
        refine regionR 2 (by kernel_rfl) (by kernel_rfl) ?_
        refine (run0 (z := 0) 2 [0, 1, 2, 6] [(0, .pointer (some ⟨b, 0, none⟩)), (1, .int .i64 p), (2, .int .i64 id), (6, .iface 40 (.int .i64 14))] (fun _ => by kernel_rfl) (endR ?_) : RT _ _ _ _ _ _ 2 _)
        refine retR (by kernel_rfl) ?_
        refine blockV ?_
        refine thenV ?_
        refine done0 (.iface 40 (.int .i64 14)) (fun _ => by kernel_rfl) (fun w hs => ?_) .ret (.inr rfl)
        rw [putE, if_neg h1', if_neg (of_decide_eq_false h2), if_pos (of_decide_eq_true h3)]; exact ⟨(A, cap), rfl, hs⟩
      · skip
        refine skipR (by kernel_rfl) ?_
        refine seqR (by kernel_rfl) ?_
        refine regionR 5 (by kernel_rfl) (by kernel_rfl) ?_
        refine (run0 (z := 1) 4 [6, 34, 37] [(6, .nilIface), (34, .pointer (some ⟨b, 0, none⟩)), (37, .agg #[.int .i64 p, .int .i64 id])] (fun _ => by kernel_rfl) ?_ : RT _ _ _ _ _ _ 5 _)
        refine (stepR (z := 0) (callS 82 [.pointer (some ⟨b, 0, none⟩), .agg #[.int .i64 p, .int .i64 id]] (some 38) (fun (r : Option Addr × Nat) => .tuple #[]) (fun (r : Option Addr × Nat) => blk b 130 [.slice r.1 (insE (p, id) l).length r.2, .int .i64 room] :: row slE 104 (.slice r.1 (insE (p, id) l).length r.2) (insE (p, id) l) :: H) (fun _ => by kernel_rfl) (insert_walk _ b A cap room l p id hsr hl)) (fun (r : Option Addr × Nat) => ?_) : RT _ _ _ _ _ _ 1 _)
        refine endR ?_
        refine seqR (by kernel_rfl) ?_
        refine regionR 1 (by kernel_rfl) (by kernel_rfl) ?_
        refine (run0 (z := 0) 1 [6] [(6, .nilIface)] (fun _ => by kernel_rfl) (endR ?_) : RT _ _ _ _ _ _ 1 _)
        refine retR (by kernel_rfl) ?_
        refine done0 (.nilIface) (fun _ => by kernel_rfl) (fun w hs => ?_) .ret (.inr rfl)
        rw [putE, if_neg h1', if_neg (of_decide_eq_false h2), if_neg (of_decide_eq_false h3)]; exact ⟨r, rfl, hs⟩
def dropE (l : List (Int × Int)) (id : Int) : Int × List (Int × Int) := if findI l id < 0 then (13, l) else (0, l.take (findI l id).toNat ++ l.drop ((findI l id).toNat + 1))
set_option maxRecDepth 100000 in
theorem drop_walk (H : List SP) (b : Nat) (A : Option Addr) (cap : Nat) (room : Int) (l : List (Int × Int)) (id : Int) (hl : l.length < 1000000) : ∀ w, Sat w (blk b 130 [.slice A l.length cap, .int .i64 room] :: row slE 104 (.slice A l.length cap) l :: H) → Calls Tryz.prog 69 #[.pointer (some ⟨b, 0, none⟩), .int .i64 id] w (Ret (ι := Option Addr × Nat) (fun _ => pqErr (dropE l id).1) fun x => blk b 130 [.slice x.1 (dropE l id).2.length x.2, .int .i64 room] :: row slE 104 (.slice x.1 (dropE l id).2.length x.2) (dropE l id).2 :: H) := by
  refine enterG (fn := Tryz.f69) 23 [.pointer (some ⟨b, 0, none⟩), .int .i64 id] Tryz.func69 (by kernel_rfl) (by kernel_rfl) (by kernel_rfl) ?_
  refine seqR (by kernel_rfl) ?_
  refine regionR 1 (by kernel_rfl) (by kernel_rfl) ?_
  refine (run0 (z := 0) 1 [0, 1, 4] [(0, .pointer (some ⟨b, 0, none⟩)), (1, .int .i64 id), (4, .nilIface)] (fun _ => by kernel_rfl) (endR ?_) : RT _ _ _ _ _ _ 1 _)
  refine seqR (by kernel_rfl) ?_
  refine regionR 4 (by kernel_rfl) (by kernel_rfl) ?_
  refine (run0 (z := 2) 2 [0, 4, 6, 7] [(0, .pointer (some ⟨b, 0, none⟩)), (4, .nilIface), (6, .pointer (some ⟨b, 0, none⟩)), (7, .int .i64 id)] (fun _ => by kernel_rfl) ?_ : RT _ _ _ _ _ _ 4 _)
  refine (stepR (z := 1) (callS 81 [.pointer (some ⟨b, 0, none⟩), .int .i64 id] (some 8) (fun _ => .int .i64 (findI l id)) (fun _ => (blk b 130 [.slice A l.length cap, .int .i64 room] :: row slE 104 (.slice A l.length cap) l :: H)) (fun _ => by kernel_rfl) (find_walk _ b A cap room l id (by omega))) (fun _ => ?_) : RT _ _ _ _ _ _ 2 _)
  refine (run0 (z := 0) 1 [0, 4, 5] [(0, .pointer (some ⟨b, 0, none⟩)), (4, .nilIface), (5, .int .i64 (findI l id))] (fun _ => by kernel_rfl) (endR ?_) : RT _ _ _ _ _ _ 1 _)
  refine seqR (by kernel_rfl) ?_
  refine seqR (by kernel_rfl) ?_
  refine regionR 2 (by kernel_rfl) (by kernel_rfl) ?_
  refine (run0 (z := 0) 2 [0, 4, 5, 10] [(0, .pointer (some ⟨b, 0, none⟩)), (4, .nilIface), (5, .int .i64 (findI l id)), (10, .bool (decide ((findI l id) < 0)))] (fun _ => by kernel_rfl) (endR ?_) : RT _ _ _ _ _ _ 2 _)
  refine condR (b := decide ((findI l id) < 0)) (by kernel_rfl) (fun _ => by kernel_rfl) (fun h1 => ?_) (fun h1 => ?_)
  · skip
    refine seqR (by kernel_rfl) ?_
    refine regionR 2 (by kernel_rfl) (by kernel_rfl) ?_
    refine (run0 (z := 0) 2 [0, 4, 5] [(0, .pointer (some ⟨b, 0, none⟩)), (4, .iface 40 (.int .i64 13)), (5, .int .i64 (findI l id))] (fun _ => by kernel_rfl) (endR ?_) : RT _ _ _ _ _ _ 2 _)
    refine retR (by kernel_rfl) ?_
    refine thenV ?_
    refine done0 (.iface 40 (.int .i64 13)) (fun _ => by kernel_rfl) (fun w hs => ?_) .ret (.inr rfl)
    rw [dropE, if_pos (of_decide_eq_true h1)]; exact ⟨(A, cap), rfl, hs⟩
  · skip
    have h1' := of_decide_eq_false h1
    rcases findI_cases l id with ⟨hf, _⟩ | ⟨i, e, hf, he, hid, _⟩
    · omega
    have hil := (List.getElem?_eq_some_iff.1 he).1
    have hd : dropE l id = (0, l.take i ++ l.drop (i + 1)) := by rw [dropE, if_neg h1', hf, Int.toNat_natCast]
    rw [hf, hd]
    have hw : IntKind.i64.wrap ((i : Int) + 1) = (i : Int) + 1 := by rw [IntKind.wrap_i64]; omega
    refine skipR (by kernel_rfl) ?_
    refine seqR (by kernel_rfl) ?_
    refine regionR 12 (by kernel_rfl) (by kernel_rfl) ?_
    refine (runR (H := (blk b 130 [.slice A l.length cap, .int .i64 room] :: row slE 104 (.slice A l.length cap) l :: H)) (z := 4) 8 [4, 12, 16, 17, 19] [(4, .nilIface), (12, .pointer (some ⟨b, 0, none⟩)), (16, .slice A l.length cap), (17, .int .i64 (i : Int)), (19, .int .i64 (IntKind.i64.wrap ((i : Int) + 1)))] [(⟨b, 0, none⟩, .slice A l.length cap)] (hasC (blkAt (T := 130) (cs := [.slice A l.length cap, .int .i64 room]) 0 rfl rfl) has0) (fun _ => by kernel_rfl) ?_ : RT _ _ _ _ _ _ 12 _)
    rw [hw]
    refine (RT.pick 1 rfl ?_ : RT _ _ _ (blk b 130 [.slice A l.length cap, .int .i64 room] :: row slE 104 (.slice A l.length cap) l :: H) _ _ 4 _)
    refine (stepR (z := 3) (callS 83 [.slice A l.length cap, .int .i64 (i : Int), .int .i64 ((i : Int) + 1)] (some 20) (fun (r : Option Addr × Nat) => .slice r.1 (l.take i ++ l.drop (i + 1)).length r.2) (fun (r : Option Addr × Nat) => (row slE 104 (.slice r.1 (l.take i ++ l.drop (i + 1)).length r.2) (l.take i ++ l.drop (i + 1)) :: blk b 130 [.slice A l.length cap, .int .i64 room] :: H)) (fun _ => by kernel_rfl) (del_walk (blk b 130 [.slice A l.length cap, .int .i64 room] :: H) (.slice A l.length cap) l i hil (by omega))) (fun (r : Option Addr × Nat) => ?_) : RT _ _ _ _ _ _ 4 _)
    refine (run0 (z := 1) 2 [20, 4, 22] [(20, .slice r.1 ((l.take i ++ l.drop (i + 1)).length) r.2), (4, .nilIface), (22, .pointer (some ⟨b, 0, none⟩))] (fun _ => by kernel_rfl) ?_ : RT _ _ _ _ _ _ 3 _)
    refine (RT.pick 1 rfl ?_ : RT _ _ _ (row slE 104 (.slice r.1 (l.take i ++ l.drop (i + 1)).length r.2) (l.take i ++ l.drop (i + 1)) :: blk b 130 [.slice A l.length cap, .int .i64 room] :: H) _ _ 1 _)
    refine (stepR (z := 0) (storeS [(0, .slice r.1 ((l.take i ++ l.drop (i + 1)).length) r.2)] [.slice r.1 ((l.take i ++ l.drop (i + 1)).length) r.2, .int .i64 room] (fun _ => by kernel_rfl) (by kernel_rfl) (by kernel_rfl)) (fun _ => ?_) : RT _ _ _ _ _ _ 1 _)
    refine endR ?_
    refine seqR (by kernel_rfl) ?_
    refine regionR 1 (by kernel_rfl) (by kernel_rfl) ?_
    refine (run0 (z := 0) 1 [4] [(4, .nilIface)] (fun _ => by kernel_rfl) (endR ?_) : RT _ _ _ _ _ _ 1 _)
    refine retR (by kernel_rfl) ?_
    refine done0 (.nilIface) (fun _ => by kernel_rfl) (fun w hs => ?_) .ret (.inr rfl)
    exact ⟨r, rfl, hs⟩
def rekeyE (l : List (Int × Int)) (id p : Int) : Int × List (Int × Int) := if isPassB p = false then (10, l) else if findI l id < 0 then (13, l) else (0, insE (p, id) (l.take (findI l id).toNat ++ l.drop ((findI l id).toNat + 1)))
theorem SrtE.drop {l : List (Int × Int)} (h : SrtE l) (id : Int) : SrtE (dropE l id).2 := by
  unfold dropE
  split
  · exact h
  · rw [← List.eraseIdx_eq_take_drop_succ]; exact h.sublist (List.eraseIdx_sublist _ _)
theorem dropE_len (l : List (Int × Int)) (id : Int) : (dropE l id).2.length ≤ l.length := by
  unfold dropE
  split
  · exact Nat.le_refl _
  · rw [← List.eraseIdx_eq_take_drop_succ]; exact (List.eraseIdx_sublist _ _).length_le
set_option maxRecDepth 100000 in
theorem rekey_walk (H : List SP) (b : Nat) (A : Option Addr) (cap : Nat) (room : Int) (l : List (Int × Int)) (id p : Int) (hsr : SrtE l) (hl : l.length < 1000000) : ∀ w, Sat w (blk b 130 [.slice A l.length cap, .int .i64 room] :: row slE 104 (.slice A l.length cap) l :: H) → Calls Tryz.prog 73 #[.pointer (some ⟨b, 0, none⟩), .int .i64 id, .int .i64 p] w (Ret (ι := Option Addr × Nat) (fun _ => pqErr (rekeyE l id p).1) fun x => blk b 130 [.slice x.1 (rekeyE l id p).2.length x.2, .int .i64 room] :: row slE 104 (.slice x.1 (rekeyE l id p).2.length x.2) (rekeyE l id p).2 :: H) := by
  refine enterG (fn := Tryz.f73) 23 [.pointer (some ⟨b, 0, none⟩), .int .i64 id, .int .i64 p] Tryz.func73 (by kernel_rfl) (by kernel_rfl) (by kernel_rfl) ?_
  refine seqR (by kernel_rfl) ?_
  refine regionR 1 (by kernel_rfl) (by kernel_rfl) ?_
  refine (run0 (z := 0) 1 [0, 1, 2, 6] [(0, .pointer (some ⟨b, 0, none⟩)), (1, .int .i64 id), (2, .int .i64 p), (6, .nilIface)] (fun _ => by kernel_rfl) (endR ?_) : RT _ _ _ _ _ _ 1 _)
  refine seqR (by kernel_rfl) ?_
  refine seqR (by kernel_rfl) ?_
  refine regionR 3 (by kernel_rfl) (by kernel_rfl) ?_
  refine (run0 (z := 2) 1 [0, 1, 2, 6, 8] [(0, .pointer (some ⟨b, 0, none⟩)), (1, .int .i64 id), (2, .int .i64 p), (6, .nilIface), (8, .int .i64 p)] (fun _ => by kernel_rfl) ?_ : RT _ _ _ _ _ _ 3 _)
  refine (stepR (z := 1) (callS 80 [.int .i64 p] (some 9) (fun _ => .bool (isPassB p)) (fun (_ : Unit) => (blk b 130 [.slice A l.length cap, .int .i64 room] :: row slE 104 (.slice A l.length cap) l :: H)) (fun _ => by kernel_rfl) (isPass_walk _ p)) (fun _ => ?_) : RT _ _ _ _ _ _ 2 _)
  refine (run0 (z := 0) 1 [0, 1, 2, 6, 10] [(0, .pointer (some ⟨b, 0, none⟩)), (1, .int .i64 id), (2, .int .i64 p), (6, .nilIface), (10, .bool (!(isPassB p)))] (fun _ => by kernel_rfl) (endR ?_) : RT _ _ _ _ _ _ 1 _)
  cases h1 : (isPassB p) with
  | true =>
    refine condR (b := false) (by kernel_rfl) (fun _ => by kernel_rfl) (fun h => by cases h) (fun _ => ?_)
    refine skipR (by kernel_rfl) ?_
    refine seqR (by kernel_rfl) ?_
    refine seqR (by kernel_rfl) ?_
    refine regionR 4 (by kernel_rfl) (by kernel_rfl) ?_
    refine (run0 (z := 2) 2 [0, 1, 2, 6, 12, 13] [(0, .pointer (some ⟨b, 0, none⟩)), (1, .int .i64 id), (2, .int .i64 p), (6, .nilIface), (12, .pointer (some ⟨b, 0, none⟩)), (13, .int .i64 id)] (fun _ => by kernel_rfl) ?_ : RT _ _ _ _ _ _ 4 _)
    refine (stepR (z := 1) (callS 69 [.pointer (some ⟨b, 0, none⟩), .int .i64 id] (some 14) (fun (r : Option Addr × Nat) => pqErr (dropE l id).1) (fun (r : Option Addr × Nat) => blk b 130 [.slice r.1 (dropE l id).2.length r.2, .int .i64 room] :: row slE 104 (.slice r.1 (dropE l id).2.length r.2) (dropE l id).2 :: H) (fun _ => by kernel_rfl) (drop_walk _ b A cap room l id hl)) (fun (r : Option Addr × Nat) => ?_) : RT _ _ _ _ _ _ 2 _)
    rcases Int.lt_or_le (findI l id) 0 with h2 | h2
    · rw [show dropE l id = (13, l) by rw [dropE, if_pos h2]]
      refine (run0 (z := 0) 1 [0, 1, 2, 6, 7] [(0, .pointer (some ⟨b, 0, none⟩)), (1, .int .i64 id), (2, .int .i64 p), (6, .nilIface), (7, .iface 40 (.int .i64 13))] (fun _ => by kernel_rfl) (endR ?_) : RT _ _ _ _ _ _ 1 _)
      refine seqR (by kernel_rfl) ?_
      refine regionR 2 (by kernel_rfl) (by kernel_rfl) ?_
      refine (run0 (z := 0) 2 [0, 1, 2, 6, 7, 16] [(0, .pointer (some ⟨b, 0, none⟩)), (1, .int .i64 id), (2, .int .i64 p), (6, .nilIface), (7, .iface 40 (.int .i64 13)), (16, .bool true)] (fun _ => by kernel_rfl) (endR ?_) : RT _ _ _ _ _ _ 2 _)
      refine condR (b := true) (by kernel_rfl) (fun _ => by kernel_rfl) (fun _ => ?_) (fun h => by cases h)
      refine seqR (by kernel_rfl) ?_
      refine regionR 2 (by kernel_rfl) (by kernel_rfl) ?_
      refine (run0 (z := 0) 2 [0, 1, 2, 6] [(0, .pointer (some ⟨b, 0, none⟩)), (1, .int .i64 id), (2, .int .i64 p), (6, .iface 40 (.int .i64 13))] (fun _ => by kernel_rfl) (endR ?_) : RT _ _ _ _ _ _ 2 _)
      refine retR (by kernel_rfl) ?_
      refine thenV ?_
      have hk2 : rekeyE l id p = (13, l) := by rw [rekeyE, if_neg (by rw [h1]; simp), if_pos h2]
      refine done0 (.iface 40 (.int .i64 13)) (fun _ => by kernel_rfl) (fun w hs => ?_) .ret (.inr rfl)
      rw [hk2]; exact ⟨r, rfl, hs⟩
    · skip
      have hd0 : (dropE l id).1 = 0 := by rw [dropE, if_neg (by omega)]
      have hk2 : rekeyE l id p = (0, insE (p, id) (dropE l id).2) := by rw [rekeyE, if_neg (by rw [h1]; simp), if_neg (by omega), dropE, if_neg (by omega)]
      rw [hd0]
      refine (run0 (z := 0) 1 [0, 1, 2, 6, 7] [(0, .pointer (some ⟨b, 0, none⟩)), (1, .int .i64 id), (2, .int .i64 p), (6, .nilIface), (7, .nilIface)] (fun _ => by kernel_rfl) (endR ?_) : RT _ _ _ _ _ _ 1 _)
      refine seqR (by kernel_rfl) ?_
      refine regionR 2 (by kernel_rfl) (by kernel_rfl) ?_
      refine (run0 (z := 0) 2 [0, 1, 2, 6, 7, 16] [(0, .pointer (some ⟨b, 0, none⟩)), (1, .int .i64 id), (2, .int .i64 p), (6, .nilIface), (7, .nilIface), (16, .bool false)] (fun _ => by kernel_rfl) (endR ?_) : RT _ _ _ _ _ _ 2 _)
      refine condR (b := false) (by kernel_rfl) (fun _ => by kernel_rfl) (fun h => by cases h) (fun _ => ?_)
      refine skipR (by kernel_rfl) ?_
      refine seqR (by kernel_rfl) ?_
      refine regionR 5 (by kernel_rfl) (by kernel_rfl) ?_
      refine (run0 (z := 1) 4 [6, 18, 21] [(6, .nilIface), (18, .pointer (some ⟨b, 0, none⟩)), (21, .agg #[.int .i64 p, .int .i64 id])] (fun _ => by kernel_rfl) ?_ : RT _ _ _ _ _ _ 5 _)
      refine (stepR (z := 0) (callS 82 [.pointer (some ⟨b, 0, none⟩), .agg #[.int .i64 p, .int .i64 id]] (some 22) (fun (q : Option Addr × Nat) => .tuple #[]) (fun (q : Option Addr × Nat) => blk b 130 [.slice q.1 (insE (p, id) (dropE l id).2).length q.2, .int .i64 room] :: row slE 104 (.slice q.1 (insE (p, id) (dropE l id).2).length q.2) (insE (p, id) (dropE l id).2) :: H) (fun _ => by kernel_rfl) (insert_walk _ b r.1 r.2 room (dropE l id).2 p id (hsr.drop id) (Nat.lt_of_le_of_lt (dropE_len l id) hl))) (fun (q : Option Addr × Nat) => ?_) : RT _ _ _ _ _ _ 1 _)
      refine endR ?_
      refine seqR (by kernel_rfl) ?_
      refine regionR 1 (by kernel_rfl) (by kernel_rfl) ?_
      refine (run0 (z := 0) 1 [6] [(6, .nilIface)] (fun _ => by kernel_rfl) (endR ?_) : RT _ _ _ _ _ _ 1 _)
      refine retR (by kernel_rfl) ?_
      refine done0 (.nilIface) (fun _ => by kernel_rfl) (fun w hs => ?_) .ret (.inr rfl)
      rw [hk2]; exact ⟨q, rfl, hs⟩
  | false =>
    refine condR (b := true) (by kernel_rfl) (fun _ => by kernel_rfl) (fun _ => ?_) (fun h => by cases h)
    refine seqR (by kernel_rfl) ?_
    refine regionR 2 (by kernel_rfl) (by kernel_rfl) ?_
    refine (run0 (z := 0) 2 [0, 1, 2, 6] [(0, .pointer (some ⟨b, 0, none⟩)), (1, .int .i64 id), (2, .int .i64 p), (6, .iface 40 (.int .i64 10))] (fun _ => by kernel_rfl) (endR ?_) : RT _ _ _ _ _ _ 2 _)
    refine retR (by kernel_rfl) ?_
    refine thenV ?_
    refine done0 (.iface 40 (.int .i64 10)) (fun _ => by kernel_rfl) (fun w hs => ?_) .ret (.inr rfl)
    rw [rekeyE, if_pos h1]; exact ⟨(A, cap), rfl, hs⟩
end Go.Proofs.YtlhjibkkkhgonaaGreat
set_option linter.unusedVariables false
set_option linter.unusedSimpArgs false
namespace Go.Proofs.YtlhjibkkkhgonaaGreat
open Go.RowKit G Go.Lib
theorem len8_big : ∀ n : Fin 65, 0 ≤ len8 (n.val : Int) ∧ len8 (n.val : Int) ≤ 7 ∧ (12 < n.val → len8 (n.val : Int) ≠ 0) := by decide +kernel
set_option maxHeartbeats 1000000 in
set_option maxRecDepth 100000 in
theorem len64_w (w : World) (n : Int) (h0 : 0 ≤ n) (h1 : n ≤ 64) : Calls Tryz.prog 107 #[.int .u64 n] w fun e w' => e = .returned (.int .i64 (len8 n)) ∧ w' = w := by
  have d1 : decide (n ≥ 4294967296) = false := decide_eq_false (by omega)
  have d2 : decide (n ≥ 65536) = false := decide_eq_false (by omega)
  have d3 : decide (n ≥ 256) = false := decide_eq_false (by omega)
  have hb := len8_big ⟨n.toNat, by omega⟩
  rw [show ((⟨n.toNat, by omega⟩ : Fin 65).val : Int) = n by show (n.toNat : Int) = n; omega] at hb
  go_enter Tryz.func107, Tryz.ntmps107
  have hlt : n < (len8tab.size : Int) := by rw [len8tab_size]; omega
  have hsz : n.toNat < len8tab.size := by omega
  have he : ((len8tab[n.toNat]).toNat : Int) = len8 n := by
    unfold len8
    rw [getElem?_pos len8tab n.toNat hsz]; rfl
  go_wp2
  go_ret
  exact ⟨rfl, rfl⟩
theorem len64_walk (H : List SP) (n : Int) (h0 : 0 ≤ n) (h1 : n ≤ 64) : ∀ w, Sat w H → Calls Tryz.prog 107 #[.int .u64 n] w (Ret (ι := Unit) (fun _ => .int .i64 (len8 n)) fun _ => H) := fun w hs =>
  (len64_w w n h0 h1).mono fun e w' ⟨he, hw⟩ => ⟨(), he, hw ▸ hs⟩
set_option maxRecDepth 100000 in
theorem bitsLen_walk (H : List SP) (n : Int) (h0 : 0 ≤ n) (h1 : n ≤ 64) : ∀ w, Sat w H → Calls Tryz.prog 90 #[.int .u64 n] w (Ret (ι := Unit) (fun _ => .int .i64 (len8 n)) fun _ => H) := by
  refine enterG (fn := Tryz.f90) 8 [.int .u64 n] Tryz.func90 (by kernel_rfl) (by kernel_rfl) (by kernel_rfl) ?_
  refine seqR (by kernel_rfl) ?_
  refine regionR 1 (by kernel_rfl) (by kernel_rfl) ?_
  refine (run0 (z := 0) 1 [0, 2] [(0, .int .u64 n), (2, .int .i64 0)] (fun _ => by kernel_rfl) (endR ?_) : RT _ _ _ _ _ _ 1 _)
  refine seqR (by kernel_rfl) ?_
  refine condR (b := false) (by kernel_rfl) (fun _ => by kernel_rfl) (fun h => by cases h) (fun _ => ?_)
  refine skipR (by kernel_rfl) ?_
  refine seqR (by kernel_rfl) ?_
  refine regionR 3 (by kernel_rfl) (by kernel_rfl) ?_
  refine (run0 (z := 2) 1 [2, 6] [(2, .int .i64 0), (6, .int .u64 n)] (fun _ => by kernel_rfl) ?_ : RT _ _ _ _ _ _ 3 _)
  refine (stepR (z := 1) (callS 107 [.int .u64 n] (some 7) (fun _ => .int .i64 (len8 n)) (fun _ => (H)) (fun _ => by kernel_rfl) (len64_walk _ n h0 h1)) (fun _ => ?_) : RT _ _ _ _ _ _ 2 _)
  refine (run0 (z := 0) 1 [2] [(2, .int .i64 (len8 n))] (fun _ => by kernel_rfl) (endR ?_) : RT _ _ _ _ _ _ 1 _)
  refine retR (by kernel_rfl) ?_
  refine done0 (.int .i64 (len8 n)) (fun _ => by kernel_rfl) (fun w hs => ?_) .ret (.inr rfl)
  exact ⟨(), rfl, hs⟩
end Go.Proofs.YtlhjibkkkhgonaaGreat
set_option linter.unusedVariables false
set_option linter.unusedSimpArgs false
namespace Go.Proofs.YtlhjibkkkhgonaaGreat
open Go.RowKit G Go.Lib
theorem SrtE.not {l : List (Int × Int)} (h : SrtE l) {u v : Nat} {x y : Int × Int} (hu : l[u]? = some x) (hv : l[v]? = some y) (huv : u < v) : decide (byI (y.1, y.2) (x.1, x.2) < 0) = false :=
  decide_eq_false fun hl => eLt_irrefl x (eLt_trans (h.at hu hv huv) ((byI_lt y x).1 hl))
set_option maxRecDepth 100000 in
theorem order2_walk (H : List SP) (s : SV (Int × Int)) (hk : KR H slE s) (hsr : SrtE s.l) (u v : Nat) (huv : u < v) (hv : v < s.l.length) (q : Value) : ∀ w, Sat w H → Calls Tryz.prog 130 #[.slice s.a s.l.length s.c, .int .i64 (u : Int), .int .i64 (v : Int), q, .func (.func 86) #[] #[]] w (Ret (ι := Unit) (fun _ => .tuple #[.int .i64 (u : Int), .int .i64 (v : Int)]) fun _ => H) := by
  obtain ⟨x, hx⟩ : ∃ x, s.l[u]? = some x := ⟨s.l[u]'(by omega), by simp⟩
  obtain ⟨y, hy⟩ : ∃ y, s.l[v]? = some y := ⟨s.l[v]'(by omega), by simp⟩
  refine enterG (fn := Tryz.f130) 32 [.slice s.a s.l.length s.c, .int .i64 (u : Int), .int .i64 (v : Int), q, .func (.func 86) #[] #[]] Tryz.func130 (by kernel_rfl) (by kernel_rfl) (by kernel_rfl) ?_
  refine PT.know ((hk).isSome (List.ne_nil_of_length_pos (by omega))) ?_
  rintro ⟨sb, so, hA⟩
  try rw [hA]
  refine seqR (by kernel_rfl) ?_
  refine regionR 2 (by kernel_rfl) (by kernel_rfl) ?_
  refine (run0 (z := 0) 2 [0, 1, 2, 3, 4, 10, 11] [(0, .slice (some ⟨sb, so, none⟩) s.l.length s.c), (1, .int .i64 (u : Int)), (2, .int .i64 (v : Int)), (3, q), (4, .func (.func 86) #[] #[]), (10, .int .i64 0), (11, .int .i64 0)] (fun _ => by kernel_rfl) (endR ?_) : RT _ _ _ _ _ _ 2 _)
  refine seqR (by kernel_rfl) ?_
  refine seqR (by kernel_rfl) ?_
  refine drawR (fun w => Sat w (H)) [] 11 (by kernel_rfl) (by kernel_rfl) (by kernel_rfl) (fun _ h => by first | exact h | exact h.tail | exact h.tail.tail | exact h.tail.tail.tail | exact h.tail.tail.tail.tail) ?_
  refine takesR [0, 1, 2, 5, 6] [1, 2, 3, 10, 11, 12, 13, 14, 17, 18] 6 [true, true, true, false, false, true, true, false, false, false, false] [(1, .int .i64 (u : Int)), (2, .int .i64 (v : Int)), (3, q), (10, .int .i64 0), (11, .int .i64 0), (12, .func (.func 86) #[] #[]), (13, .slice (some ⟨sb, so, none⟩) s.l.length s.c), (14, .int .i64 (v : Int)), (17, .slice (some ⟨sb, so, none⟩) s.l.length s.c), (18, .int .i64 (u : Int))] [] rfl (fun _ d _ _ _ h => by cases d <;> exact h) (fun _ h => by first | exact h | exact h.tail | exact h.tail.tail | exact h.tail.tail.tail | exact h.tail.tail.tail.tail) has0 (fun _ => by kernel_rfl) ?_
  refine takeR1 3 5 [true, true, true, true, false, true, true, false, false, false, false] rfl rfl (by kernel_rfl) (fun _ d _ _ _ h => by cases d <;> exact h) (fun _ h => by first | exact h | exact h.tail | exact h.tail.tail | exact h.tail.tail.tail | exact h.tail.tail.tail.tail) (idxY 128 (.tmp 13) (.tmp 14) sb so s.l.length s.c v 2 104 (v : Int) .i64 (some 15) (fun _ => by kernel_rfl) (by kernel_rfl) (by kernel_rfl) (fun _ => by kernel_rfl) (fun _ => by kernel_rfl) Tryz.underlying128 (by kernel_rfl) (by first | rfl | assumption | simp) (by first | omega | (simp; done) | (simp; omega) | (simp at *; omega))) ?_
  refine takesR [4] [1, 2, 3, 10, 11, 12, 17, 18, 16] 4 [true, true, true, true, true, true, true, false, false, false, false] [(1, .int .i64 (u : Int)), (2, .int .i64 (v : Int)), (3, q), (10, .int .i64 0), (11, .int .i64 0), (12, .func (.func 86) #[] #[]), (17, .slice (some ⟨sb, so, none⟩) s.l.length s.c), (18, .int .i64 (u : Int)), (16, .agg #[.int .i64 y.1, .int .i64 y.2])] [(⟨sb, so + v * 2, none⟩, .int .i64 y.1), (⟨sb, so + v * 2 + 1, none⟩, .int .i64 y.2)] rfl (fun _ d _ _ _ h => by cases d <;> exact h) (fun _ h => by first | exact h | exact h.tail | exact h.tail.tail | exact h.tail.tail.tail | exact h.tail.tail.tail.tail) (hasC (hk.cell hA (i := v) (x := y) hy (j := 0) rfl) (hasC (hk.cell hA (i := v) (x := y) hy (j := 1) rfl) has0)) (fun _ => by kernel_rfl) ?_
  refine takeR1 7 3 [true, true, true, true, true, true, true, true, false, false, false] rfl rfl (by kernel_rfl) (fun _ d _ _ _ h => by cases d <;> exact h) (fun _ h => by first | exact h | exact h.tail | exact h.tail.tail | exact h.tail.tail.tail | exact h.tail.tail.tail.tail) (idxY 128 (.tmp 17) (.tmp 18) sb so s.l.length s.c u 2 104 (u : Int) .i64 (some 19) (fun _ => by kernel_rfl) (by kernel_rfl) (by kernel_rfl) (fun _ => by kernel_rfl) (fun _ => by kernel_rfl) Tryz.underlying128 (by kernel_rfl) (by first | rfl | assumption | simp) (by first | omega | (simp; done) | (simp; omega) | (simp at *; omega))) ?_
  refine takesR [8] [1, 2, 3, 10, 11, 12, 16, 20] 2 [true, true, true, true, true, true, true, true, true, false, false] [(1, .int .i64 (u : Int)), (2, .int .i64 (v : Int)), (3, q), (10, .int .i64 0), (11, .int .i64 0), (12, .func (.func 86) #[] #[]), (16, .agg #[.int .i64 y.1, .int .i64 y.2]), (20, .agg #[.int .i64 x.1, .int .i64 x.2])] [(⟨sb, so + u * 2, none⟩, .int .i64 x.1), (⟨sb, so + u * 2 + 1, none⟩, .int .i64 x.2)] rfl (fun _ d _ _ _ h => by cases d <;> exact h) (fun _ h => by first | exact h | exact h.tail | exact h.tail.tail | exact h.tail.tail.tail | exact h.tail.tail.tail.tail) (hasC (hk.cell hA (i := u) (x := x) hx (j := 0) rfl) (hasC (hk.cell hA (i := u) (x := x) hx (j := 1) rfl) has0)) (fun _ => by kernel_rfl) ?_
  refine oneR 9 1 [true, true, true, true, true, true, true, true, true, true, false] rfl rfl (by kernel_rfl) (callS 86 [.agg #[.int .i64 y.1, .int .i64 y.2], .agg #[.int .i64 x.1, .int .i64 x.2]] (some 21) (fun _ => .int .i64 (byI (y.1, y.2) (x.1, x.2))) (fun (_ : Unit) => (H)) (fun _ => by kernel_rfl) (by_walk _ y.1 y.2 x.1 x.2)) (fun _ _ h hn => by first | exact h | exact h.tail | exact h.tail.tail | exact h.tail.tail.tail | exact h.tail.tail.tail.tail | exact absurd hn (by decide)) (fun _ => ?_)
  refine takesR [10] [1, 2, 3, 10, 11, 22] 0 [true, true, true, true, true, true, true, true, true, true, true] [(1, .int .i64 (u : Int)), (2, .int .i64 (v : Int)), (3, q), (10, .int .i64 0), (11, .int .i64 0), (22, .bool (decide ((byI (y.1, y.2) (x.1, x.2)) < 0)))] [] rfl (fun _ d _ _ _ h => by cases d <;> exact h) (fun _ h => by first | exact h | exact h.tail | exact h.tail.tail | exact h.tail.tail.tail | exact h.tail.tail.tail.tail) has0 (fun _ => by kernel_rfl) ?_
  refine drawnR (by kernel_rfl) ?_
  rw [hsr.not hx hy huv]
  refine condR (b := false) (by kernel_rfl) (fun _ => by kernel_rfl) (fun h => by cases h) (fun _ => ?_)
  refine skipR (by kernel_rfl) ?_
  refine seqR (by kernel_rfl) ?_
  refine regionR 4 (by kernel_rfl) (by kernel_rfl) ?_
  refine (run0 (z := 0) 4 [10, 11] [(10, .int .i64 (u : Int)), (11, .int .i64 (v : Int))] (fun _ => by kernel_rfl) (endR ?_) : RT _ _ _ _ _ _ 4 _)
  refine retR (by kernel_rfl) ?_
  refine done0 (.tuple #[.int .i64 (u : Int), .int .i64 (v : Int)]) (fun _ => by kernel_rfl) (fun w hs => ?_) .ret (.inr rfl)
  exact ⟨(), rfl, hs⟩
set_option maxRecDepth 100000 in
theorem median_walk (H : List SP) (s : SV (Int × Int)) (hk : KR H slE s) (hsr : SrtE s.l) (u v t : Nat) (huv : u < v) (hvt : v < t) (ht : t < s.l.length) (q : Value) : ∀ w, Sat w H → Calls Tryz.prog 127 #[.slice s.a s.l.length s.c, .int .i64 (u : Int), .int .i64 (v : Int), .int .i64 (t : Int), q, .func (.func 86) #[] #[]] w (Ret (ι := Unit) (fun _ => .int .i64 (v : Int)) fun _ => H) := by
  refine enterG (fn := Tryz.f127) 41 [.slice s.a s.l.length s.c, .int .i64 (u : Int), .int .i64 (v : Int), .int .i64 (t : Int), q, .func (.func 86) #[] #[]] Tryz.func127 (by kernel_rfl) (by kernel_rfl) (by kernel_rfl) ?_
  refine seqR (by kernel_rfl) ?_
  refine regionR 1 (by kernel_rfl) (by kernel_rfl) ?_
  refine (run0 (z := 0) 1 [0, 1, 2, 3, 4, 5, 12] [(0, .slice s.a s.l.length s.c), (1, .int .i64 (u : Int)), (2, .int .i64 (v : Int)), (3, .int .i64 (t : Int)), (4, q), (5, .func (.func 86) #[] #[]), (12, .int .i64 0)] (fun _ => by kernel_rfl) (endR ?_) : RT _ _ _ _ _ _ 1 _)
  refine seqR (by kernel_rfl) ?_
  refine regionR 11 (by kernel_rfl) (by kernel_rfl) ?_
  refine (run0 (z := 6) 5 [0, 1, 2, 3, 4, 5, 12, 14, 15, 16, 17, 18] [(0, .slice s.a s.l.length s.c), (1, .int .i64 (u : Int)), (2, .int .i64 (v : Int)), (3, .int .i64 (t : Int)), (4, q), (5, .func (.func 86) #[] #[]), (12, .int .i64 0), (14, .slice s.a s.l.length s.c), (15, .int .i64 (u : Int)), (16, .int .i64 (v : Int)), (17, q), (18, .func (.func 86) #[] #[])] (fun _ => by kernel_rfl) ?_ : RT _ _ _ _ _ _ 11 _)
  refine (stepR (z := 5) (callS 130 [.slice s.a s.l.length s.c, .int .i64 (u : Int), .int .i64 (v : Int), q, .func (.func 86) #[] #[]] (some 19) (fun _ => .tuple #[.int .i64 (u : Int), .int .i64 (v : Int)]) (fun _ => (H)) (fun _ => by kernel_rfl) (order2_walk _ s hk hsr u v huv (by omega) q)) (fun _ => ?_) : RT _ _ _ _ _ _ 6 _)
  refine (run0 (z := 0) 5 [0, 1, 2, 3, 4, 5, 12] [(0, .slice s.a s.l.length s.c), (1, .int .i64 (u : Int)), (2, .int .i64 (v : Int)), (3, .int .i64 (t : Int)), (4, q), (5, .func (.func 86) #[] #[]), (12, .int .i64 0)] (fun _ => by kernel_rfl) (endR ?_) : RT _ _ _ _ _ _ 5 _)
  refine seqR (by kernel_rfl) ?_
  refine regionR 11 (by kernel_rfl) (by kernel_rfl) ?_
  refine (run0 (z := 6) 5 [0, 1, 2, 4, 5, 12, 23, 24, 25, 26, 27] [(0, .slice s.a s.l.length s.c), (1, .int .i64 (u : Int)), (2, .int .i64 (v : Int)), (4, q), (5, .func (.func 86) #[] #[]), (12, .int .i64 0), (23, .slice s.a s.l.length s.c), (24, .int .i64 (v : Int)), (25, .int .i64 (t : Int)), (26, q), (27, .func (.func 86) #[] #[])] (fun _ => by kernel_rfl) ?_ : RT _ _ _ _ _ _ 11 _)
  refine (stepR (z := 5) (callS 130 [.slice s.a s.l.length s.c, .int .i64 (v : Int), .int .i64 (t : Int), q, .func (.func 86) #[] #[]] (some 28) (fun _ => .tuple #[.int .i64 (v : Int), .int .i64 (t : Int)]) (fun _ => (H)) (fun _ => by kernel_rfl) (order2_walk _ s hk hsr v t hvt ht q)) (fun _ => ?_) : RT _ _ _ _ _ _ 6 _)
  refine (run0 (z := 0) 5 [0, 1, 2, 4, 5, 12] [(0, .slice s.a s.l.length s.c), (1, .int .i64 (u : Int)), (2, .int .i64 (v : Int)), (4, q), (5, .func (.func 86) #[] #[]), (12, .int .i64 0)] (fun _ => by kernel_rfl) (endR ?_) : RT _ _ _ _ _ _ 5 _)
  refine seqR (by kernel_rfl) ?_
  refine regionR 11 (by kernel_rfl) (by kernel_rfl) ?_
  refine (run0 (z := 6) 5 [2, 12, 32, 33, 34, 35, 36] [(2, .int .i64 (v : Int)), (12, .int .i64 0), (32, .slice s.a s.l.length s.c), (33, .int .i64 (u : Int)), (34, .int .i64 (v : Int)), (35, q), (36, .func (.func 86) #[] #[])] (fun _ => by kernel_rfl) ?_ : RT _ _ _ _ _ _ 11 _)
  refine (stepR (z := 5) (callS 130 [.slice s.a s.l.length s.c, .int .i64 (u : Int), .int .i64 (v : Int), q, .func (.func 86) #[] #[]] (some 37) (fun _ => .tuple #[.int .i64 (u : Int), .int .i64 (v : Int)]) (fun _ => (H)) (fun _ => by kernel_rfl) (order2_walk _ s hk hsr u v huv (by omega) q)) (fun _ => ?_) : RT _ _ _ _ _ _ 6 _)
  refine (run0 (z := 0) 5 [2, 12] [(2, .int .i64 (v : Int)), (12, .int .i64 0)] (fun _ => by kernel_rfl) (endR ?_) : RT _ _ _ _ _ _ 5 _)
  refine seqR (by kernel_rfl) ?_
  refine regionR 2 (by kernel_rfl) (by kernel_rfl) ?_
  refine (run0 (z := 0) 2 [12] [(12, .int .i64 (v : Int))] (fun _ => by kernel_rfl) (endR ?_) : RT _ _ _ _ _ _ 2 _)
  refine retR (by kernel_rfl) ?_
  refine done0 (.int .i64 (v : Int)) (fun _ => by kernel_rfl) (fun w hs => ?_) .ret (.inr rfl)
  exact ⟨(), rfl, hs⟩
set_option maxRecDepth 100000 in
theorem medianAdj_walk (H : List SP) (s : SV (Int × Int)) (hk : KR H slE s) (hsr : SrtE s.l) (v : Nat) (hv0 : 0 < v) (hv : v + 1 < s.l.length) (hl : s.l.length < 1000000) (q : Value) : ∀ w, Sat w H → Calls Tryz.prog 126 #[.slice s.a s.l.length s.c, .int .i64 (v : Int), q, .func (.func 86) #[] #[]] w (Ret (ι := Unit) (fun _ => .int .i64 (v : Int)) fun _ => H) := by
  refine enterG (fn := Tryz.f126) 18 [.slice s.a s.l.length s.c, .int .i64 (v : Int), q, .func (.func 86) #[] #[]] Tryz.func126 (by kernel_rfl) (by kernel_rfl) (by kernel_rfl) ?_
  refine seqR (by kernel_rfl) ?_
  refine regionR 1 (by kernel_rfl) (by kernel_rfl) ?_
  refine (run0 (z := 0) 1 [0, 1, 2, 3, 8] [(0, .slice s.a s.l.length s.c), (1, .int .i64 (v : Int)), (2, q), (3, .func (.func 86) #[] #[]), (8, .int .i64 0)] (fun _ => by kernel_rfl) (endR ?_) : RT _ _ _ _ _ _ 1 _)
  refine seqR (by kernel_rfl) ?_
  refine regionR 10 (by kernel_rfl) (by kernel_rfl) ?_
  refine (run0 (z := 2) 8 [8, 9, 11, 12, 14, 15, 16] [(8, .int .i64 0), (9, .slice s.a s.l.length s.c), (11, .int .i64 (IntKind.i64.wrap ((v : Int) - 1))), (12, .int .i64 (v : Int)), (14, .int .i64 (IntKind.i64.wrap ((v : Int) + 1))), (15, q), (16, .func (.func 86) #[] #[])] (fun _ => by kernel_rfl) ?_ : RT _ _ _ _ _ _ 10 _)
  rw [show IntKind.i64.wrap ((v : Int) - 1) = ((v - 1 : Nat) : Int) by rw [IntKind.wrap_i64]; omega, show IntKind.i64.wrap ((v : Int) + 1) = ((v + 1 : Nat) : Int) by rw [IntKind.wrap_i64]; omega]
  refine (stepR (z := 1) (callS 127 [.slice s.a s.l.length s.c, .int .i64 ((v - 1 : Nat) : Int), .int .i64 (v : Int), .int .i64 ((v + 1 : Nat) : Int), q, .func (.func 86) #[] #[]] (some 17) (fun _ => .int .i64 (v : Int)) (fun _ => (H)) (fun _ => by kernel_rfl) (median_walk _ s hk hsr (v - 1) v (v + 1) (by omega) (by omega) hv q)) (fun _ => ?_) : RT _ _ _ _ _ _ 2 _)
  refine (run0 (z := 0) 1 [8] [(8, .int .i64 (v : Int))] (fun _ => by kernel_rfl) (endR ?_) : RT _ _ _ _ _ _ 1 _)
  refine retR (by kernel_rfl) ?_
  refine done0 (.int .i64 (v : Int)) (fun _ => by kernel_rfl) (fun w hs => ?_) .ret (.inr rfl)
  exact ⟨(), rfl, hs⟩
theorem quart {n : Nat} (hn : n ≤ 1000) : IntKind.i64.wrap (Int.tdiv (n : Int) 4) = ((n / 4 : Nat) : Int) := by rw [Int.tdiv_eq_ediv_of_nonneg (by omega), IntKind.wrap_i64]; omega
set_option maxHeartbeats 1000000 in
set_option maxRecDepth 100000 in
theorem pivot_walk (H : List SP) (s : SV (Int × Int)) (hk : KR H slE s) (hsr : SrtE s.l) (hl : s.l.length ≤ 64) (hl2 : 12 < s.l.length) : ∀ w, Sat w H → Calls Tryz.prog 113 #[.slice s.a s.l.length s.c, .int .i64 0, .int .i64 (s.l.length : Int), .func (.func 86) #[] #[]] w (Ret (ι := Unit) (fun _ => .tuple #[.int .i64 ((s.l.length / 4 * 2 : Nat) : Int), .int .i64 1]) fun _ => H) := by
  obtain ⟨n, hn⟩ : ∃ n, n = s.l.length := ⟨_, rfl⟩
  have hq := quart (n := n) (by omega)
  obtain ⟨m, hm⟩ : ∃ m, m = n / 4 := ⟨_, rfl⟩
  refine enterG (fn := Tryz.f113) 63 [.slice s.a s.l.length s.c, .int .i64 0, .int .i64 (s.l.length : Int), .func (.func 86) #[] #[]] Tryz.func113 (by kernel_rfl) (by kernel_rfl) (by kernel_rfl) ?_
  refine seqR (by kernel_rfl) ?_
  refine regionR 2 (by kernel_rfl) (by kernel_rfl) ?_
  refine (run0 (z := 0) 2 [0, 1, 2, 3, 8, 9] [(0, .slice s.a s.l.length s.c), (1, .int .i64 0), (2, .int .i64 (s.l.length : Int)), (3, .func (.func 86) #[] #[]), (8, .int .i64 0), (9, .int .i64 0)] (fun _ => by kernel_rfl) (endR ?_) : RT _ _ _ _ _ _ 2 _)
  refine seqR (by kernel_rfl) ?_
  refine regionR 4 (by kernel_rfl) (by kernel_rfl) ?_
  refine (run0 (z := 0) 4 [0, 1, 3, 8, 9, 10] [(0, .slice s.a s.l.length s.c), (1, .int .i64 0), (3, .func (.func 86) #[] #[]), (8, .int .i64 0), (9, .int .i64 0), (10, .int .i64 (IntKind.i64.wrap ((s.l.length : Int) - 0)))] (fun _ => by kernel_rfl) (endR ?_) : RT _ _ _ _ _ _ 4 _)
  refine seqR (by kernel_rfl) ?_
  refine regionR 1 (by kernel_rfl) (by kernel_rfl) ?_
  refine (stepR (z := 0) (newS 3 [.int .i64 0] (some 11) (fun b => .pointer (some ⟨b, 0, none⟩)) (fun _ _ => by kernel_rfl)) (fun b1 => ?_) : RT _ _ _ _ _ _ 1 _)
  refine endR ?_
  refine seqR (by kernel_rfl) ?_
  refine regionR 6 (by kernel_rfl) (by kernel_rfl) ?_
  refine (run0 (z := 0) 6 [11, 0, 1, 3, 8, 9, 10, 12] [(11, .pointer (some ⟨b1, 0, none⟩)), (0, .slice s.a s.l.length s.c), (1, .int .i64 0), (3, .func (.func 86) #[] #[]), (8, .int .i64 0), (9, .int .i64 0), (10, .int .i64 (IntKind.i64.wrap ((s.l.length : Int) - 0))), (12, .int .i64 (IntKind.i64.wrap (0 + (IntKind.i64.wrap ((IntKind.i64.wrap (Int.tdiv (IntKind.i64.wrap ((s.l.length : Int) - 0)) 4)) * 1)))))] (fun _ => by kernel_rfl) (endR ?_) : RT _ _ _ _ _ _ 6 _)
  refine seqR (by kernel_rfl) ?_
  refine regionR 6 (by kernel_rfl) (by kernel_rfl) ?_
  refine (run0 (z := 0) 6 [11, 0, 1, 3, 8, 9, 10, 12, 13] [(11, .pointer (some ⟨b1, 0, none⟩)), (0, .slice s.a s.l.length s.c), (1, .int .i64 0), (3, .func (.func 86) #[] #[]), (8, .int .i64 0), (9, .int .i64 0), (10, .int .i64 (IntKind.i64.wrap ((s.l.length : Int) - 0))), (12, .int .i64 (IntKind.i64.wrap (0 + (IntKind.i64.wrap ((IntKind.i64.wrap (Int.tdiv (IntKind.i64.wrap ((s.l.length : Int) - 0)) 4)) * 1))))), (13, .int .i64 (IntKind.i64.wrap (0 + (IntKind.i64.wrap ((IntKind.i64.wrap (Int.tdiv (IntKind.i64.wrap ((s.l.length : Int) - 0)) 4)) * 2)))))] (fun _ => by kernel_rfl) (endR ?_) : RT _ _ _ _ _ _ 6 _)
  refine seqR (by kernel_rfl) ?_
  refine regionR 6 (by kernel_rfl) (by kernel_rfl) ?_
  refine (run0 (z := 0) 6 [11, 0, 3, 8, 9, 10, 12, 13, 14] [(11, .pointer (some ⟨b1, 0, none⟩)), (0, .slice s.a s.l.length s.c), (3, .func (.func 86) #[] #[]), (8, .int .i64 0), (9, .int .i64 0), (10, .int .i64 (IntKind.i64.wrap ((s.l.length : Int) - 0))), (12, .int .i64 (IntKind.i64.wrap (0 + (IntKind.i64.wrap ((IntKind.i64.wrap (Int.tdiv (IntKind.i64.wrap ((s.l.length : Int) - 0)) 4)) * 1))))), (13, .int .i64 (IntKind.i64.wrap (0 + (IntKind.i64.wrap ((IntKind.i64.wrap (Int.tdiv (IntKind.i64.wrap ((s.l.length : Int) - 0)) 4)) * 2))))), (14, .int .i64 (IntKind.i64.wrap (0 + (IntKind.i64.wrap ((IntKind.i64.wrap (Int.tdiv (IntKind.i64.wrap ((s.l.length : Int) - 0)) 4)) * 3)))))] (fun _ => by kernel_rfl) (endR ?_) : RT _ _ _ _ _ _ 6 _)
  refine seqR (by kernel_rfl) ?_
  refine seqR (by kernel_rfl) ?_
  refine regionR 2 (by kernel_rfl) (by kernel_rfl) ?_
  refine (run0 (z := 0) 2 [11, 0, 3, 8, 9, 10, 12, 13, 14, 34] [(11, .pointer (some ⟨b1, 0, none⟩)), (0, .slice s.a s.l.length s.c), (3, .func (.func 86) #[] #[]), (8, .int .i64 0), (9, .int .i64 0), (10, .int .i64 (IntKind.i64.wrap ((s.l.length : Int) - 0))), (12, .int .i64 (IntKind.i64.wrap (0 + (IntKind.i64.wrap ((IntKind.i64.wrap (Int.tdiv (IntKind.i64.wrap ((s.l.length : Int) - 0)) 4)) * 1))))), (13, .int .i64 (IntKind.i64.wrap (0 + (IntKind.i64.wrap ((IntKind.i64.wrap (Int.tdiv (IntKind.i64.wrap ((s.l.length : Int) - 0)) 4)) * 2))))), (14, .int .i64 (IntKind.i64.wrap (0 + (IntKind.i64.wrap ((IntKind.i64.wrap (Int.tdiv (IntKind.i64.wrap ((s.l.length : Int) - 0)) 4)) * 3))))), (34, .bool (decide ((IntKind.i64.wrap ((s.l.length : Int) - 0)) ≥ 8)))] (fun _ => by kernel_rfl) (endR ?_) : RT _ _ _ _ _ _ 2 _)
  rw [show IntKind.i64.wrap ((s.l.length : Int) - 0) = (s.l.length : Int) by rw [IntKind.wrap_i64]; omega, ← hn, hq, ← hm]
  rw [show IntKind.i64.wrap (0 + IntKind.i64.wrap ((m : Int) * 1)) = (m : Int) by rw [IntKind.wrap_i64, IntKind.wrap_i64]; omega, show IntKind.i64.wrap (0 + IntKind.i64.wrap ((m : Int) * 2)) = ((m * 2 : Nat) : Int) by rw [IntKind.wrap_i64, IntKind.wrap_i64]; omega, show IntKind.i64.wrap (0 + IntKind.i64.wrap ((m : Int) * 3)) = ((m * 3 : Nat) : Int) by rw [IntKind.wrap_i64, IntKind.wrap_i64]; omega]
  rw [hn]
  rw [show decide ((s.l.length : Int) ≥ 8) = true from decide_eq_true (by omega)]
  refine condR (b := true) (by kernel_rfl) (fun _ => by kernel_rfl) (fun _ => ?_) (fun h => by cases h)
  refine seqR (by kernel_rfl) ?_
  refine seqR (by kernel_rfl) ?_
  refine regionR 2 (by kernel_rfl) (by kernel_rfl) ?_
  refine (run0 (z := 0) 2 [11, 0, 3, 8, 9, 12, 13, 14, 36] [(11, .pointer (some ⟨b1, 0, none⟩)), (0, .slice s.a s.l.length s.c), (3, .func (.func 86) #[] #[]), (8, .int .i64 0), (9, .int .i64 0), (12, .int .i64 (m : Int)), (13, .int .i64 ((m * 2 : Nat) : Int)), (14, .int .i64 ((m * 3 : Nat) : Int)), (36, .bool (decide ((s.l.length : Int) ≥ 50)))] (fun _ => by kernel_rfl) (endR ?_) : RT _ _ _ _ _ _ 2 _)
  refine condR (b := decide ((s.l.length : Int) ≥ 50)) (by kernel_rfl) (fun _ => by kernel_rfl) (fun h1 => ?_) (fun h1 => ?_)
  · skip
    have h1' : 50 ≤ s.l.length := by have := of_decide_eq_true h1; omega
    refine seqR (by kernel_rfl) ?_
    refine regionR 5 (by kernel_rfl) (by kernel_rfl) ?_
    refine (run0 (z := 2) 3 [11, 0, 3, 8, 9, 12, 13, 14, 37, 38, 39] [(11, .pointer (some ⟨b1, 0, none⟩)), (0, .slice s.a s.l.length s.c), (3, .func (.func 86) #[] #[]), (8, .int .i64 0), (9, .int .i64 0), (12, .int .i64 (m : Int)), (13, .int .i64 ((m * 2 : Nat) : Int)), (14, .int .i64 ((m * 3 : Nat) : Int)), (37, .slice s.a s.l.length s.c), (38, .int .i64 (m : Int)), (39, .func (.func 86) #[] #[])] (fun _ => by kernel_rfl) ?_ : RT _ _ _ _ _ _ 5 _)
    refine (stepR (z := 1) (callS 126 [.slice s.a s.l.length s.c, .int .i64 (m : Int), .pointer (some ⟨b1, 0, none⟩), .func (.func 86) #[] #[]] (some 40) (fun _ => .int .i64 (m : Int)) (fun _ => (blk b1 3 [.int .i64 0] :: H)) (fun _ => by kernel_rfl) (medianAdj_walk _ s hk.up hsr m (by omega) (by omega) (by omega) (.pointer (some ⟨b1, 0, none⟩)))) (fun _ => ?_) : RT _ _ _ _ _ _ 2 _)
    refine (run0 (z := 0) 1 [11, 0, 3, 8, 9, 12, 13, 14] [(11, .pointer (some ⟨b1, 0, none⟩)), (0, .slice s.a s.l.length s.c), (3, .func (.func 86) #[] #[]), (8, .int .i64 0), (9, .int .i64 0), (12, .int .i64 (m : Int)), (13, .int .i64 ((m * 2 : Nat) : Int)), (14, .int .i64 ((m * 3 : Nat) : Int))] (fun _ => by kernel_rfl) (endR ?_) : RT _ _ _ _ _ _ 1 _)
    refine seqR (by kernel_rfl) ?_
    refine regionR 5 (by kernel_rfl) (by kernel_rfl) ?_
    refine (run0 (z := 2) 3 [11, 0, 3, 8, 9, 12, 13, 14, 41, 42, 43] [(11, .pointer (some ⟨b1, 0, none⟩)), (0, .slice s.a s.l.length s.c), (3, .func (.func 86) #[] #[]), (8, .int .i64 0), (9, .int .i64 0), (12, .int .i64 (m : Int)), (13, .int .i64 ((m * 2 : Nat) : Int)), (14, .int .i64 ((m * 3 : Nat) : Int)), (41, .slice s.a s.l.length s.c), (42, .int .i64 ((m * 2 : Nat) : Int)), (43, .func (.func 86) #[] #[])] (fun _ => by kernel_rfl) ?_ : RT _ _ _ _ _ _ 5 _)
    refine (stepR (z := 1) (callS 126 [.slice s.a s.l.length s.c, .int .i64 ((m * 2 : Nat) : Int), .pointer (some ⟨b1, 0, none⟩), .func (.func 86) #[] #[]] (some 44) (fun _ => .int .i64 ((m * 2 : Nat) : Int)) (fun _ => (blk b1 3 [.int .i64 0] :: H)) (fun _ => by kernel_rfl) (medianAdj_walk _ s hk.up hsr (m * 2) (by omega) (by omega) (by omega) (.pointer (some ⟨b1, 0, none⟩)))) (fun _ => ?_) : RT _ _ _ _ _ _ 2 _)
    refine (run0 (z := 0) 1 [11, 0, 3, 8, 9, 12, 13, 14] [(11, .pointer (some ⟨b1, 0, none⟩)), (0, .slice s.a s.l.length s.c), (3, .func (.func 86) #[] #[]), (8, .int .i64 0), (9, .int .i64 0), (12, .int .i64 (m : Int)), (13, .int .i64 ((m * 2 : Nat) : Int)), (14, .int .i64 ((m * 3 : Nat) : Int))] (fun _ => by kernel_rfl) (endR ?_) : RT _ _ _ _ _ _ 1 _)
    refine regionR 5 (by kernel_rfl) (by kernel_rfl) ?_
    refine (run0 (z := 2) 3 [11, 0, 3, 8, 9, 12, 13, 14, 45, 46, 47] [(11, .pointer (some ⟨b1, 0, none⟩)), (0, .slice s.a s.l.length s.c), (3, .func (.func 86) #[] #[]), (8, .int .i64 0), (9, .int .i64 0), (12, .int .i64 (m : Int)), (13, .int .i64 ((m * 2 : Nat) : Int)), (14, .int .i64 ((m * 3 : Nat) : Int)), (45, .slice s.a s.l.length s.c), (46, .int .i64 ((m * 3 : Nat) : Int)), (47, .func (.func 86) #[] #[])] (fun _ => by kernel_rfl) ?_ : RT _ _ _ _ _ _ 5 _)
    refine (stepR (z := 1) (callS 126 [.slice s.a s.l.length s.c, .int .i64 ((m * 3 : Nat) : Int), .pointer (some ⟨b1, 0, none⟩), .func (.func 86) #[] #[]] (some 48) (fun _ => .int .i64 ((m * 3 : Nat) : Int)) (fun _ => (blk b1 3 [.int .i64 0] :: H)) (fun _ => by kernel_rfl) (medianAdj_walk _ s hk.up hsr (m * 3) (by omega) (by omega) (by omega) (.pointer (some ⟨b1, 0, none⟩)))) (fun _ => ?_) : RT _ _ _ _ _ _ 2 _)
    refine (run0 (z := 0) 1 [11, 0, 3, 8, 9, 12, 13, 14] [(11, .pointer (some ⟨b1, 0, none⟩)), (0, .slice s.a s.l.length s.c), (3, .func (.func 86) #[] #[]), (8, .int .i64 0), (9, .int .i64 0), (12, .int .i64 (m : Int)), (13, .int .i64 ((m * 2 : Nat) : Int)), (14, .int .i64 ((m * 3 : Nat) : Int))] (fun _ => by kernel_rfl) (endR ?_) : RT _ _ _ _ _ _ 1 _)
    refine regionR 7 (by kernel_rfl) (by kernel_rfl) ?_
    refine (run0 (z := 2) 5 [11, 8, 9, 13, 49, 50, 51, 52, 53] [(11, .pointer (some ⟨b1, 0, none⟩)), (8, .int .i64 0), (9, .int .i64 0), (13, .int .i64 ((m * 2 : Nat) : Int)), (49, .slice s.a s.l.length s.c), (50, .int .i64 (m : Int)), (51, .int .i64 ((m * 2 : Nat) : Int)), (52, .int .i64 ((m * 3 : Nat) : Int)), (53, .func (.func 86) #[] #[])] (fun _ => by kernel_rfl) ?_ : RT _ _ _ _ _ _ 7 _)
    refine (stepR (z := 1) (callS 127 [.slice s.a s.l.length s.c, .int .i64 (m : Int), .int .i64 ((m * 2 : Nat) : Int), .int .i64 ((m * 3 : Nat) : Int), .pointer (some ⟨b1, 0, none⟩), .func (.func 86) #[] #[]] (some 54) (fun _ => .int .i64 ((m * 2 : Nat) : Int)) (fun _ => (blk b1 3 [.int .i64 0] :: H)) (fun _ => by kernel_rfl) (median_walk _ s hk.up hsr m (m * 2) (m * 3) (by omega) (by omega) (by omega) (.pointer (some ⟨b1, 0, none⟩)))) (fun _ => ?_) : RT _ _ _ _ _ _ 2 _)
    refine (run0 (z := 0) 1 [11, 8, 9, 13] [(11, .pointer (some ⟨b1, 0, none⟩)), (8, .int .i64 0), (9, .int .i64 0), (13, .int .i64 ((m * 2 : Nat) : Int))] (fun _ => by kernel_rfl) (endR ?_) : RT _ _ _ _ _ _ 1 _)
    refine seqR (by kernel_rfl) ?_
    refine regionR 1 (by kernel_rfl) (by kernel_rfl) ?_
    refine (runR (H := (blk b1 3 [.int .i64 0] :: H)) (z := 0) 1 [8, 9, 13, 55] [(8, .int .i64 0), (9, .int .i64 0), (13, .int .i64 ((m * 2 : Nat) : Int)), (55, .int .i64 0)] [(⟨b1, 0, none⟩, .int .i64 0)] (hasC (blkAt (T := 3) (cs := [.int .i64 0]) 0 rfl rfl) has0) (fun _ => by kernel_rfl) (endR ?_) : RT _ _ _ _ _ _ 1 _)
    refine blockR 0 (by kernel_rfl) (by kernel_rfl) ?_
    refine seqR (by kernel_rfl) ?_
    refine regionR 2 (by kernel_rfl) (by kernel_rfl) ?_
    refine (run0 (z := 0) 2 [8, 9, 13, 55, 57] [(8, .int .i64 0), (9, .int .i64 0), (13, .int .i64 ((m * 2 : Nat) : Int)), (55, .int .i64 0), (57, .bool true)] (fun _ => by kernel_rfl) (endR ?_) : RT _ _ _ _ _ _ 2 _)
    refine condR (b := true) (by kernel_rfl) (fun _ => by kernel_rfl) (fun _ => ?_) (fun h => by cases h)
    refine seqR (by kernel_rfl) ?_
    refine regionR 3 (by kernel_rfl) (by kernel_rfl) ?_
    refine (run0 (z := 0) 3 [8, 9] [(8, .int .i64 ((m * 2 : Nat) : Int)), (9, .int .i64 1)] (fun _ => by kernel_rfl) (endR ?_) : RT _ _ _ _ _ _ 3 _)
    refine retR (by kernel_rfl) ?_
    refine blockV ?_
    refine done0 (.tuple #[.int .i64 ((m * 2 : Nat) : Int), .int .i64 1]) (fun _ => by kernel_rfl) (fun w hs => ?_) .ret (.inr rfl)
    exact ⟨(), rfl, hs.tail⟩
  · skip
    refine skipR (by kernel_rfl) ?_
    refine regionR 7 (by kernel_rfl) (by kernel_rfl) ?_
    refine (run0 (z := 2) 5 [11, 8, 9, 13, 49, 50, 51, 52, 53] [(11, .pointer (some ⟨b1, 0, none⟩)), (8, .int .i64 0), (9, .int .i64 0), (13, .int .i64 ((m * 2 : Nat) : Int)), (49, .slice s.a s.l.length s.c), (50, .int .i64 (m : Int)), (51, .int .i64 ((m * 2 : Nat) : Int)), (52, .int .i64 ((m * 3 : Nat) : Int)), (53, .func (.func 86) #[] #[])] (fun _ => by kernel_rfl) ?_ : RT _ _ _ _ _ _ 7 _)
    refine (stepR (z := 1) (callS 127 [.slice s.a s.l.length s.c, .int .i64 (m : Int), .int .i64 ((m * 2 : Nat) : Int), .int .i64 ((m * 3 : Nat) : Int), .pointer (some ⟨b1, 0, none⟩), .func (.func 86) #[] #[]] (some 54) (fun _ => .int .i64 ((m * 2 : Nat) : Int)) (fun _ => (blk b1 3 [.int .i64 0] :: H)) (fun _ => by kernel_rfl) (median_walk _ s hk.up hsr m (m * 2) (m * 3) (by omega) (by omega) (by omega) (.pointer (some ⟨b1, 0, none⟩)))) (fun _ => ?_) : RT _ _ _ _ _ _ 2 _)
    refine (run0 (z := 0) 1 [11, 8, 9, 13] [(11, .pointer (some ⟨b1, 0, none⟩)), (8, .int .i64 0), (9, .int .i64 0), (13, .int .i64 ((m * 2 : Nat) : Int))] (fun _ => by kernel_rfl) (endR ?_) : RT _ _ _ _ _ _ 1 _)
    refine seqR (by kernel_rfl) ?_
    refine regionR 1 (by kernel_rfl) (by kernel_rfl) ?_
    refine (runR (H := (blk b1 3 [.int .i64 0] :: H)) (z := 0) 1 [8, 9, 13, 55] [(8, .int .i64 0), (9, .int .i64 0), (13, .int .i64 ((m * 2 : Nat) : Int)), (55, .int .i64 0)] [(⟨b1, 0, none⟩, .int .i64 0)] (hasC (blkAt (T := 3) (cs := [.int .i64 0]) 0 rfl rfl) has0) (fun _ => by kernel_rfl) (endR ?_) : RT _ _ _ _ _ _ 1 _)
    refine blockR 0 (by kernel_rfl) (by kernel_rfl) ?_
    refine seqR (by kernel_rfl) ?_
    refine regionR 2 (by kernel_rfl) (by kernel_rfl) ?_
    refine (run0 (z := 0) 2 [8, 9, 13, 55, 57] [(8, .int .i64 0), (9, .int .i64 0), (13, .int .i64 ((m * 2 : Nat) : Int)), (55, .int .i64 0), (57, .bool true)] (fun _ => by kernel_rfl) (endR ?_) : RT _ _ _ _ _ _ 2 _)
    refine condR (b := true) (by kernel_rfl) (fun _ => by kernel_rfl) (fun _ => ?_) (fun h => by cases h)
    refine seqR (by kernel_rfl) ?_
    refine regionR 3 (by kernel_rfl) (by kernel_rfl) ?_
    refine (run0 (z := 0) 3 [8, 9] [(8, .int .i64 ((m * 2 : Nat) : Int)), (9, .int .i64 1)] (fun _ => by kernel_rfl) (endR ?_) : RT _ _ _ _ _ _ 3 _)
    refine retR (by kernel_rfl) ?_
    refine blockV ?_
    refine done0 (.tuple #[.int .i64 ((m * 2 : Nat) : Int), .int .i64 1]) (fun _ => by kernel_rfl) (fun w hs => ?_) .ret (.inr rfl)
    exact ⟨(), rfl, hs.tail⟩
set_option maxHeartbeats 1000000 in
set_option maxRecDepth 100000 in
theorem partial_walk (H : List SP) (s : SV (Int × Int)) (hk : KR H slE s) (hsr : SrtE s.l) (hl : s.l.length ≤ 64) (hl2 : 12 < s.l.length) : ∀ w, Sat w H → Calls Tryz.prog 115 #[.slice s.a s.l.length s.c, .int .i64 0, .int .i64 (s.l.length : Int), .func (.func 86) #[] #[]] w (Ret (ι := Unit) (fun _ => .bool true) fun _ => H) := by
  refine enterG (fn := Tryz.f115) 141 [.slice s.a s.l.length s.c, .int .i64 0, .int .i64 (s.l.length : Int), .func (.func 86) #[] #[]] Tryz.func115 (by kernel_rfl) (by kernel_rfl) (by kernel_rfl) ?_
  refine seqR (by kernel_rfl) ?_
  refine regionR 1 (by kernel_rfl) (by kernel_rfl) ?_
  refine (run0 (z := 0) 1 [0, 1, 2, 3, 8] [(0, .slice s.a s.l.length s.c), (1, .int .i64 0), (2, .int .i64 (s.l.length : Int)), (3, .func (.func 86) #[] #[]), (8, .bool false)] (fun _ => by kernel_rfl) (endR ?_) : RT _ _ _ _ _ _ 1 _)
  refine seqR (by kernel_rfl) ?_
  refine regionR 3 (by kernel_rfl) (by kernel_rfl) ?_
  refine (run0 (z := 0) 3 [0, 1, 2, 3, 8, 9] [(0, .slice s.a s.l.length s.c), (1, .int .i64 0), (2, .int .i64 (s.l.length : Int)), (3, .func (.func 86) #[] #[]), (8, .bool false), (9, .int .i64 (IntKind.i64.wrap (0 + 1)))] (fun _ => by kernel_rfl) (endR ?_) : RT _ _ _ _ _ _ 3 _)
  refine seqR (by kernel_rfl) ?_
  refine seqR (by kernel_rfl) ?_
  refine regionR 1 (by kernel_rfl) (by kernel_rfl) ?_
  refine (run0 (z := 0) 1 [0, 1, 2, 3, 8, 9, 10] [(0, .slice s.a s.l.length s.c), (1, .int .i64 0), (2, .int .i64 (s.l.length : Int)), (3, .func (.func 86) #[] #[]), (8, .bool false), (9, .int .i64 (IntKind.i64.wrap (0 + 1))), (10, .int .i64 0)] (fun _ => by kernel_rfl) (endR ?_) : RT _ _ _ _ _ _ 1 _)
  refine blockR 0 (by kernel_rfl) (by kernel_rfl) ?_
  rw [show IntKind.i64.wrap ((0 : Int) + 1) = 1 from rfl]
  refine PT.keep (L' := [(0, .slice s.a s.l.length s.c), (1, .int .i64 0), (2, .int .i64 (s.l.length : Int)), (3, .func (.func 86) #[] #[]), (8, .bool false), (9, .int .i64 1), (10, .int .i64 0)]) [0, 1, 2, 3, 8, 9, 10] rfl ?_
  refine loopG (fun (x : Unit) => [(0, .slice s.a s.l.length s.c), (1, .int .i64 0), (2, .int .i64 (s.l.length : Int)), (3, .func (.func 86) #[] #[]), (8, .bool false), (9, .int .i64 1), (10, .int .i64 0)]) (fun (x : Unit) => (H)) (fun k (x : Unit) => k = 0) 0 () (by kernel_rfl) rfl ?_
  rintro k x hk0
  refine seqR (by kernel_rfl) ?_
  refine seqR (by kernel_rfl) ?_
  refine regionR 2 (by kernel_rfl) (by kernel_rfl) ?_
  refine (run0 (z := 0) 2 [0, 1, 2, 3, 8, 9, 10, 16] [(0, .slice s.a s.l.length s.c), (1, .int .i64 0), (2, .int .i64 (s.l.length : Int)), (3, .func (.func 86) #[] #[]), (8, .bool false), (9, .int .i64 1), (10, .int .i64 0), (16, .bool true)] (fun _ => by kernel_rfl) (endR ?_) : RT _ _ _ _ _ _ 2 _)
  refine condR (b := true) (by kernel_rfl) (fun _ => by kernel_rfl) (fun _ => ?_) (fun h => by cases h)
  refine skipR (by kernel_rfl) ?_
  refine seqR (by kernel_rfl) ?_
  refine blockR 1 (by kernel_rfl) (by kernel_rfl) ?_
  refine seqR (by kernel_rfl) ?_
  refine blockR 2 (by kernel_rfl) (by kernel_rfl) ?_
  refine PT.keep (L' := [(0, .slice s.a s.l.length s.c), (1, .int .i64 0), (2, .int .i64 (s.l.length : Int)), (3, .func (.func 86) #[] #[]), (8, .bool false), (9, .int .i64 1), (10, .int .i64 0)]) [0, 1, 2, 3, 8, 9, 10] rfl ?_
  refine loopG (fun (u : Nat) => [(0, .slice s.a s.l.length s.c), (1, .int .i64 0), (2, .int .i64 (s.l.length : Int)), (3, .func (.func 86) #[] #[]), (8, .bool false), (9, .int .i64 (u : Int)), (10, .int .i64 0)]) (fun (u : Nat) => (H)) (fun k (u : Nat) => k + u = s.l.length ∧ 1 ≤ u) (s.l.length - 1) 1 (by kernel_rfl) ⟨by omega, by omega⟩ ?_
  rintro k2 u ⟨hku, hu1⟩
  refine seqR (by kernel_rfl) ?_
  refine seqR (by kernel_rfl) ?_
  refine drawR (fun w => Sat w (H)) [] 18 (by kernel_rfl) (by kernel_rfl) (by kernel_rfl) (fun _ h => by first | exact h | exact h.tail | exact h.tail.tail | exact h.tail.tail.tail | exact h.tail.tail.tail.tail) ?_
  refine takesR [0, 1, 2, 3] [0, 1, 2, 3, 8, 9, 10, 22] 14 [true, true, true, true, false, false, false, false, false, false, false, false, false, false, false, false, false, false] [(0, .slice s.a s.l.length s.c), (1, .int .i64 0), (2, .int .i64 (s.l.length : Int)), (3, .func (.func 86) #[] #[]), (8, .bool false), (9, .int .i64 (u : Int)), (10, .int .i64 0), (22, .bool (decide ((u : Int) < (s.l.length : Int))))] [] rfl (fun _ d _ _ _ h => by cases d <;> exact h) (fun _ h => by first | exact h | exact h.tail | exact h.tail.tail | exact h.tail.tail.tail | exact h.tail.tail.tail.tail) has0 (fun _ => by kernel_rfl) ?_
  cases h1 : (decide ((u : Int) < (s.l.length : Int))) with
  | true =>
    have hu : u < s.l.length := by have := of_decide_eq_true h1; omega
    obtain ⟨x, hx⟩ : ∃ x, s.l[u - 1]? = some x := ⟨s.l[u - 1]'(by omega), by simp⟩
    obtain ⟨y, hy⟩ : ∃ y, s.l[u]? = some y := ⟨s.l[u]'(by omega), by simp⟩
    refine PT.know ((hk).isSome (List.ne_nil_of_length_pos (by omega))) ?_
    rintro ⟨sb, so, hA⟩
    try rw [hA]
    refine takesR [4, 5, 6, 9, 10, 11] [0, 1, 2, 3, 8, 9, 10, 22, 23, 24, 25, 28, 30] 8 [true, true, true, true, true, true, true, false, false, true, true, true, false, false, false, false, false, false] [(0, .slice (some ⟨sb, so, none⟩) s.l.length s.c), (1, .int .i64 0), (2, .int .i64 (s.l.length : Int)), (3, .func (.func 86) #[] #[]), (8, .bool false), (9, .int .i64 (u : Int)), (10, .int .i64 0), (22, .bool true), (23, .func (.func 86) #[] #[]), (24, .slice (some ⟨sb, so, none⟩) s.l.length s.c), (25, .int .i64 (u : Int)), (28, .slice (some ⟨sb, so, none⟩) s.l.length s.c), (30, .int .i64 (IntKind.i64.wrap ((u : Int) - 1)))] [] rfl (fun _ d _ _ _ h => by cases d <;> exact h) (fun _ h => by first | exact h | exact h.tail | exact h.tail.tail | exact h.tail.tail.tail | exact h.tail.tail.tail.tail) has0 (fun _ => by kernel_rfl) ?_
    refine takeR1 7 7 [true, true, true, true, true, true, true, true, false, true, true, true, false, false, false, false, false, false] rfl rfl (by kernel_rfl) (fun _ d _ _ _ h => by cases d <;> exact h) (fun _ h => by first | exact h | exact h.tail | exact h.tail.tail | exact h.tail.tail.tail | exact h.tail.tail.tail.tail) (idxY 128 (.tmp 24) (.tmp 25) sb so s.l.length s.c u 2 104 (u : Int) .i64 (some 26) (fun _ => by kernel_rfl) (by kernel_rfl) (by kernel_rfl) (fun _ => by kernel_rfl) (fun _ => by kernel_rfl) Tryz.underlying128 (by kernel_rfl) (by first | rfl | assumption | simp) (by first | omega | (simp; done) | (simp; omega) | (simp at *; omega))) ?_
    refine takesR [8] [0, 1, 2, 3, 8, 9, 10, 22, 23, 28, 30, 27] 6 [true, true, true, true, true, true, true, true, true, true, true, true, false, false, false, false, false, false] [(0, .slice (some ⟨sb, so, none⟩) s.l.length s.c), (1, .int .i64 0), (2, .int .i64 (s.l.length : Int)), (3, .func (.func 86) #[] #[]), (8, .bool false), (9, .int .i64 (u : Int)), (10, .int .i64 0), (22, .bool true), (23, .func (.func 86) #[] #[]), (28, .slice (some ⟨sb, so, none⟩) s.l.length s.c), (30, .int .i64 (IntKind.i64.wrap ((u : Int) - 1))), (27, .agg #[.int .i64 y.1, .int .i64 y.2])] [(⟨sb, so + u * 2, none⟩, .int .i64 y.1), (⟨sb, so + u * 2 + 1, none⟩, .int .i64 y.2)] rfl (fun _ d _ _ _ h => by cases d <;> exact h) (fun _ h => by first | exact h | exact h.tail | exact h.tail.tail | exact h.tail.tail.tail | exact h.tail.tail.tail.tail) (hasC (hk.cell hA (i := u) (x := y) hy (j := 0) rfl) (hasC (hk.cell hA (i := u) (x := y) hy (j := 1) rfl) has0)) (fun _ => by kernel_rfl) ?_
    rw [show IntKind.i64.wrap ((u : Int) - 1) = ((u - 1 : Nat) : Int) by rw [IntKind.wrap_i64]; omega]
    refine takeR1 12 5 [true, true, true, true, true, true, true, true, true, true, true, true, true, false, false, false, false, false] rfl rfl (by kernel_rfl) (fun _ d _ _ _ h => by cases d <;> exact h) (fun _ h => by first | exact h | exact h.tail | exact h.tail.tail | exact h.tail.tail.tail | exact h.tail.tail.tail.tail) (idxY 128 (.tmp 28) (.tmp 30) sb so s.l.length s.c (u - 1) 2 104 ((u - 1 : Nat) : Int) .i64 (some 31) (fun _ => by kernel_rfl) (by kernel_rfl) (by kernel_rfl) (fun _ => by kernel_rfl) (fun _ => by kernel_rfl) Tryz.underlying128 (by kernel_rfl) (by first | rfl | assumption | simp) (by first | omega | (simp; done) | (simp; omega) | (simp at *; omega))) ?_
    refine takesR [13] [0, 1, 2, 3, 8, 9, 10, 22, 23, 27, 32] 4 [true, true, true, true, true, true, true, true, true, true, true, true, true, true, false, false, false, false] [(0, .slice (some ⟨sb, so, none⟩) s.l.length s.c), (1, .int .i64 0), (2, .int .i64 (s.l.length : Int)), (3, .func (.func 86) #[] #[]), (8, .bool false), (9, .int .i64 (u : Int)), (10, .int .i64 0), (22, .bool true), (23, .func (.func 86) #[] #[]), (27, .agg #[.int .i64 y.1, .int .i64 y.2]), (32, .agg #[.int .i64 x.1, .int .i64 x.2])] [(⟨sb, so + (u - 1) * 2, none⟩, .int .i64 x.1), (⟨sb, so + (u - 1) * 2 + 1, none⟩, .int .i64 x.2)] rfl (fun _ d _ _ _ h => by cases d <;> exact h) (fun _ h => by first | exact h | exact h.tail | exact h.tail.tail | exact h.tail.tail.tail | exact h.tail.tail.tail.tail) (hasC (hk.cell hA (i := u - 1) (x := x) hx (j := 0) rfl) (hasC (hk.cell hA (i := u - 1) (x := x) hx (j := 1) rfl) has0)) (fun _ => by kernel_rfl) ?_
    refine oneR 14 3 [true, true, true, true, true, true, true, true, true, true, true, true, true, true, true, false, false, false] rfl rfl (by kernel_rfl) (callS 86 [.agg #[.int .i64 y.1, .int .i64 y.2], .agg #[.int .i64 x.1, .int .i64 x.2]] (some 33) (fun _ => .int .i64 (byI (y.1, y.2) (x.1, x.2))) (fun (_ : Unit) => (H)) (fun _ => by kernel_rfl) (by_walk _ y.1 y.2 x.1 x.2)) (fun _ _ h hn => by first | exact h | exact h.tail | exact h.tail.tail | exact h.tail.tail.tail | exact h.tail.tail.tail.tail | exact absurd hn (by decide)) (fun _ => ?_)
    refine takesR [15, 16, 17] [0, 1, 2, 3, 8, 9, 10, 36] 0 [true, true, true, true, true, true, true, true, true, true, true, true, true, true, true, true, true, true] [(0, .slice (some ⟨sb, so, none⟩) s.l.length s.c), (1, .int .i64 0), (2, .int .i64 (s.l.length : Int)), (3, .func (.func 86) #[] #[]), (8, .bool false), (9, .int .i64 (u : Int)), (10, .int .i64 0), (36, .bool (!(decide ((byI (y.1, y.2) (x.1, x.2)) < 0))))] [] rfl (fun _ d _ _ _ h => by cases d <;> exact h) (fun _ h => by first | exact h | exact h.tail | exact h.tail.tail | exact h.tail.tail.tail | exact h.tail.tail.tail.tail) has0 (fun _ => by kernel_rfl) ?_
    refine drawnR (by kernel_rfl) ?_
    try rw [← hA]
    rw [hsr.not hx hy (by omega)]
    refine condR (b := true) (by kernel_rfl) (fun _ => by kernel_rfl) (fun _ => ?_) (fun h => by cases h)
    refine skipR (by kernel_rfl) ?_
    refine blockR 3 (by kernel_rfl) (by kernel_rfl) ?_
    refine regionR 3 (by kernel_rfl) (by kernel_rfl) ?_
    refine (run0 (z := 0) 3 [0, 1, 2, 3, 8, 9, 10] [(0, .slice s.a s.l.length s.c), (1, .int .i64 0), (2, .int .i64 (s.l.length : Int)), (3, .func (.func 86) #[] #[]), (8, .bool false), (9, .int .i64 (IntKind.i64.wrap ((u : Int) + 1))), (10, .int .i64 0)] (fun _ => by kernel_rfl) (endR ?_) : RT _ _ _ _ _ _ 3 _)
    rw [show IntKind.i64.wrap ((u : Int) + 1) = ((u + 1 : Nat) : Int) by rw [IntKind.wrap_i64]; omega]
    refine PT.keep (L' := [(0, .slice s.a s.l.length s.c), (1, .int .i64 0), (2, .int .i64 (s.l.length : Int)), (3, .func (.func 86) #[] #[]), (8, .bool false), (9, .int .i64 ((u + 1 : Nat) : Int)), (10, .int .i64 0)]) [0, 1, 2, 3, 8, 9, 10] rfl ?_
    exact againG (k2 - 1) (u + 1) rfl rfl (by omega) ⟨by omega, by omega⟩
  | false =>
    have hu : u = s.l.length := by have := of_decide_eq_false h1; omega
    refine takesR [4, 5, 6, 7, 8, 9, 10, 11, 12, 13, 14, 15, 16, 17] [0, 1, 2, 3, 8, 9, 10, 36] 0 [true, true, true, true, true, true, true, true, true, true, true, true, true, true, true, true, true, true] [(0, .slice s.a s.l.length s.c), (1, .int .i64 0), (2, .int .i64 (s.l.length : Int)), (3, .func (.func 86) #[] #[]), (8, .bool false), (9, .int .i64 (u : Int)), (10, .int .i64 0), (36, .bool false)] [] rfl (fun _ d _ _ _ h => by cases d <;> exact h) (fun _ h => by first | exact h | exact h.tail | exact h.tail.tail | exact h.tail.tail.tail | exact h.tail.tail.tail.tail) has0 (fun _ => by kernel_rfl) ?_
    refine drawnR (by kernel_rfl) ?_
    refine condR (b := false) (by kernel_rfl) (fun _ => by kernel_rfl) (fun h => by cases h) (fun _ => ?_)
    refine exitR 2 (by kernel_rfl) (by kernel_rfl) ?_
    refine thenX ?_
    refine thenX ?_
    refine leaveR ?_
    refine seqR (by kernel_rfl) ?_
    refine seqR (by kernel_rfl) ?_
    refine regionR 3 (by kernel_rfl) (by kernel_rfl) ?_
    refine (run0 (z := 0) 3 [0, 1, 2, 3, 8, 9, 10, 41] [(0, .slice s.a s.l.length s.c), (1, .int .i64 0), (2, .int .i64 (s.l.length : Int)), (3, .func (.func 86) #[] #[]), (8, .bool false), (9, .int .i64 (u : Int)), (10, .int .i64 0), (41, .bool ((u : Int) == (s.l.length : Int)))] (fun _ => by kernel_rfl) (endR ?_) : RT _ _ _ _ _ _ 3 _)
    rw [show ((u : Int) == (s.l.length : Int)) = true by rw [hu]; simp]
    refine condR (b := true) (by kernel_rfl) (fun _ => by kernel_rfl) (fun _ => ?_) (fun h => by cases h)
    refine seqR (by kernel_rfl) ?_
    refine regionR 1 (by kernel_rfl) (by kernel_rfl) ?_
    refine (run0 (z := 0) 1 [0, 1, 2, 3, 8, 9, 10] [(0, .slice s.a s.l.length s.c), (1, .int .i64 0), (2, .int .i64 (s.l.length : Int)), (3, .func (.func 86) #[] #[]), (8, .bool true), (9, .int .i64 (u : Int)), (10, .int .i64 0)] (fun _ => by kernel_rfl) (endR ?_) : RT _ _ _ _ _ _ 1 _)
    refine retR (by kernel_rfl) ?_
    refine thenV ?_
    refine blockV ?_
    refine thenV ?_
    refine thenV ?_
    refine blockV ?_
    refine thenV ?_
    refine done0 (.bool true) (fun _ => by kernel_rfl) (fun w hs => ?_) .ret (.inr rfl)
    exact ⟨(), rfl, hs⟩
set_option maxHeartbeats 1000000 in
set_option maxRecDepth 100000 in
theorem isort_walk (H : List SP) (s : SV (Int × Int)) (hk : KR H slE s) (hsr : SrtE s.l) (hl : s.l.length ≤ 64) : ∀ w, Sat w H → Calls Tryz.prog 110 #[.slice s.a s.l.length s.c, .int .i64 0, .int .i64 (s.l.length : Int), .func (.func 86) #[] #[]] w (Ret (ι := Unit) (fun _ => .tuple #[]) fun _ => H) := by
  refine enterG (fn := Tryz.f110) 53 [.slice s.a s.l.length s.c, .int .i64 0, .int .i64 (s.l.length : Int), .func (.func 86) #[] #[]] Tryz.func110 (by kernel_rfl) (by kernel_rfl) (by kernel_rfl) ?_
  refine seqR (by kernel_rfl) ?_
  refine regionR 3 (by kernel_rfl) (by kernel_rfl) ?_
  refine (run0 (z := 0) 3 [0, 1, 2, 3, 8] [(0, .slice s.a s.l.length s.c), (1, .int .i64 0), (2, .int .i64 (s.l.length : Int)), (3, .func (.func 86) #[] #[]), (8, .int .i64 (IntKind.i64.wrap (0 + 1)))] (fun _ => by kernel_rfl) (endR ?_) : RT _ _ _ _ _ _ 3 _)
  refine blockR 0 (by kernel_rfl) (by kernel_rfl) ?_
  rw [show IntKind.i64.wrap ((0 : Int) + 1) = 1 from rfl]
  refine PT.keep (L' := [(0, .slice s.a s.l.length s.c), (1, .int .i64 0), (2, .int .i64 (s.l.length : Int)), (3, .func (.func 86) #[] #[]), (8, .int .i64 1)]) [0, 1, 2, 3, 8] rfl ?_
  refine loopG (fun (u : Nat) => [(0, .slice s.a s.l.length s.c), (1, .int .i64 0), (2, .int .i64 (s.l.length : Int)), (3, .func (.func 86) #[] #[]), (8, .int .i64 (u : Int))]) (fun (u : Nat) => (H)) (fun k (u : Nat) => k = s.l.length - u ∧ 1 ≤ u) (s.l.length - 1) 1 (by kernel_rfl) ⟨rfl, by omega⟩ ?_
  rintro k u ⟨hku, hu1⟩
  refine seqR (by kernel_rfl) ?_
  refine seqR (by kernel_rfl) ?_
  refine regionR 3 (by kernel_rfl) (by kernel_rfl) ?_
  refine (run0 (z := 0) 3 [0, 1, 2, 3, 8, 14] [(0, .slice s.a s.l.length s.c), (1, .int .i64 0), (2, .int .i64 (s.l.length : Int)), (3, .func (.func 86) #[] #[]), (8, .int .i64 (u : Int)), (14, .bool (decide ((u : Int) < (s.l.length : Int))))] (fun _ => by kernel_rfl) (endR ?_) : RT _ _ _ _ _ _ 3 _)
  refine condR (b := decide ((u : Int) < (s.l.length : Int))) (by kernel_rfl) (fun _ => by kernel_rfl) (fun h1 => ?_) (fun h1 => ?_)
  · skip
    have hu : u < s.l.length := by have := of_decide_eq_true h1; omega
    obtain ⟨x, hx⟩ : ∃ x, s.l[u - 1]? = some x := ⟨s.l[u - 1]'(by omega), by simp⟩
    obtain ⟨y, hy⟩ : ∃ y, s.l[u]? = some y := ⟨s.l[u]'(by omega), by simp⟩
    refine skipR (by kernel_rfl) ?_
    refine seqR (by kernel_rfl) ?_
    refine blockR 1 (by kernel_rfl) (by kernel_rfl) ?_
    refine seqR (by kernel_rfl) ?_
    refine regionR 2 (by kernel_rfl) (by kernel_rfl) ?_
    refine (run0 (z := 0) 2 [0, 1, 2, 3, 8, 9] [(0, .slice s.a s.l.length s.c), (1, .int .i64 0), (2, .int .i64 (s.l.length : Int)), (3, .func (.func 86) #[] #[]), (8, .int .i64 (u : Int)), (9, .int .i64 (u : Int))] (fun _ => by kernel_rfl) (endR ?_) : RT _ _ _ _ _ _ 2 _)
    refine blockR 2 (by kernel_rfl) (by kernel_rfl) ?_
    refine PT.keep (L' := [(0, .slice s.a s.l.length s.c), (1, .int .i64 0), (2, .int .i64 (s.l.length : Int)), (3, .func (.func 86) #[] #[]), (8, .int .i64 (u : Int)), (9, .int .i64 (u : Int))]) [0, 1, 2, 3, 8, 9] rfl ?_
    refine loopG (fun (x : Unit) => [(0, .slice s.a s.l.length s.c), (1, .int .i64 0), (2, .int .i64 (s.l.length : Int)), (3, .func (.func 86) #[] #[]), (8, .int .i64 (u : Int)), (9, .int .i64 (u : Int))]) (fun (x : Unit) => (H)) (fun k (x : Unit) => k = 0) 0 () (by kernel_rfl) rfl ?_
    rintro k2 _ hk0
    refine seqR (by kernel_rfl) ?_
    refine seqR (by kernel_rfl) ?_
    refine drawR (fun w => Sat w (H)) [] 17 (by kernel_rfl) (by kernel_rfl) (by kernel_rfl) (fun _ h => by first | exact h | exact h.tail | exact h.tail.tail | exact h.tail.tail.tail | exact h.tail.tail.tail.tail) ?_
    refine takesR [0, 1, 2, 3] [0, 1, 2, 3, 8, 9, 21] 13 [true, true, true, true, false, false, false, false, false, false, false, false, false, false, false, false, false] [(0, .slice s.a s.l.length s.c), (1, .int .i64 0), (2, .int .i64 (s.l.length : Int)), (3, .func (.func 86) #[] #[]), (8, .int .i64 (u : Int)), (9, .int .i64 (u : Int)), (21, .bool (decide ((u : Int) > 0)))] [] rfl (fun _ d _ _ _ h => by cases d <;> exact h) (fun _ h => by first | exact h | exact h.tail | exact h.tail.tail | exact h.tail.tail.tail | exact h.tail.tail.tail.tail) has0 (fun _ => by kernel_rfl) ?_
    rw [show decide ((u : Int) > 0) = true by exact decide_eq_true (by omega)]
    refine PT.know ((hk).isSome (List.ne_nil_of_length_pos (by omega))) ?_
    rintro ⟨sb, so, hA⟩
    try rw [hA]
    refine takesR [4, 5, 6, 9, 10, 11] [0, 1, 2, 3, 8, 9, 21, 22, 23, 24, 27, 29] 7 [true, true, true, true, true, true, true, false, false, true, true, true, false, false, false, false, false] [(0, .slice (some ⟨sb, so, none⟩) s.l.length s.c), (1, .int .i64 0), (2, .int .i64 (s.l.length : Int)), (3, .func (.func 86) #[] #[]), (8, .int .i64 (u : Int)), (9, .int .i64 (u : Int)), (21, .bool true), (22, .func (.func 86) #[] #[]), (23, .slice (some ⟨sb, so, none⟩) s.l.length s.c), (24, .int .i64 (u : Int)), (27, .slice (some ⟨sb, so, none⟩) s.l.length s.c), (29, .int .i64 (IntKind.i64.wrap ((u : Int) - 1)))] [] rfl (fun _ d _ _ _ h => by cases d <;> exact h) (fun _ h => by first | exact h | exact h.tail | exact h.tail.tail | exact h.tail.tail.tail | exact h.tail.tail.tail.tail) has0 (fun _ => by kernel_rfl) ?_
    refine takeR1 7 6 [true, true, true, true, true, true, true, true, false, true, true, true, false, false, false, false, false] rfl rfl (by kernel_rfl) (fun _ d _ _ _ h => by cases d <;> exact h) (fun _ h => by first | exact h | exact h.tail | exact h.tail.tail | exact h.tail.tail.tail | exact h.tail.tail.tail.tail) (idxY 128 (.tmp 23) (.tmp 24) sb so s.l.length s.c u 2 104 (u : Int) .i64 (some 25) (fun _ => by kernel_rfl) (by kernel_rfl) (by kernel_rfl) (fun _ => by kernel_rfl) (fun _ => by kernel_rfl) Tryz.underlying128 (by kernel_rfl) (by first | rfl | assumption | simp) (by first | omega | (simp; done) | (simp; omega) | (simp at *; omega))) ?_
    refine takesR [8] [0, 1, 2, 3, 8, 9, 21, 22, 27, 29, 26] 5 [true, true, true, true, true, true, true, true, true, true, true, true, false, false, false, false, false] [(0, .slice (some ⟨sb, so, none⟩) s.l.length s.c), (1, .int .i64 0), (2, .int .i64 (s.l.length : Int)), (3, .func (.func 86) #[] #[]), (8, .int .i64 (u : Int)), (9, .int .i64 (u : Int)), (21, .bool true), (22, .func (.func 86) #[] #[]), (27, .slice (some ⟨sb, so, none⟩) s.l.length s.c), (29, .int .i64 (IntKind.i64.wrap ((u : Int) - 1))), (26, .agg #[.int .i64 y.1, .int .i64 y.2])] [(⟨sb, so + u * 2, none⟩, .int .i64 y.1), (⟨sb, so + u * 2 + 1, none⟩, .int .i64 y.2)] rfl (fun _ d _ _ _ h => by cases d <;> exact h) (fun _ h => by first | exact h | exact h.tail | exact h.tail.tail | exact h.tail.tail.tail | exact h.tail.tail.tail.tail) (hasC (hk.cell hA (i := u) (x := y) hy (j := 0) rfl) (hasC (hk.cell hA (i := u) (x := y) hy (j := 1) rfl) has0)) (fun _ => by kernel_rfl) ?_
    rw [show IntKind.i64.wrap ((u : Int) - 1) = ((u - 1 : Nat) : Int) by rw [IntKind.wrap_i64]; omega]
    refine takeR1 12 4 [true, true, true, true, true, true, true, true, true, true, true, true, true, false, false, false, false] rfl rfl (by kernel_rfl) (fun _ d _ _ _ h => by cases d <;> exact h) (fun _ h => by first | exact h | exact h.tail | exact h.tail.tail | exact h.tail.tail.tail | exact h.tail.tail.tail.tail) (idxY 128 (.tmp 27) (.tmp 29) sb so s.l.length s.c (u - 1) 2 104 ((u - 1 : Nat) : Int) .i64 (some 30) (fun _ => by kernel_rfl) (by kernel_rfl) (by kernel_rfl) (fun _ => by kernel_rfl) (fun _ => by kernel_rfl) Tryz.underlying128 (by kernel_rfl) (by first | rfl | assumption | simp) (by first | omega | (simp; done) | (simp; omega) | (simp at *; omega))) ?_
    refine takesR [13] [0, 1, 2, 3, 8, 9, 21, 22, 26, 31] 3 [true, true, true, true, true, true, true, true, true, true, true, true, true, true, false, false, false] [(0, .slice (some ⟨sb, so, none⟩) s.l.length s.c), (1, .int .i64 0), (2, .int .i64 (s.l.length : Int)), (3, .func (.func 86) #[] #[]), (8, .int .i64 (u : Int)), (9, .int .i64 (u : Int)), (21, .bool true), (22, .func (.func 86) #[] #[]), (26, .agg #[.int .i64 y.1, .int .i64 y.2]), (31, .agg #[.int .i64 x.1, .int .i64 x.2])] [(⟨sb, so + (u - 1) * 2, none⟩, .int .i64 x.1), (⟨sb, so + (u - 1) * 2 + 1, none⟩, .int .i64 x.2)] rfl (fun _ d _ _ _ h => by cases d <;> exact h) (fun _ h => by first | exact h | exact h.tail | exact h.tail.tail | exact h.tail.tail.tail | exact h.tail.tail.tail.tail) (hasC (hk.cell hA (i := u - 1) (x := x) hx (j := 0) rfl) (hasC (hk.cell hA (i := u - 1) (x := x) hx (j := 1) rfl) has0)) (fun _ => by kernel_rfl) ?_
    refine oneR 14 2 [true, true, true, true, true, true, true, true, true, true, true, true, true, true, true, false, false] rfl rfl (by kernel_rfl) (callS 86 [.agg #[.int .i64 y.1, .int .i64 y.2], .agg #[.int .i64 x.1, .int .i64 x.2]] (some 32) (fun _ => .int .i64 (byI (y.1, y.2) (x.1, x.2))) (fun (_ : Unit) => (H)) (fun _ => by kernel_rfl) (by_walk _ y.1 y.2 x.1 x.2)) (fun _ _ h hn => by first | exact h | exact h.tail | exact h.tail.tail | exact h.tail.tail.tail | exact h.tail.tail.tail.tail | exact absurd hn (by decide)) (fun _ => ?_)
    refine takesR [15, 16] [0, 1, 2, 3, 8, 9, 34] 0 [true, true, true, true, true, true, true, true, true, true, true, true, true, true, true, true, true] [(0, .slice (some ⟨sb, so, none⟩) s.l.length s.c), (1, .int .i64 0), (2, .int .i64 (s.l.length : Int)), (3, .func (.func 86) #[] #[]), (8, .int .i64 (u : Int)), (9, .int .i64 (u : Int)), (34, .bool (decide ((byI (y.1, y.2) (x.1, x.2)) < 0)))] [] rfl (fun _ d _ _ _ h => by cases d <;> exact h) (fun _ h => by first | exact h | exact h.tail | exact h.tail.tail | exact h.tail.tail.tail | exact h.tail.tail.tail.tail) has0 (fun _ => by kernel_rfl) ?_
    refine drawnR (by kernel_rfl) ?_
    try rw [← hA]
    rw [show decide ((byI (y.1, y.2) (x.1, x.2)) < 0) = false by exact hsr.not hx hy (by omega)]
    refine condR (b := false) (by kernel_rfl) (fun _ => by kernel_rfl) (fun h => by cases h) (fun _ => ?_)
    refine exitR 2 (by kernel_rfl) (by kernel_rfl) ?_
    refine thenX ?_
    refine thenX ?_
    refine leaveR ?_
    refine regionR 3 (by kernel_rfl) (by kernel_rfl) ?_
    refine (run0 (z := 0) 3 [0, 1, 2, 3, 8] [(0, .slice s.a s.l.length s.c), (1, .int .i64 0), (2, .int .i64 (s.l.length : Int)), (3, .func (.func 86) #[] #[]), (8, .int .i64 (IntKind.i64.wrap ((u : Int) + 1)))] (fun _ => by kernel_rfl) (endR ?_) : RT _ _ _ _ _ _ 3 _)
    rw [show IntKind.i64.wrap ((u : Int) + 1) = ((u + 1 : Nat) : Int) by rw [IntKind.wrap_i64]; omega]
    refine PT.keep (L' := [(0, .slice s.a s.l.length s.c), (1, .int .i64 0), (2, .int .i64 (s.l.length : Int)), (3, .func (.func 86) #[] #[]), (8, .int .i64 ((u + 1 : Nat) : Int))]) [0, 1, 2, 3, 8] rfl ?_
    exact againG (k - 1) (u + 1) rfl rfl (by omega) ⟨by omega, by omega⟩
  · skip
    refine exitR 0 (by kernel_rfl) (by kernel_rfl) ?_
    refine thenX ?_
    refine thenX ?_
    refine leaveR ?_
    refine done0 (.tuple #[]) (fun _ => by kernel_rfl) (fun w hs => ?_) .normal (.inl rfl)
    exact ⟨(), rfl, hs⟩
set_option maxHeartbeats 1000000 in
set_option maxRecDepth 100000 in
theorem pdq_walk (H : List SP) (s : SV (Int × Int)) (lim : Int) (hlim : 12 < s.l.length → lim ≠ 0) (hk : KR H slE s) (hsr : SrtE s.l) (hl : s.l.length ≤ 64) : ∀ w, Sat w H → Calls Tryz.prog 93 #[.slice s.a s.l.length s.c, .int .i64 0, .int .i64 (s.l.length : Int), .int .i64 lim, .func (.func 86) #[] #[]] w (Ret (ι := Unit) (fun _ => .tuple #[]) fun _ => H) := by
  refine enterG (fn := Tryz.f93) 148 [.slice s.a s.l.length s.c, .int .i64 0, .int .i64 (s.l.length : Int), .int .i64 lim, .func (.func 86) #[] #[]] Tryz.func93 (by kernel_rfl) (by kernel_rfl) (by kernel_rfl) ?_
  refine seqR (by kernel_rfl) ?_
  refine regionR 1 (by kernel_rfl) (by kernel_rfl) ?_
  refine (run0 (z := 0) 1 [0, 1, 2, 3, 4, 10] [(0, .slice s.a s.l.length s.c), (1, .int .i64 0), (2, .int .i64 (s.l.length : Int)), (3, .int .i64 lim), (4, .func (.func 86) #[] #[]), (10, .bool true)] (fun _ => by kernel_rfl) (endR ?_) : RT _ _ _ _ _ _ 1 _)
  refine seqR (by kernel_rfl) ?_
  refine regionR 1 (by kernel_rfl) (by kernel_rfl) ?_
  refine (run0 (z := 0) 1 [0, 1, 2, 3, 4, 10, 11] [(0, .slice s.a s.l.length s.c), (1, .int .i64 0), (2, .int .i64 (s.l.length : Int)), (3, .int .i64 lim), (4, .func (.func 86) #[] #[]), (10, .bool true), (11, .bool true)] (fun _ => by kernel_rfl) (endR ?_) : RT _ _ _ _ _ _ 1 _)
  refine blockR 0 (by kernel_rfl) (by kernel_rfl) ?_
  refine PT.keep (L' := [(0, .slice s.a s.l.length s.c), (1, .int .i64 0), (2, .int .i64 (s.l.length : Int)), (3, .int .i64 lim), (4, .func (.func 86) #[] #[]), (10, .bool true), (11, .bool true)]) [0, 1, 2, 3, 4, 10, 11] rfl ?_
  refine loopG (fun (x : Unit) => [(0, .slice s.a s.l.length s.c), (1, .int .i64 0), (2, .int .i64 (s.l.length : Int)), (3, .int .i64 lim), (4, .func (.func 86) #[] #[]), (10, .bool true), (11, .bool true)]) (fun (x : Unit) => (H)) (fun k (x : Unit) => k = 0) 0 () (by kernel_rfl) rfl ?_
  rintro k _ hk0
  refine blockR 1 (by kernel_rfl) (by kernel_rfl) ?_
  refine seqR (by kernel_rfl) ?_
  refine regionR 4 (by kernel_rfl) (by kernel_rfl) ?_
  refine (run0 (z := 0) 4 [0, 1, 2, 3, 4, 10, 11, 12] [(0, .slice s.a s.l.length s.c), (1, .int .i64 0), (2, .int .i64 (s.l.length : Int)), (3, .int .i64 lim), (4, .func (.func 86) #[] #[]), (10, .bool true), (11, .bool true), (12, .int .i64 (IntKind.i64.wrap ((s.l.length : Int) - 0)))] (fun _ => by kernel_rfl) (endR ?_) : RT _ _ _ _ _ _ 4 _)
  refine seqR (by kernel_rfl) ?_
  refine seqR (by kernel_rfl) ?_
  refine regionR 2 (by kernel_rfl) (by kernel_rfl) ?_
  refine (run0 (z := 0) 2 [0, 1, 2, 3, 4, 10, 11, 12, 25] [(0, .slice s.a s.l.length s.c), (1, .int .i64 0), (2, .int .i64 (s.l.length : Int)), (3, .int .i64 lim), (4, .func (.func 86) #[] #[]), (10, .bool true), (11, .bool true), (12, .int .i64 (IntKind.i64.wrap ((s.l.length : Int) - 0))), (25, .bool (decide ((IntKind.i64.wrap ((s.l.length : Int) - 0)) ≤ 12)))] (fun _ => by kernel_rfl) (endR ?_) : RT _ _ _ _ _ _ 2 _)
  rw [show IntKind.i64.wrap ((s.l.length : Int) - 0) = (s.l.length : Int) by rw [IntKind.wrap_i64]; omega]
  refine condR (b := decide ((s.l.length : Int) ≤ 12)) (by kernel_rfl) (fun _ => by kernel_rfl) (fun h1 => ?_) (fun h1 => ?_)
  · skip
    refine seqR (by kernel_rfl) ?_
    refine regionR 5 (by kernel_rfl) (by kernel_rfl) ?_
    refine (run0 (z := 1) 4 [0, 1, 2, 3, 4, 10, 11, 12, 26, 27, 28, 29] [(0, .slice s.a s.l.length s.c), (1, .int .i64 0), (2, .int .i64 (s.l.length : Int)), (3, .int .i64 lim), (4, .func (.func 86) #[] #[]), (10, .bool true), (11, .bool true), (12, .int .i64 (s.l.length : Int)), (26, .slice s.a s.l.length s.c), (27, .int .i64 0), (28, .int .i64 (s.l.length : Int)), (29, .func (.func 86) #[] #[])] (fun _ => by kernel_rfl) ?_ : RT _ _ _ _ _ _ 5 _)
    refine (stepR (z := 0) (callS 110 [.slice s.a s.l.length s.c, .int .i64 0, .int .i64 (s.l.length : Int), .func (.func 86) #[] #[]] (some 30) (fun _ => .tuple #[]) (fun _ => (H)) (fun _ => by kernel_rfl) (isort_walk _ s hk hsr hl)) (fun _ => ?_) : RT _ _ _ _ _ _ 1 _)
    refine endR ?_
    refine retR (by kernel_rfl) ?_
    refine thenV ?_
    refine blockV ?_
    refine thenV ?_
    refine blockV ?_
    refine done0 (.tuple #[]) (fun _ => by kernel_rfl) (fun w hs => ?_) .ret (.inr rfl)
    exact ⟨(), rfl, hs⟩
  · skip
    have hl2 : 12 < s.l.length := by have := of_decide_eq_false h1; omega
    refine skipR (by kernel_rfl) ?_
    refine seqR (by kernel_rfl) ?_
    refine seqR (by kernel_rfl) ?_
    refine regionR 2 (by kernel_rfl) (by kernel_rfl) ?_
    refine (run0 (z := 0) 2 [0, 1, 2, 3, 4, 10, 11, 12, 32] [(0, .slice s.a s.l.length s.c), (1, .int .i64 0), (2, .int .i64 (s.l.length : Int)), (3, .int .i64 lim), (4, .func (.func 86) #[] #[]), (10, .bool true), (11, .bool true), (12, .int .i64 (s.l.length : Int)), (32, .bool (lim == 0))] (fun _ => by kernel_rfl) (endR ?_) : RT _ _ _ _ _ _ 2 _)
    rw [show (lim == 0) = false from beq_eq_false_iff_ne.2 (hlim hl2)]
    refine condR (b := false) (by kernel_rfl) (fun _ => by kernel_rfl) (fun h => by cases h) (fun _ => ?_)
    refine skipR (by kernel_rfl) ?_
    refine seqR (by kernel_rfl) ?_
    refine seqR (by kernel_rfl) ?_
    refine regionR 2 (by kernel_rfl) (by kernel_rfl) ?_
    refine (run0 (z := 0) 2 [0, 1, 2, 3, 4, 10, 11, 12, 39] [(0, .slice s.a s.l.length s.c), (1, .int .i64 0), (2, .int .i64 (s.l.length : Int)), (3, .int .i64 lim), (4, .func (.func 86) #[] #[]), (10, .bool true), (11, .bool true), (12, .int .i64 (s.l.length : Int)), (39, .bool false)] (fun _ => by kernel_rfl) (endR ?_) : RT _ _ _ _ _ _ 2 _)
    refine condR (b := false) (by kernel_rfl) (fun _ => by kernel_rfl) (fun h => by cases h) (fun _ => ?_)
    refine skipR (by kernel_rfl) ?_
    refine seqR (by kernel_rfl) ?_
    refine regionR 10 (by kernel_rfl) (by kernel_rfl) ?_
    refine (run0 (z := 6) 4 [0, 1, 2, 3, 4, 10, 11, 12, 48, 49, 50, 51] [(0, .slice s.a s.l.length s.c), (1, .int .i64 0), (2, .int .i64 (s.l.length : Int)), (3, .int .i64 lim), (4, .func (.func 86) #[] #[]), (10, .bool true), (11, .bool true), (12, .int .i64 (s.l.length : Int)), (48, .slice s.a s.l.length s.c), (49, .int .i64 0), (50, .int .i64 (s.l.length : Int)), (51, .func (.func 86) #[] #[])] (fun _ => by kernel_rfl) ?_ : RT _ _ _ _ _ _ 10 _)
    refine (stepR (z := 5) (callS 113 [.slice s.a s.l.length s.c, .int .i64 0, .int .i64 (s.l.length : Int), .func (.func 86) #[] #[]] (some 52) (fun _ => .tuple #[.int .i64 ((s.l.length / 4 * 2 : Nat) : Int), .int .i64 1]) (fun _ => (H)) (fun _ => by kernel_rfl) (pivot_walk _ s hk hsr hl hl2)) (fun _ => ?_) : RT _ _ _ _ _ _ 6 _)
    refine (run0 (z := 0) 5 [0, 1, 2, 3, 4, 10, 11, 12, 13, 14] [(0, .slice s.a s.l.length s.c), (1, .int .i64 0), (2, .int .i64 (s.l.length : Int)), (3, .int .i64 lim), (4, .func (.func 86) #[] #[]), (10, .bool true), (11, .bool true), (12, .int .i64 (s.l.length : Int)), (13, .int .i64 ((s.l.length / 4 * 2 : Nat) : Int)), (14, .int .i64 1)] (fun _ => by kernel_rfl) (endR ?_) : RT _ _ _ _ _ _ 5 _)
    refine seqR (by kernel_rfl) ?_
    refine seqR (by kernel_rfl) ?_
    refine regionR 2 (by kernel_rfl) (by kernel_rfl) ?_
    refine (run0 (z := 0) 2 [0, 1, 2, 3, 4, 10, 11, 12, 13, 14, 56] [(0, .slice s.a s.l.length s.c), (1, .int .i64 0), (2, .int .i64 (s.l.length : Int)), (3, .int .i64 lim), (4, .func (.func 86) #[] #[]), (10, .bool true), (11, .bool true), (12, .int .i64 (s.l.length : Int)), (13, .int .i64 ((s.l.length / 4 * 2 : Nat) : Int)), (14, .int .i64 1), (56, .bool false)] (fun _ => by kernel_rfl) (endR ?_) : RT _ _ _ _ _ _ 2 _)
    refine condR (b := false) (by kernel_rfl) (fun _ => by kernel_rfl) (fun h => by cases h) (fun _ => ?_)
    refine skipR (by kernel_rfl) ?_
    refine seqR (by kernel_rfl) ?_
    refine seqR (by kernel_rfl) ?_
    refine regionR 8 (by kernel_rfl) (by kernel_rfl) ?_
    refine (run0 (z := 0) 8 [0, 1, 2, 3, 4, 10, 11, 12, 13, 75] [(0, .slice s.a s.l.length s.c), (1, .int .i64 0), (2, .int .i64 (s.l.length : Int)), (3, .int .i64 lim), (4, .func (.func 86) #[] #[]), (10, .bool true), (11, .bool true), (12, .int .i64 (s.l.length : Int)), (13, .int .i64 ((s.l.length / 4 * 2 : Nat) : Int)), (75, .bool true)] (fun _ => by kernel_rfl) (endR ?_) : RT _ _ _ _ _ _ 8 _)
    refine condR (b := true) (by kernel_rfl) (fun _ => by kernel_rfl) (fun _ => ?_) (fun h => by cases h)
    refine seqR (by kernel_rfl) ?_
    refine regionR 5 (by kernel_rfl) (by kernel_rfl) ?_
    refine (run0 (z := 1) 4 [0, 1, 2, 3, 4, 10, 11, 12, 13, 76, 77, 78, 79] [(0, .slice s.a s.l.length s.c), (1, .int .i64 0), (2, .int .i64 (s.l.length : Int)), (3, .int .i64 lim), (4, .func (.func 86) #[] #[]), (10, .bool true), (11, .bool true), (12, .int .i64 (s.l.length : Int)), (13, .int .i64 ((s.l.length / 4 * 2 : Nat) : Int)), (76, .slice s.a s.l.length s.c), (77, .int .i64 0), (78, .int .i64 (s.l.length : Int)), (79, .func (.func 86) #[] #[])] (fun _ => by kernel_rfl) ?_ : RT _ _ _ _ _ _ 5 _)
    refine (stepR (z := 0) (callS 115 [.slice s.a s.l.length s.c, .int .i64 0, .int .i64 (s.l.length : Int), .func (.func 86) #[] #[]] (some 80) (fun _ => .bool true) (fun _ => (H)) (fun _ => by kernel_rfl) (partial_walk _ s hk hsr hl hl2)) (fun _ => ?_) : RT _ _ _ _ _ _ 1 _)
    refine endR ?_
    refine condR (b := true) (by kernel_rfl) (fun _ => by kernel_rfl) (fun _ => ?_) (fun h => by cases h)
    refine retR (by kernel_rfl) ?_
    refine thenV ?_
    refine blockV ?_
    refine thenV ?_
    refine blockV ?_
    refine done0 (.tuple #[]) (fun _ => by kernel_rfl) (fun w hs => ?_) .ret (.inr rfl)
    exact ⟨(), rfl, hs⟩
set_option maxRecDepth 100000 in
theorem sort_walk (H : List SP) (s : SV (Int × Int)) (hk : KR H slE s) (hsr : SrtE s.l) (hl : s.l.length ≤ 64) : ∀ w, Sat w H → Calls Tryz.prog 85 #[.slice s.a s.l.length s.c, .func (.func 86) #[] #[]] w (Ret (ι := Unit) (fun _ => .tuple #[]) fun _ => H) := by
  refine enterG (fn := Tryz.f85) 14 [.slice s.a s.l.length s.c, .func (.func 86) #[] #[]] Tryz.func85 (by kernel_rfl) (by kernel_rfl) (by kernel_rfl) ?_
  refine seqR (by kernel_rfl) ?_
  refine regionR 3 (by kernel_rfl) (by kernel_rfl) ?_
  refine (run0 (z := 0) 3 [0, 1, 4] [(0, .slice s.a s.l.length s.c), (1, .func (.func 86) #[] #[]), (4, .int .i64 (s.l.length : Int))] (fun _ => by kernel_rfl) (endR ?_) : RT _ _ _ _ _ _ 3 _)
  refine regionR 7 (by kernel_rfl) (by kernel_rfl) ?_
  refine (run0 (z := 3) 4 [1, 7, 8, 10] [(1, .func (.func 86) #[] #[]), (7, .slice s.a s.l.length s.c), (8, .int .i64 (s.l.length : Int)), (10, .int .u64 (IntKind.u64.wrap (s.l.length : Int)))] (fun _ => by kernel_rfl) ?_ : RT _ _ _ _ _ _ 7 _)
  rw [show IntKind.u64.wrap (s.l.length : Int) = (s.l.length : Int) by rw [IntKind.wrap_u64]; omega]
  refine (stepR (z := 2) (callS 90 [.int .u64 (s.l.length : Int)] (some 11) (fun _ => .int .i64 (len8 (s.l.length : Int))) (fun _ => (H)) (fun _ => by kernel_rfl) (bitsLen_walk _ (s.l.length : Int) (by omega) (by omega))) (fun _ => ?_) : RT _ _ _ _ _ _ 3 _)
  refine (run0 (z := 1) 1 [11, 7, 8, 12] [(11, .int .i64 (len8 (s.l.length : Int))), (7, .slice s.a s.l.length s.c), (8, .int .i64 (s.l.length : Int)), (12, .func (.func 86) #[] #[])] (fun _ => by kernel_rfl) ?_ : RT _ _ _ _ _ _ 2 _)
  refine (stepR (z := 0) (callS 93 [.slice s.a s.l.length s.c, .int .i64 0, .int .i64 (s.l.length : Int), .int .i64 (len8 (s.l.length : Int)), .func (.func 86) #[] #[]] (some 13) (fun _ => .tuple #[]) (fun _ => (H)) (fun _ => by kernel_rfl) (pdq_walk _ s (len8 (s.l.length : Int)) (fun h => by have := (len8_big ⟨s.l.length, by omega⟩).2.2 h; exact this) hk hsr hl)) (fun _ => ?_) : RT _ _ _ _ _ _ 1 _)
  refine endR ?_
  refine done0 (.tuple #[]) (fun _ => by kernel_rfl) (fun w hs => ?_) .normal (.inl rfl)
  exact ⟨(), rfl, hs⟩
end Go.Proofs.YtlhjibkkkhgonaaGreat
set_option linter.unusedVariables false
set_option linter.unusedSimpArgs false
namespace Go.Proofs.YtlhjibkkkhgonaaGreat
open Go.RowKit G
theorem Sat.blkRow0 {α : Type} {E : Enc α} {T : TypeId} {H : List SP} {w : World} {b : Nat} (h : Sat w (blk b T [] :: H)) : Sat w (row E T (.slice (some ⟨b, 0, none⟩) 0 0) ([] : List α) :: H) :=
  Sat.change h fun G hG => by
    refine ⟨Upd.refl _ w, OneB b, .inr ⟨b, 0, 0, _, rfl, rfl, hG.1, by simp, by simp [maxLen], by simp, ?_⟩, fun x hx => .inl ((hG.2 x).2 hx)⟩
    simp; rfl
theorem PT.blkRow0 {α : Type} {E : Enc α} {T : TypeId} {H : List SP} {n : Nat} {L : List (Nat × Value)} {b : Nat} {Φ : Act → World → Prop} (h : PT n L (row E T (.slice (some ⟨b, 0, none⟩) 0 0) ([] : List α) :: H) Φ) : PT n L (blk b T [] :: H) Φ := PT.sat (fun w hs => Sat.blkRow0 hs) h
theorem rowA {α : Type} {E : Enc α} {T : TypeId} {H : List SP} (i : Nat) {A : Option Addr} {k : Nat} {xs : List α} (hi : H[i]? = some (row E T (.slice A xs.length k) xs)) : ∀ w, Sat w H → (A = none ∧ xs = [] ∧ k = 0) ∨ ∃ b o, A = some ⟨b, o, none⟩ := by
  intro w hs
  obtain ⟨G, hG⟩ := (hs.pick i hi).head
  rcases hG with ⟨h1, h2, _⟩ | ⟨b, o, c, cur, h1, _⟩
  · injection h1 with e1 e2 e3; exact .inl ⟨e1, h2, e3⟩
  · injection h1 with e1 e2 e3; exact .inr ⟨b, o, e1⟩
theorem rowKRm {α : Type} {E : Enc α} {T : TypeId} {H : List SP} (i : Nat) {A : Option Addr} {m k : Nat} {xs : List α} (hi : H[i]? = some (row E T (.slice A m k) xs)) (hm : m = xs.length) : KR H E ⟨A, k, xs⟩ := by subst hm; exact rowKRat i hi
theorem ent_ety : Ety Tryz.prog slE 104 (.agg #[.int .i64 0, .int .i64 0]) := etySl
def shN (n : Int) : Int := mnI (mxI n 0) 1099511627776
def shiftE (l : List (Int × Int)) (n : Int) : List (Int × Int) := l.map fun e => (mxI 0 (IntKind.i64.wrap (e.1 - shN n)), e.2)
set_option maxHeartbeats 1000000 in
set_option maxRecDepth 100000 in
theorem shift_walk (H : List SP) (b : Nat) (A : Option Addr) (cap : Nat) (room : Int) (l : List (Int × Int)) (n : Int) (hl : l.length ≤ 64) (hsr : SrtE (shiftE l n)) : ∀ w, Sat w (blk b 130 [.slice A l.length cap, .int .i64 room] :: row slE 104 (.slice A l.length cap) l :: H) → Calls Tryz.prog 72 #[.pointer (some ⟨b, 0, none⟩), .int .i64 n] w (Ret (ι := Unit) (fun _ => .tuple #[]) fun _ => blk b 130 [.slice A (shiftE l n).length cap, .int .i64 room] :: row slE 104 (.slice A (shiftE l n).length cap) (shiftE l n) :: H) := by
  refine enterG (fn := Tryz.f72) 40 [.pointer (some ⟨b, 0, none⟩), .int .i64 n] Tryz.func72 (by kernel_rfl) (by kernel_rfl) (by kernel_rfl) ?_
  refine seqR (by kernel_rfl) ?_
  refine regionR 4 (by kernel_rfl) (by kernel_rfl) ?_
  refine (run0 (z := 0) 4 [0, 1] [(0, .pointer (some ⟨b, 0, none⟩)), (1, .int .i64 (mnI (mxI n 0) 1099511627776))] (fun _ => by kernel_rfl) (endR ?_) : RT _ _ _ _ _ _ 4 _)
  refine seqR (by kernel_rfl) ?_
  refine seqR (by kernel_rfl) ?_
  refine regionR 6 (by kernel_rfl) (by kernel_rfl) ?_
  refine (runR (H := (blk b 130 [.slice A l.length cap, .int .i64 room] :: row slE 104 (.slice A l.length cap) l :: H)) (z := 0) 6 [0, 1, 12, 13] [(0, .pointer (some ⟨b, 0, none⟩)), (1, .int .i64 (mnI (mxI n 0) 1099511627776)), (12, .int .i64 (l.length : Int)), (13, .int .i64 0)] [(⟨b, 0, none⟩, .slice A l.length cap)] (hasC (blkAt (T := 130) (cs := [.slice A l.length cap, .int .i64 room]) 0 rfl rfl) has0) (fun _ => by kernel_rfl) (endR ?_) : RT _ _ _ _ _ _ 6 _)
  refine blockR 0 (by kernel_rfl) (by kernel_rfl) ?_
  refine PT.keep (L' := [(0, .pointer (some ⟨b, 0, none⟩)), (1, .int .i64 (mnI (mxI n 0) 1099511627776)), (12, .int .i64 (l.length : Int)), (13, .int .i64 0)]) [0, 1, 12, 13] rfl ?_
  refine loopG (fun (x : List (Int × Int) × Nat) => [(0, .pointer (some ⟨b, 0, none⟩)), (1, .int .i64 (shN n)), (12, .int .i64 (l.length : Int)), (13, .int .i64 (x.2 : Int))]) (fun (x : List (Int × Int) × Nat) => (blk b 130 [.slice A l.length cap, .int .i64 room] :: row slE 104 (.slice A l.length cap) x.1 :: H)) (fun k (x : List (Int × Int) × Nat) => k + x.2 = l.length ∧ x.1 = (shiftE l n).take x.2 ++ l.drop x.2) l.length (l, 0) (by kernel_rfl) ⟨by simp, by simp⟩ ?_
  rintro k ⟨xs, u⟩ ⟨hku, hxs⟩
  dsimp only at hku hxs ⊢
  have hsl : (shiftE l n).length = l.length := by simp [shiftE]
  have hxl : xs.length = l.length := by rw [hxs, List.length_append, List.length_take, List.length_drop]; omega
  refine seqR (by kernel_rfl) ?_
  refine regionR 1 (by kernel_rfl) (by kernel_rfl) ?_
  refine (run0 (z := 0) 1 [0, 1, 12, 13, 14] [(0, .pointer (some ⟨b, 0, none⟩)), (1, .int .i64 (shN n)), (12, .int .i64 (l.length : Int)), (13, .int .i64 (u : Int)), (14, .bool (decide ((u : Int) < (l.length : Int))))] (fun _ => by kernel_rfl) (endR ?_) : RT _ _ _ _ _ _ 1 _)
  refine seqR (by kernel_rfl) ?_
  refine condR (b := decide ((u : Int) < (l.length : Int))) (by kernel_rfl) (fun _ => by kernel_rfl) (fun h1 => ?_) (fun h1 => ?_)
  · skip
    have hu : u < l.length := by have := of_decide_eq_true h1; omega
    obtain ⟨e, he⟩ : ∃ e, l[u]? = some e := ⟨_, by simp [hu]; rfl⟩
    have hxe : xs[u]? = some e := by rw [hxs, List.getElem?_append_right (by rw [List.length_take]; omega), List.length_take, List.getElem?_drop, hsl, show u + (u - min u l.length) = u by omega]; exact he
    have hse : (shiftE l n)[u]? = some (mxI 0 (IntKind.i64.wrap (e.1 - shN n)), e.2) := by rw [shiftE, List.getElem?_map, he]; rfl
    have hset : xs.set u (mxI 0 (IntKind.i64.wrap (e.1 - shN n)), e.2) = (shiftE l n).take (u + 1) ++ l.drop (u + 1) := by
      rw [hxs, List.set_append_right _ _ (by rw [List.length_take]; omega), List.length_take, hsl, show u - min u l.length = 0 by omega, List.take_add_one, hse, List.drop_eq_getElem_cons hu, List.set_cons_zero, List.append_assoc]
      rfl
    refine PT.know (KR.isSome (s := ⟨A, cap, xs⟩) (rowKRm 1 rfl hxl.symm) (List.ne_nil_of_length_pos (by show 0 < xs.length; omega))) ?_
    rintro ⟨sb, so, hA⟩
    dsimp only at hA
    subst hA
    refine skipR (by kernel_rfl) ?_
    refine seqR (by kernel_rfl) ?_
    refine blockR 1 (by kernel_rfl) (by kernel_rfl) ?_
    refine seqR (by kernel_rfl) ?_
    refine regionR 2 (by kernel_rfl) (by kernel_rfl) ?_
    refine (run0 (z := 0) 2 [0, 1, 12, 13, 4] [(0, .pointer (some ⟨b, 0, none⟩)), (1, .int .i64 (shN n)), (12, .int .i64 (l.length : Int)), (13, .int .i64 (u : Int)), (4, .int .i64 (u : Int))] (fun _ => by kernel_rfl) (endR ?_) : RT _ _ _ _ _ _ 2 _)
    refine drawR (fun w => Sat w (blk b 130 [.slice (some ⟨sb, so, none⟩) l.length cap, .int .i64 room] :: row slE 104 (.slice (some ⟨sb, so, none⟩) l.length cap) xs :: H)) [18] 19 (by kernel_rfl) (by kernel_rfl) (by kernel_rfl) (fun _ h => by first | exact h | exact h.tail | exact h.tail.tail | exact h.tail.tail.tail | exact h.tail.tail.tail.tail) ?_
    refine takesR [0, 1, 2, 3, 4, 5, 6, 7, 8, 9, 13] [0, 1, 12, 13, 19, 20, 24, 25, 29] 8 [true, true, true, true, true, true, true, true, true, true, false, false, false, true, false, false, false, false, false] [(0, .pointer (some ⟨b, 0, none⟩)), (1, .int .i64 (shN n)), (12, .int .i64 (l.length : Int)), (13, .int .i64 (u : Int)), (19, .slice (some ⟨sb, so, none⟩) l.length cap), (20, .int .i64 (u : Int)), (24, .slice (some ⟨sb, so, none⟩) l.length cap), (25, .int .i64 (u : Int)), (29, .int .i64 (shN n))] [(⟨b, 0, none⟩, .slice (some ⟨sb, so, none⟩) l.length cap), (⟨b, 0, none⟩, .slice (some ⟨sb, so, none⟩) l.length cap)] rfl (fun _ d _ _ _ h => by cases d <;> exact h) (fun _ h => by first | exact h | exact h.tail | exact h.tail.tail | exact h.tail.tail.tail | exact h.tail.tail.tail.tail) (hasC (blkAt (T := 130) (cs := [.slice (some ⟨sb, so, none⟩) l.length cap, .int .i64 room]) 0 rfl rfl) (hasC (blkAt (T := 130) (cs := [.slice (some ⟨sb, so, none⟩) l.length cap, .int .i64 room]) 0 rfl rfl) has0)) (fun _ => by kernel_rfl) ?_
    refine takeR1 10 7 [true, true, true, true, true, true, true, true, true, true, true, false, false, true, false, false, false, false, false] rfl rfl (by kernel_rfl) (fun _ d _ _ _ h => by cases d <;> exact h) (fun _ h => by first | exact h | exact h.tail | exact h.tail.tail | exact h.tail.tail.tail | exact h.tail.tail.tail.tail) (idxY 128 (.tmp 24) (.tmp 25) sb so l.length cap u 2 104 (u : Int) .i64 (some 26) (fun _ => by kernel_rfl) (by kernel_rfl) (by kernel_rfl) (fun _ => by kernel_rfl) (fun _ => by kernel_rfl) Tryz.underlying128 (by kernel_rfl) (by first | rfl | assumption | simp) (by first | omega | (simp; done) | (simp; omega) | (simp at *; omega))) ?_
    refine takesR [11, 12, 14, 15] [0, 1, 12, 13, 19, 20, 31] 3 [true, true, true, true, true, true, true, true, true, true, true, true, true, true, true, true, false, false, false] [(0, .pointer (some ⟨b, 0, none⟩)), (1, .int .i64 (shN n)), (12, .int .i64 (l.length : Int)), (13, .int .i64 (u : Int)), (19, .slice (some ⟨sb, so, none⟩) l.length cap), (20, .int .i64 (u : Int)), (31, .int .i64 (mxI 0 (IntKind.i64.wrap (e.1 - (shN n)))))] [(⟨sb, so + u * 2, none⟩, .int .i64 e.1)] rfl (fun _ d _ _ _ h => by cases d <;> exact h) (fun _ h => by first | exact h | exact h.tail | exact h.tail.tail | exact h.tail.tail.tail | exact h.tail.tail.tail.tail) (hasC ((rowKRm (xs := xs) (m := l.length) (A := some ⟨sb, so, none⟩) (k := cap) (E := slE) (T := 104) 1 rfl hxl.symm).cell rfl (i := u) (x := e) hxe (j := 0) rfl) has0) (fun _ => by kernel_rfl) ?_
    refine takeR1 16 2 [true, true, true, true, true, true, true, true, true, true, true, true, true, true, true, true, true, false, false] rfl rfl (by kernel_rfl) (fun _ d _ _ _ h => by cases d <;> exact h) (fun _ h => by first | exact h | exact h.tail | exact h.tail.tail | exact h.tail.tail.tail | exact h.tail.tail.tail.tail) (idxY 128 (.tmp 19) (.tmp 20) sb so l.length cap u 2 104 (u : Int) .i64 (some 32) (fun _ => by kernel_rfl) (by kernel_rfl) (by kernel_rfl) (fun _ => by kernel_rfl) (fun _ => by kernel_rfl) Tryz.underlying128 (by kernel_rfl) (by first | rfl | assumption | simp) (by first | omega | (simp; done) | (simp; omega) | (simp at *; omega))) ?_
    refine takesR [17] [0, 1, 12, 13, 31, 33] 1 [true, true, true, true, true, true, true, true, true, true, true, true, true, true, true, true, true, true, false] [(0, .pointer (some ⟨b, 0, none⟩)), (1, .int .i64 (shN n)), (12, .int .i64 (l.length : Int)), (13, .int .i64 (u : Int)), (31, .int .i64 (mxI 0 (IntKind.i64.wrap (e.1 - (shN n))))), (33, .pointer (some ⟨sb, so + u * 2, none⟩))] [] rfl (fun _ d _ _ _ h => by cases d <;> exact h) (fun _ h => by first | exact h | exact h.tail | exact h.tail.tail | exact h.tail.tail.tail | exact h.tail.tail.tail.tail) has0 (fun _ => by kernel_rfl) ?_
    refine DT.pick 1 rfl ?_
    refine oneR 18 0 [true, true, true, true, true, true, true, true, true, true, true, true, true, true, true, true, true, true, true] rfl rfl (by kernel_rfl) (setS (E := slE) (J := u) (j := 0) e (mxI 0 (IntKind.i64.wrap (e.1 - shN n)), e.2) (.int .i64 (mxI 0 (IntKind.i64.wrap (e.1 - (shN n))))) ⟨sb, so + u * 2, none⟩ (fun _ => by kernel_rfl) (by first | rfl | simp) (hxe) (rfl) (by decide)) (fun _ _ h hn => by first | exact h | exact h.tail | exact h.tail.tail | exact h.tail.tail.tail | exact h.tail.tail.tail.tail | exact absurd hn (by decide)) (fun _ => ?_)
    refine drawnR (by kernel_rfl) ?_
    refine regionR 2 (by kernel_rfl) (by kernel_rfl) ?_
    refine (run0 (z := 0) 2 [0, 1, 12, 13] [(0, .pointer (some ⟨b, 0, none⟩)), (1, .int .i64 (shN n)), (12, .int .i64 (l.length : Int)), (13, .int .i64 (IntKind.i64.wrap ((u : Int) + 1)))] (fun _ => by kernel_rfl) (endR ?_) : RT _ _ _ _ _ _ 2 _)
    rw [show IntKind.i64.wrap ((u : Int) + 1) = ((u + 1 : Nat) : Int) by rw [IntKind.wrap_i64]; omega]
    refine PT.pick 1 rfl ?_
    refine PT.keep (L' := [(0, .pointer (some ⟨b, 0, none⟩)), (1, .int .i64 (shN n)), (12, .int .i64 (l.length : Int)), (13, .int .i64 ((u + 1 : Nat) : Int))]) [0, 1, 12, 13] rfl ?_
    exact againG (k - 1) (xs.set u (mxI 0 (IntKind.i64.wrap (e.1 - shN n)), e.2), u + 1) rfl rfl (by omega) ⟨by simp only; omega, hset⟩
  · skip
    have hu : u = l.length := by have := of_decide_eq_false h1; omega
    have hfin : xs = shiftE l n := by rw [hxs, hu, List.drop_length, List.append_nil, List.take_of_length_le (by omega)]
    rw [hfin]
    refine exitR 0 (by kernel_rfl) (by kernel_rfl) ?_
    refine thenX ?_
    refine thenX ?_
    refine leaveR ?_
    refine regionR 5 (by kernel_rfl) (by kernel_rfl) ?_
    refine (runR (H := (blk b 130 [.slice A l.length cap, .int .i64 room] :: row slE 104 (.slice A l.length cap) (shiftE l n) :: H)) (z := 1) 4 [38] [(38, .slice A l.length cap)] [(⟨b, 0, none⟩, .slice A l.length cap)] (hasC (blkAt (T := 130) (cs := [.slice A l.length cap, .int .i64 room]) 0 rfl rfl) has0) (fun _ => by kernel_rfl) ?_ : RT _ _ _ _ _ _ 5 _)
    rw [← hsl]
    refine (stepR (z := 0) (callS 85 [.slice A ((shiftE l n).length) cap, .func (.func 86) #[] #[]] (some 39) (fun _ => .tuple #[]) (fun _ => (blk b 130 [.slice A ((shiftE l n).length) cap, .int .i64 room] :: row slE 104 (.slice A ((shiftE l n).length) cap) (shiftE l n) :: H)) (fun _ => by kernel_rfl) (sort_walk (blk b 130 [.slice A ((shiftE l n).length) cap, .int .i64 room] :: row slE 104 (.slice A ((shiftE l n).length) cap) (shiftE l n) :: H) ⟨A, cap, shiftE l n⟩ (rowKRat 1 rfl) hsr (by show (shiftE l n).length ≤ 64; omega))) (fun _ => ?_) : RT _ _ _ _ _ _ 1 _)
    refine endR ?_
    refine done0 (.tuple #[]) (fun _ => by kernel_rfl) (fun w hs => ?_) .normal (.inl rfl)
    exact ⟨(), rfl, hs⟩
theorem put_idx (H : List SP) (b : Nat) (room : Int) (l : List (Int × Int)) (p id : Int) (hsr : SrtE l) (hl : l.length < 1000000) : ∀ w, Sat w (idxS b room l :: H) → Calls Tryz.prog 67 #[.pointer (some ⟨b, 0, none⟩), .int .i64 p, .int .i64 id] w (Ret (ι := Unit) (fun _ => pqErr (putE room l p id).1) fun _ => idxS b room (putE room l p id).2 :: H) :=
  idx_open fun A cap w hs => (put_walk H b A cap room l p id hsr hl w hs).mono fun e w' ⟨x, he, hx⟩ => ⟨(), he, Sat.idx hx⟩
theorem drop_idx (H : List SP) (b : Nat) (room : Int) (l : List (Int × Int)) (id : Int) (hl : l.length < 1000000) : ∀ w, Sat w (idxS b room l :: H) → Calls Tryz.prog 69 #[.pointer (some ⟨b, 0, none⟩), .int .i64 id] w (Ret (ι := Unit) (fun _ => pqErr (dropE l id).1) fun _ => idxS b room (dropE l id).2 :: H) :=
  idx_open fun A cap w hs => (drop_walk H b A cap room l id hl w hs).mono fun e w' ⟨x, he, hx⟩ => ⟨(), he, Sat.idx hx⟩
theorem rekey_idx (H : List SP) (b : Nat) (room : Int) (l : List (Int × Int)) (id p : Int) (hsr : SrtE l) (hl : l.length < 1000000) : ∀ w, Sat w (idxS b room l :: H) → Calls Tryz.prog 73 #[.pointer (some ⟨b, 0, none⟩), .int .i64 id, .int .i64 p] w (Ret (ι := Unit) (fun _ => pqErr (rekeyE l id p).1) fun _ => idxS b room (rekeyE l id p).2 :: H) :=
  idx_open fun A cap w hs => (rekey_walk H b A cap room l id p hsr hl w hs).mono fun e w' ⟨x, he, hx⟩ => ⟨(), he, Sat.idx hx⟩
theorem shift_idx (H : List SP) (b : Nat) (room : Int) (l : List (Int × Int)) (n : Int) (hl : l.length ≤ 64) (hsr : SrtE (shiftE l n)) : ∀ w, Sat w (idxS b room l :: H) → Calls Tryz.prog 72 #[.pointer (some ⟨b, 0, none⟩), .int .i64 n] w (Ret (ι := Unit) (fun _ => .tuple #[]) fun _ => idxS b room (shiftE l n) :: H) :=
  idx_open fun A cap w hs => (shift_walk H b A cap room l n hl hsr w hs).mono fun e w' ⟨x, he, hx⟩ => ⟨(), he, Sat.idx hx⟩
end Go.Proofs.YtlhjibkkkhgonaaGreat
set_option linter.unusedVariables false
set_option linter.unusedSimpArgs false
namespace Go.Proofs.YtlhjibkkkhgonaaGreat
open Go.RowKit G
theorem infoIn : (Tryz.prog.info? 3).map (fun i => (i.zero, i.size, i.bytes)) = some (some (.int .i64 0), 1, 8) := by kernel_rfl
theorem etyIn : Ety Tryz.prog (kE .i64) 3 (.int .i64 0) := by
  obtain ⟨i, hi, hz, hs, hb⟩ := info_parts infoIn
  exact ⟨⟨i, hi, hz, hs, by omega⟩, rfl⟩
theorem zero_cells_in (n : Nat) : ∀ u ∈ (Builtin.zeroCells (Value.int .i64 0).cells n).toList, u.oneCell' = true := by
  intro u hu
  simp only [Builtin.zeroCells, Value.cells, List.size_toArray, List.length_cons, List.length_nil, Array.toList_map, List.mem_map] at hu
  obtain ⟨k, _, rfl⟩ := hu
  have h : k % 1 = 0 := Nat.mod_one k
  simp [h, Value.oneCell']

set_option maxHeartbeats 1000000 in
set_option maxRecDepth 100000 in
theorem del_in_at (w : World) (b o c n : Nat) (cur : Array Value) (xs zs : List Int) (i : Nat) (hz : zs = xs.take i ++ xs.drop (i + 1)) (hx : xs.length = n) (hb : w.heap[b]? = some (.cells cur 3 (0, 0))) (hc1 : n ≤ c) (hc2 : c ≤ maxLen) (hc3 : o + c * 1 ≤ cur.size) (hcur : (cur.toList.drop o).take (n * 1) = (kE .i64).flat xs)
    (hi : i < n) (hn : n ≤ 1000000000) :
    Calls Tryz.prog 61 #[.slice (some ⟨b, o, none⟩) n c, .int .i64 i, .int .i64 (i + 1)] w (RowPost (kE .i64) 3 (OneB b) w zs) := by
  have hne : ((i : Int) == (i : Int) + 1) = false := by simp; omega
  have hlen : cur.toList.length = cur.size := by simp
  -- the append in place
  have hrow : Row (kE .i64) 3 w.drew (OneB b) (.slice (some ⟨b, o, none⟩) (xs.take i).length c) (xs.take i) := by
    refine .inr ⟨b, o, c, cur, rfl, rfl, hb, by simp; omega, hc2, hc3, ?_⟩
    rw [List.length_take, hx, Nat.min_eq_left (by omega)]
    rw [← (kE .i64).flat_take, ← hcur, List.take_take]
    congr 1
    show i * 1 = min (i * 1) (n * 1); omega
  have hil : (xs.take i).length = i := by rw [List.length_take, hx]; omega
  have hdl : (xs.drop (i + 1)).length = n - (i + 1) := by rw [List.length_drop, hx]
  have hcell : ∀ j u, ((kE .i64).flat (xs.drop (i + 1)))[j]? = some u → w.drew.cell? ⟨b, o + (i + 1) * 1 + j, none⟩ = some u := by
    intro j u hu
    rw [cell_of_row w.drew b _ cur 3 (0, 0) hb]
    rw [← (kE .i64).flat_drop, ← hcur] at hu
    rw [List.getElem?_drop, List.getElem?_take] at hu
    split at hu
    · rw [List.getElem?_drop] at hu
      rw [← Array.getElem?_toList, ← hu]
      show _ = cur.toList[o + ((i + 1) * 1 + j)]?
      congr 1; omega
    · cases hu
  have hap : ∀ (X : Option Addr) (m dc : Nat), m = n - (i + 1) → (¬ c = i + 1 → X = some ⟨b, o + (i + 1) * 1, none⟩ ∧ dc = c - (i + 1)) → (c = i + 1 → X = some ⟨b, o, none⟩ ∧ dc = 0) → ∃ cur1, cur1.size = cur.size ∧ (cur1.toList.drop o).take ((n - 1) * 1) = (kE .i64).flat zs ∧
      (Builtin.append_ #[42, 42] 42 #[.slice (some ⟨b, o, none⟩) i c, .slice X m dc]).run Tryz.prog w.drew = .ok (.slice (some ⟨b, o, none⟩) (n - 1) c) (w.drew.setRow b cur1) := by
    intro X m dc hm hX1 hX2
    subst hm
    obtain ⟨ii, hii, hzz, hss, hbb⟩ := info_parts infoIn
    have hfl : ((kE .i64).flat (xs.drop (i + 1))).length = (n - (i + 1)) * 1 := by rw [(kE .i64).flat_length, hdl]; rfl
    have hfl0 : ((kE .i64).flat (xs.take i)).length = i * 1 := by rw [(kE .i64).flat_length, hil]; rfl
    have hf : (Builtin.firstCells 1 (n - (i + 1)) (.slice X (n - (i + 1)) dc)).run Tryz.prog w.drew = .ok ((kE .i64).flat (xs.drop (i + 1))).toArray w.drew := by
      by_cases hcc : c = i + 1
      · obtain ⟨rfl, rfl⟩ := hX2 hcc
        have e0 : n - (i + 1) = 0 := by omega
        rw [e0] at hfl ⊢
        have : (kE .i64).flat (xs.drop (i + 1)) = [] := List.eq_nil_of_length_eq_zero (by simpa using hfl)
        rw [this]
        exact run_firstCells_some (P := Tryz.prog) w.drew 1 0 _ _ _ [] rfl (by intro j u h; simp at h)
      · obtain ⟨rfl, rfl⟩ := hX1 hcc
        exact run_firstCells_some (P := Tryz.prog) w.drew 1 _ _ _ _ _ hfl (fun j u hu => by rw [Addr.add_lit]; exact hcell j u hu)
    have hst := run_storeCells_at Tryz.prog b (o + i * 1) 3 ((kE .i64).flat (xs.drop (i + 1))) 0 cur w.drew hb (by rw [hfl]; omega) ((kE .i64).flat_one' _)
    simp only [Nat.add_zero, Nat.mul_one] at hst
    refine ⟨(cur.toList.take (o + i * 1) ++ (kE .i64).flat (xs.drop (i + 1)) ++ cur.toList.drop (o + i * 1 + ((kE .i64).flat (xs.drop (i + 1))).length)).toArray, ?_, ?_, ?_⟩
    rotate_left 2
    · have hroom : i + (n - (i + 1)) ≤ c := by omega
      have e1 : i + (n - (i + 1)) = n - 1 := by omega
      simp [Builtin.append_, run_underlying Tryz.underlying42, sizeOf, typeInfo, hii, hss, Builtin.lenOf, hf, Addr.add_lit, hst, e1]
      intro h; omega
    · simp only [List.size_toArray, List.length_append, List.length_take, List.length_drop, hlen, hfl]; omega
    · have htm := take_mid cur.toList o (i * 1) ((kE .i64).flat (xs.drop (i + 1))).length ((kE .i64).flat (xs.drop (i + 1))) rfl (by rw [hlen, hfl]; omega)
      have e2 : (n - 1) * 1 = i * 1 + ((kE .i64).flat (xs.drop (i + 1))).length := by rw [hfl]; omega
      rw [e2]
      show List.take _ (List.drop o (List.take (o + i * 1) cur.toList ++ (kE .i64).flat (xs.drop (i + 1)) ++ List.drop (o + i * 1 + ((kE .i64).flat (xs.drop (i + 1))).length) cur.toList)) = _
      rw [htm, hz, Enc.flat_append]
      congr 1
      rw [← (kE .i64).flat_take, ← hcur, List.take_take]
      congr 1
      show i * 1 = min (i * 1) (n * 1); omega
  -- the clear
  have hclr : ∀ cur1 : Array Value, cur1.size = cur.size → (cur1.toList.drop o).take ((n - 1) * 1) = (kE .i64).flat zs → ∃ cur2, (∀ dc, (Builtin.clear_ #[42] 0 #[.slice (some ⟨b, o + (n - 1) * 1, none⟩) 1 dc]).run Tryz.prog (w.drew.setRow b cur1) = .ok (.tuple #[]) ((w.drew.setRow b cur1).setRow b cur2)) ∧
      RowPost (kE .i64) 3 (OneB b) w zs (.returned (.slice (some ⟨b, o, none⟩) (n - 1) c)) ((w.drew.setRow b cur1).setRow b cur2) := by
    intro cur1 hs1 ht1
    have hb1 : (w.drew.setRow b cur1).heap[b]? = some (.cells cur1 3 (0, 0)) := setRow_heap w.drew b cur cur1 _ _ hb
    have hl1 : cur1.toList.length = cur.size := by simp [hs1]
    have hzl : (Builtin.zeroCells (Value.int .i64 0).cells 1).toList.length = 1 := by rw [Array.length_toList, size_zeroCells]; rfl
    refine ⟨_, fun dc => run_clear_at (P := Tryz.prog) Tryz.underlying42 etyIn hb1 (by omega) (by rw [hs1]; show _ + 1 * 1 ≤ _; omega) (zero_cells_in 1), ?_⟩
    refine ⟨_, OneB b, rfl, .inr ⟨b, o, c, _, ?_, rfl, setRow_heap _ b cur1 _ _ _ hb1, ?_, hc2, ?_, ?_⟩, ⟨rfl, rfl, rfl, by simp [World.setRow], fun k _ hk => (setRow_other _ b k _ (fun e => hk e)).trans (setRow_other w.drew b k _ (fun e => hk e))⟩, fun b hb => .inl hb⟩
    · congr 1; rw [hz]; simp; omega
    · rw [hz]; simp; omega
    · simp only [List.size_toArray, List.length_append, List.length_take, List.length_drop, hl1, hzl]
      show o + c * 1 ≤ _ + (_ - (_ + 1 * 1)); omega
    · have hzn : zs.length = n - 1 := by rw [hz]; simp; omega
      rw [hzn, ← ht1]
      show List.take ((n - 1) * 1) (List.drop o (List.take (o + (n - 1) * 1) cur1.toList ++ (Builtin.zeroCells (Value.int .i64 0).cells 1).toList ++ List.drop (o + (n - 1) * 1 + 1 * 1) cur1.toList)) = _
      rw [List.append_assoc, List.drop_append, List.length_take, hl1, show o - min (o + (n - 1) * 1) cur.size = 0 by omega, List.drop_zero, List.drop_take]
      have e3 : o + (n - 1) * 1 - o = (n - 1) * 1 := by omega
      rw [e3]
      exact List.take_left' (by simp only [List.length_take, List.length_drop, hl1]; omega)
  have HAP := Lib.hid hap
  have HCL := Lib.hid hclr
  clear hap hclr hrow hil hdl hcell hcur hb hx hz hlen hc3
  have hb2 : ¬ (c = i) := by omega
  have hb3 : ¬ (c = n - 1) := by omega
  have hb4 : i + 1 ≤ n := by omega
  have hb5 : (0 : Int) ≤ (i : Int) + 1 := by omega
  have hw1 : IntKind.i64.wrap ((i : Int) + 1) = (i : Int) + 1 := by rw [IntKind.wrap_i64]; omega
  have htn : ((i : Int) + 1).toNat = i + 1 := by omega
  have hb6 : n - (n - 1) = 1 := by omega
  have hb7 : i ≤ n := by omega
  have hb8 : n - 1 ≤ n := by omega
  have hb9 : i ≤ c := by omega
  have hb11 : (i : Int) + 1 ≤ (n : Int) := by omega
  have hb10 : (i : Int) ≤ (i : Int) + 1 := by omega
  by_cases hcc : c = i + 1
  · subst hcc
    obtain ⟨cur1, hs1, ht1, hr1⟩ := HAP.out (some ⟨b, o, none⟩) 0 0 (by omega) (by intro h; exact absurd rfl h) (by intro _; exact ⟨rfl, rfl⟩)
    obtain ⟨cur2, hr2, hp0⟩ := HCL.out cur1 hs1 ht1
    simp only [Nat.mul_one] at hr1 hr2
    have hp := Lib.hid hp0
    have HR := Lib.hid hr1
    clear hs1 ht1 hp0 hr1 HAP HCL
    go_enter Tryz.func61, Tryz.ntmps61
    go_wp2
    go_region_law (refine step_append_by rfl _ _ _ _ rfl (by simp [Act.eval, Act.put]) (by simp [Act.eval, Act.put]) HR.out ?_)
    go_wp2
    go_ret
    exact hp.out
  · obtain ⟨cur1, hs1, ht1, hr1⟩ := HAP.out (some ⟨b, o + (i + 1) * 1, none⟩) (n - (i + 1)) (c - (i + 1)) rfl (by intro _; exact ⟨rfl, rfl⟩) (by intro h; exact absurd h hcc)
    obtain ⟨cur2, hr2, hp0⟩ := HCL.out cur1 hs1 ht1
    simp only [Nat.mul_one] at hr1 hr2
    have hp := Lib.hid hp0
    have HR := Lib.hid hr1
    clear hs1 ht1 hp0 hr1 HAP HCL
    go_enter Tryz.func61, Tryz.ntmps61
    go_wp2
    go_region_law (refine step_append_by rfl _ _ _ _ rfl (by simp [Act.eval, Act.put]) (by simp [Act.eval, Act.put]) HR.out ?_)
    go_wp2
    go_ret
    exact hp.out

/-- slices.Delete of one element at a row of sleepers. -/
theorem del_in (w : World) (F : Nat → Prop) (v : Value) (xs : List Int) (hrow : Row (kE .i64) 3 w F v xs) (i : Nat) (hi : i < xs.length) (hn : xs.length ≤ 1000000000) :
    Calls Tryz.prog 61 #[v, .int .i64 i, .int .i64 (i + 1)] w (RowPost (kE .i64) 3 F w (xs.take i ++ xs.drop (i + 1))) := by
  rcases hrow with ⟨rfl, rfl, rfl⟩ | ⟨b, o, c, cur, rfl, rfl, hb, hc1, hc2, hc3, hcur⟩
  · simp at hi
  · exact del_in_at w b o c _ cur xs _ i rfl rfl hb hc1 hc2 hc3 hcur hi hn
end Go.Proofs.YtlhjibkkkhgonaaGreat
set_option linter.unusedVariables false
set_option linter.unusedSimpArgs false
namespace Go.Proofs.YtlhjibkkkhgonaaGreat
open Ieee

/-- The float of a whole number. -/
def fi (n : Int) : Nat := FloatKind.f64.nearest n
theorem fi_eq (n : Int) : fi n = floatOfInt .f64 n := rfl
theorem leastPlace_eq : double.leastPlace = -1074 := by decide
theorem binade_eq : double.binade = 2 ^ 52 := rfl
theorem signWeight_eq : double.signWeight = 2 ^ 63 := rfl
theorem infRung_eq : double.infRung = 2047 * 2 ^ 52 := rfl

theorem e52 : (2 : Nat) ^ 52 = 4503599627370496 := rfl
theorem e53 : (2 : Nat) ^ 53 = 9007199254740992 := rfl
theorem e63 : (2 : Nat) ^ 63 = 9223372036854775808 := rfl
/-- The rung of a number below 2^53. -/
theorem cut_whole (s : Bool) (n d : Nat) (hn : 0 < n) : Toward.even.cut s (n * 2 ^ d) d = n := by
  have hl : d ≤ (n * 2 ^ d).log2 := by
    rw [Nat.le_log2 (Nat.ne_of_gt (Nat.mul_pos hn (Nat.two_pow_pos d)))]
    exact Nat.le_mul_of_pos_left _ hn
  unfold Toward.cut
  rw [Nat.min_eq_left (by omega), Nat.one_shiftLeft]
  simp only [Nat.mul_div_cancel _ (Nat.two_pow_pos d), Nat.mul_mod_left, Nat.mul_zero]
  have h1 : decide (2 ^ d < 0) = false := decide_eq_false (Nat.not_lt_zero _)
  have h2 : ((2 ^ d : Nat) == 0) = false := by
    have := Nat.two_pow_pos d
    simp only [beq_eq_false_iff_ne]; omega
  rw [h1, h2]; simp
theorem cut_none (s : Bool) (n : Nat) : Toward.even.cut s n 0 = n := by
  unfold Toward.cut
  simp [Nat.mod_one]
/-- A number below 2^53, told at any place not above 0: its word. -/
theorem nearest_at (s : Bool) (m e : Nat) (hm : 0 < m) (hb : m < 2 ^ 53) (he : e ≤ 1000) :
    double.nearest s (m * 2 ^ e) (-(e : Int)) = double.word s ((m.log2 + 1022) * 2 ^ 52 + m * 2 ^ (52 - m.log2)) := by
  have hlg : m.log2 < 53 := (Nat.log2_lt (by omega)).2 hb
  have hle : (m * 2 ^ e).log2 = m.log2 + e := by
    refine (Nat.log2_eq_iff (Nat.ne_of_gt (Nat.mul_pos hm (Nat.two_pow_pos e)))).2 ⟨?_, ?_⟩
    · rw [Nat.pow_add]; exact Nat.mul_le_mul_right _ (Nat.log2_self_le (by omega))
    · rw [show m.log2 + e + 1 = (m.log2 + 1) + e by omega, Nat.pow_add]
      exact Nat.mul_lt_mul_of_pos_right Nat.lt_log2_self (Nat.two_pow_pos e)
  unfold Format.nearest
  rw [if_neg (Nat.ne_of_gt (Nat.mul_pos hm (Nat.two_pow_pos e))), hle, leastPlace_eq, binade_eq, infRung_eq]
  have hfb : double.fractionBits = 52 := rfl
  rw [hfb]
  have hlast : max (-(e : Int) + ((m.log2 + e : Nat) : Int) - ((52 : Nat) : Int)) (-1074) = (m.log2 : Int) - 52 := by omega
  simp only [hlast]
  have hkept : Toward.even.cut s ((m * 2 ^ e) <<< (-(e : Int) - ((m.log2 : Int) - 52)).toNat) ((m.log2 : Int) - 52 - -(e : Int)).toNat = m * 2 ^ (52 - m.log2) := by
    by_cases c : e ≤ 52 - m.log2
    · rw [show ((m.log2 : Int) - 52 - -(e : Int)).toNat = 0 by omega, show (-(e : Int) - ((m.log2 : Int) - 52)).toNat = 52 - m.log2 - e by omega, cut_none, Nat.shiftLeft_eq, Nat.mul_assoc, ← Nat.pow_add]
      congr 2; omega
    · rw [show (-(e : Int) - ((m.log2 : Int) - 52)).toNat = 0 by omega, Nat.shiftLeft_zero, show ((m.log2 : Int) - 52 - -(e : Int)).toNat = e - (52 - m.log2) by omega]
      have : m * 2 ^ e = m * 2 ^ (52 - m.log2) * 2 ^ (e - (52 - m.log2)) := by
        rw [Nat.mul_assoc, ← Nat.pow_add]; congr 2; omega
      rw [this]
      exact cut_whole s _ _ (Nat.mul_pos hm (Nat.two_pow_pos _))
  rw [hkept, show ((m.log2 : Int) - 52 - -1074).toNat = m.log2 + 1022 by omega]
  have hup : m * 2 ^ (52 - m.log2) < 2 ^ 53 := by
    have h1 : m < 2 ^ (m.log2 + 1) := Nat.lt_log2_self
    have h2 : m * 2 ^ (52 - m.log2) < 2 ^ (m.log2 + 1) * 2 ^ (52 - m.log2) := Nat.mul_lt_mul_of_pos_right h1 (Nat.two_pow_pos _)
    rw [← Nat.pow_add, show m.log2 + 1 + (52 - m.log2) = 53 by omega] at h2
    exact h2
  rw [Nat.min_eq_left]
  have : (m.log2 + 1022) * 2 ^ 52 ≤ 1074 * 2 ^ 52 := Nat.mul_le_mul_right _ (by omega)
  generalize m * 2 ^ (52 - m.log2) = X at hup ⊢
  generalize m.log2 = L at hlg ⊢
  clear hlast hkept hle hfb this
  rw [e52]
  rw [e53] at hup
  omega
/-- What such a word is read as. -/
theorem read_word (s : Bool) (m : Nat) (hm : 0 < m) (hb : m < 2 ^ 53) :
    double.read (double.word s ((m.log2 + 1022) * 2 ^ 52 + m * 2 ^ (52 - m.log2))) = .number s (m * 2 ^ (52 - m.log2)) (-((52 - m.log2 : Nat) : Int)) := by
  have hlg : m.log2 < 53 := (Nat.log2_lt (by omega)).2 hb
  have hlo : 2 ^ 52 ≤ m * 2 ^ (52 - m.log2) := by
    have h1 : 2 ^ m.log2 ≤ m := Nat.log2_self_le (by omega)
    have h2 : 2 ^ m.log2 * 2 ^ (52 - m.log2) ≤ m * 2 ^ (52 - m.log2) := Nat.mul_le_mul_right _ h1
    rw [← Nat.pow_add, show m.log2 + (52 - m.log2) = 52 by omega] at h2
    exact h2
  have hup : m * 2 ^ (52 - m.log2) < 2 ^ 53 := by
    have h1 : m < 2 ^ (m.log2 + 1) := Nat.lt_log2_self
    have h2 : m * 2 ^ (52 - m.log2) < 2 ^ (m.log2 + 1) * 2 ^ (52 - m.log2) := Nat.mul_lt_mul_of_pos_right h1 (Nat.two_pow_pos _)
    rw [← Nat.pow_add, show m.log2 + 1 + (52 - m.log2) = 53 by omega] at h2
    exact h2
  obtain ⟨M, hM⟩ : ∃ M, M = m * 2 ^ (52 - m.log2) := ⟨_, rfl⟩
  rw [← hM] at hlo hup ⊢
  obtain ⟨L, hL⟩ : ∃ L, L = m.log2 := ⟨_, rfl⟩
  rw [← hL] at hlg ⊢
  rw [e52] at hlo ⊢
  rw [e53] at hup
  clear hM hL hb hm
  have hr : (L + 1022) * 4503599627370496 + M < 9223372036854775808 := by omega
  have hmod : double.word s ((L + 1022) * 4503599627370496 + M) % 9223372036854775808 = (L + 1022) * 4503599627370496 + M := by
    unfold Format.word
    rw [signWeight_eq, e63]
    split <;> omega
  have hdiv : (double.word s ((L + 1022) * 4503599627370496 + M) / 9223372036854775808 % 2 == 1) = s := by
    unfold Format.word
    rw [signWeight_eq, e63]
    cases s
    · simp only [Bool.false_eq_true, if_false]
      rw [Nat.div_eq_of_lt hr]; rfl
    · simp only [if_true]
      have : (9223372036854775808 + ((L + 1022) * 4503599627370496 + M)) / 9223372036854775808 = 1 := by omega
      rw [this]; rfl
  unfold Format.read
  rw [signWeight_eq, e63, hmod, hdiv, binade_eq, infRung_eq, leastPlace_eq, e52]
  have hb1 : ¬ ((L + 1022) * 4503599627370496 + M < 4503599627370496) := by omega
  have hb2 : (L + 1022) * 4503599627370496 + M < 2047 * 4503599627370496 := by omega
  simp only [if_neg hb1, if_pos hb2]
  have hd : ((L + 1022) * 4503599627370496 + M) / 4503599627370496 = L + 1023 := by omega
  have hm2 : 4503599627370496 + ((L + 1022) * 4503599627370496 + M) % 4503599627370496 = M := by omega
  rw [hd, hm2]
  have hpl : (-1074 : Int) + ((L + 1023 - 1 : Nat) : Int) = -((52 - L : Nat) : Int) := by clear hd hm2 hb1 hb2 hmod hdiv hr hlo hup; omega
  rw [hpl]
theorem fi_word (n : Int) (h0 : n ≠ 0) (hb : n.natAbs < 2 ^ 53) : fi n = double.word (decide (n < 0)) ((n.natAbs.log2 + 1022) * 2 ^ 52 + n.natAbs * 2 ^ (52 - n.natAbs.log2)) := by
  have := nearest_at (decide (n < 0)) n.natAbs 0 (by omega) hb (by omega)
  rw [Nat.pow_zero, Nat.mul_one] at this
  exact this
theorem fi_zero : fi 0 = 0 := by decide
theorem read_zero : double.read 0 = .number false 0 (-1074) := by decide
/-- Each whole number is read back: so many halvings of so many doublings. -/
theorem fi_read (n : Int) (hb : n.natAbs < 2 ^ 53) : ∃ e : Nat, e ≤ 1074 ∧ double.read (fi n) = .number (decide (n < 0)) (n.natAbs * 2 ^ e) (-(e : Int)) ∧ (n ≠ 0 → e ≤ 52) := by
  by_cases h0 : n = 0
  · subst h0
    obtain ⟨e, he⟩ : ∃ e : Nat, e = 1074 := ⟨_, rfl⟩
    exact ⟨e, by omega, by rw [fi_zero, read_zero, Int.natAbs_zero, Nat.zero_mul, he]; rfl, fun h => absurd rfl h⟩
  · exact ⟨52 - n.natAbs.log2, by omega, by rw [fi_word n h0 hb]; exact read_word _ _ (by omega) hb, fun _ => by omega⟩
theorem signed_up (n : Int) (e k : Nat) : signed (decide (n < 0)) (n.natAbs * 2 ^ e) k = n * 2 ^ (e + k) := by
  unfold signed
  rw [Nat.shiftLeft_eq, Nat.mul_assoc, ← Nat.pow_add]
  have hp : ((n.natAbs * 2 ^ (e + k) : Nat) : Int) = (n.natAbs : Int) * 2 ^ (e + k) := by simp
  by_cases h : n < 0
  · rw [decide_eq_true h, if_pos rfl, hp, show (n.natAbs : Int) = -n by omega, Int.neg_mul, Int.neg_neg]
  · rw [decide_eq_false h, if_neg (by simp), hp, show (n.natAbs : Int) = n by omega]
theorem two_pow_pos' (e : Nat) : (0 : Int) < 2 ^ e := by
  have := Nat.two_pow_pos e
  have h : ((2 ^ e : Nat) : Int) = (2 : Int) ^ e := by simp
  omega
theorem cmp_scale (a b c : Int) (hc : 0 < c) : compare (a * c) (b * c) = compare a b := by
  show compareOfLessAndEq _ _ = compareOfLessAndEq _ _
  unfold compareOfLessAndEq
  by_cases h : a < b
  · rw [if_pos h, if_pos (Int.mul_lt_mul_of_pos_right h hc)]
  · by_cases h2 : a = b
    · subst h2; simp
    · have h3 : b < a := by omega
      have h4 := Int.mul_lt_mul_of_pos_right h3 hc
      rw [if_neg h, if_neg h2, if_neg (by omega), if_neg (by omega)]
theorem fi_order (a b : Int) (ha : a.natAbs < 2 ^ 53) (hb : b.natAbs < 2 ^ 53) : FloatKind.f64.format.order (fi a) (fi b) = some (compare a b) := by
  obtain ⟨e, _, he, _⟩ := fi_read a ha
  obtain ⟨d, _, hd, _⟩ := fi_read b hb
  show double.order _ _ = _
  unfold Format.order
  rw [he, hd]
  simp only [Datum.order, signed_up]
  rw [show e + (-(e : Int) - min (-(e : Int)) (-(d : Int))).toNat = max e d by omega, show d + (-(d : Int) - min (-(e : Int)) (-(d : Int))).toNat = max e d by omega, cmp_scale _ _ _ (two_pow_pos' _)]
theorem fi_int (n : Int) (hb : n.natAbs < 2 ^ 53) : floatToIntVal .f64 (fi n) .i64 = some n := by
  obtain ⟨e, _, he, _⟩ := fi_read n hb
  unfold floatToIntVal
  have hr : (FloatKind.f64.decode (fi n)) = .number (decide (n < 0)) (n.natAbs * 2 ^ e) (-(e : Int)) := he
  rw [hr]
  have hc : Toward.zero.cut (decide (n < 0)) ((n.natAbs * 2 ^ e) <<< (-(e : Int)).toNat) (- -(e : Int)).toNat = n.natAbs := by
    rw [show (-(e : Int)).toNat = 0 by omega, Nat.shiftLeft_zero, show (- -(e : Int)).toNat = e by omega]
    unfold Toward.cut
    by_cases h0 : n.natAbs = 0
    · rw [h0]; simp
    · have hl : e ≤ (n.natAbs * 2 ^ e).log2 := by
        rw [Nat.le_log2 (Nat.ne_of_gt (Nat.mul_pos (by omega) (Nat.two_pow_pos e)))]
        exact Nat.le_mul_of_pos_left _ (by omega)
      rw [Nat.min_eq_left (by omega), Nat.one_shiftLeft]
      simp [Nat.mul_div_cancel _ (Nat.two_pow_pos e)]
  have hi : (Datum.number (decide (n < 0)) (n.natAbs * 2 ^ e) (-(e : Int))).toInt .zero = some n := by
    unfold Datum.toInt Datum.integral
    simp only [hc]
    congr 1
    have := signed_up n 0 0
    simpa using this
  rw [hi]
  have h1 : IntKind.i64.min = -9223372036854775808 := rfl
  have h2 : IntKind.i64.max = 9223372036854775807 := rfl
  simp only [h1, h2]
  rw [if_pos (by omega)]
/-- A whole number told at a place: its word. -/
theorem write_scaled (n : Int) (e : Nat) (hb : n.natAbs < 2 ^ 53) (he : e ≤ 1000 ∨ n = 0) : double.write (.number (decide (n < 0)) (n.natAbs * 2 ^ e) (-(e : Int))) = fi n := by
  by_cases h0 : n = 0
  · subst h0
    show double.nearest _ _ _ = _
    unfold Format.nearest
    simp [fi_zero, Format.word]
  · rw [fi_word n h0 hb]
    exact nearest_at _ _ _ (by omega) hb (by omega)
theorem fi_add (a b : Int) (ha : a.natAbs < 2 ^ 53) (hb : b.natAbs < 2 ^ 53) (hs : (a + b).natAbs < 2 ^ 53) (h0 : a ≠ 0) (h1 : b ≠ 0) : double.add (fi a) (fi b) = some (fi (a + b)) := by
  obtain ⟨e, _, he, he2⟩ := fi_read a ha
  obtain ⟨d, _, hd, hd2⟩ := fi_read b hb
  have he3 := he2 h0
  have hd3 := hd2 h1
  unfold Format.add
  rw [he, hd]
  simp only [Datum.sum, signed_up, Option.map_some]
  rw [show e + (-(e : Int) - min (-(e : Int)) (-(d : Int))).toNat = max e d by omega, show d + (-(d : Int) - min (-(e : Int)) (-(d : Int))).toNat = max e d by omega, ← Int.add_mul, show min (-(e : Int)) (-(d : Int)) = -((max e d : Nat) : Int) by omega]
  congr 1
  have hp := two_pow_pos' (max e d)
  have hn : ((a + b) * 2 ^ max e d).natAbs = (a + b).natAbs * 2 ^ max e d := by
    rw [Int.natAbs_mul]; simp [Int.natAbs_pow]
  have hneg : (if (a + b) * 2 ^ max e d = 0 then (decide (a < 0) && decide (b < 0)) else decide ((a + b) * 2 ^ max e d < 0)) = decide (a + b < 0) := by
    by_cases c : a + b = 0
    · rw [c, Int.zero_mul, if_pos rfl]
      by_cases ca : a < 0
      · simp [show ¬ b < 0 by omega]
      · simp [ca]
    · rw [if_neg (by intro h; rcases Int.mul_eq_zero.1 h with h | h <;> omega)]
      by_cases c2 : a + b < 0
      · rw [decide_eq_true c2, decide_eq_true (Int.mul_neg_of_neg_of_pos c2 hp)]
      · rw [decide_eq_false c2, decide_eq_false (by have := Int.mul_pos (show 0 < a + b by omega) hp; omega)]
  rw [hn, hneg]
  exact write_scaled (a + b) _ hs (.inl (by omega))
theorem fi_mul (a b : Int) (ha : a.natAbs < 2 ^ 53) (hb : b.natAbs < 2 ^ 53) (hs : (a * b).natAbs < 2 ^ 53) (h0 : 0 < a) (h1 : 0 < b) : double.mul (fi a) (fi b) = some (fi (a * b)) := by
  obtain ⟨e, _, he, he2⟩ := fi_read a ha
  obtain ⟨d, _, hd, hd2⟩ := fi_read b hb
  have he3 := he2 (by omega)
  have hd3 := hd2 (by omega)
  unfold Format.mul
  rw [he, hd]
  simp only [Datum.product, Option.map_some]
  congr 1
  have hpos := Int.mul_pos h0 h1
  rw [decide_eq_false (show ¬ a < 0 by omega), decide_eq_false (show ¬ b < 0 by omega)]
  have e1 : a.natAbs * 2 ^ e * (b.natAbs * 2 ^ d) = (a * b).natAbs * 2 ^ (e + d) := by
    rw [Int.natAbs_mul, Nat.pow_add, Nat.mul_assoc, Nat.mul_left_comm (2 ^ e), ← Nat.mul_assoc]
  have e2 : -(e : Int) + -(d : Int) = -((e + d : Nat) : Int) := by omega
  rw [e1, e2]
  have := write_scaled (a * b) (e + d) hs (.inl (by omega))
  rw [decide_eq_false (show ¬ a * b < 0 by omega)] at this
  exact this
end Go.Proofs.YtlhjibkkkhgonaaGreat
set_option linter.unusedVariables false
namespace Go.Proofs.YtlhjibkkkhgonaaGreat
open Go.RowKit G
theorem flt_gt {t t' : TypeId} {x y : Operand} {a b : Int} (ha : a.natAbs < 2 ^ 53) (hb : b.natAbs < 2 ^ 53) (w : World) : (do eqGuard .gtr t x y (.float .f64 (floatOfInt .f64 a)) (.float .f64 (floatOfInt .f64 b)); binOp .gtr t (.float .f64 (floatOfInt .f64 a)) (.float .f64 (floatOfInt .f64 b)) : Sem Value).run Tryz.prog w = .ok (.bool (decide (a > b))) w := by
  have h := fi_order a b ha hb
  rw [fi_eq, fi_eq] at h
  simp only [eqGuard, binOp, Op.floatCmp, h, Sem.run_bind]
  simp [compare, compareOfLessAndEq]
  by_cases h1 : a < b
  · have : ¬ b < a := by omega
    simp [h1, this]
  · by_cases h2 : a = b
    · simp [h2]
    · have : b < a := by omega
      simp [h1, h2, this]
theorem flt_add1 {t : TypeId} {x y : Operand} {a : Int} (ha : 0 ≤ a) (hb : a < 2 ^ 52) (w : World) : (do eqGuard .add t x y (.float .f64 (floatOfInt .f64 a)) (.float .f64 4607182418800017408); binOp .add t (.float .f64 (floatOfInt .f64 a)) (.float .f64 4607182418800017408) : Sem Value).run Tryz.prog w = .ok (.float .f64 (floatOfInt .f64 (a + 1))) w := by
  have h1 : (4607182418800017408 : Nat) = floatOfInt .f64 1 := by decide
  have h : Ieee.double.add (floatOfInt .f64 a) (floatOfInt .f64 1) = some (floatOfInt .f64 (a + 1)) := by
    by_cases h0 : a = 0
    · subst h0; decide +kernel
    · have := fi_add a 1 (by omega) (by decide) (by omega) h0 (by decide)
      simpa only [fi_eq] using this
  rw [h1]
  simp only [eqGuard, binOp, Op.floatArith, Sem.run_bind]
  show _ = _
  simp [FloatKind.format, h]
theorem cvt_int {a : Int} (ha : a.natAbs < 2 ^ 53) (w : World) : (convert 141 3 (.float .f64 (floatOfInt .f64 a))).run Tryz.prog w = .ok (.int .i64 a) w :=
  run_convert_float_int w 141 3 .f64 .i64 (floatOfInt .f64 a) a (by kernel_rfl) Tryz.underlying3 (by have := fi_int a ha; rwa [fi_eq] at this)
end Go.Proofs.YtlhjibkkkhgonaaGreat
set_option linter.unusedVariables false
set_option linter.unusedSimpArgs false
namespace Go.Proofs.YtlhjibkkkhgonaaGreat.G
open Go.RowKit Go.Proofs.YtlhjibkkkhgonaaGreat Go.MapKept
def mEnt (l : List (Int × Value)) : List (Value × Value) := l.map fun p => (.int .i64 p.1, p.2)
def entOf (e : MapEntry) : Value × Value := (e.key, e.val)
/-- A map of numbers. -/
def mapS (b : Nat) (l : List (Int × Value)) : SP := ⟨fun w F => (∃ es ck, w.heap[b]? = some (.map es ck) ∧ Stamped es ck ∧ es.toList.map entOf = mEnt l) ∧ ∀ x, F x ↔ x = b,
  fun h x hx => by
    obtain ⟨⟨es, ck, hb, _⟩, hF⟩ := h
    rw [(hF x).1 hx]
    exact (Array.getElem?_eq_some_iff.1 hb).1,
  fun h a => by
    obtain ⟨⟨es, ck, hb, h2⟩, hF⟩ := h
    exact ⟨⟨es, ck, (a.keep b ((hF b).2 rfl)).trans hb, h2⟩, hF⟩⟩
/-- What a map holds at a key. -/
def lkE : List (Int × Value) → Int → Option Value
  | [], _ => none
  | p :: r, k => if p.1 == k then some p.2 else lkE r k
/-- .. and where. -/
def lkI : List (Int × Value) → Int → Nat → Option Nat
  | [], _, _ => none
  | p :: r, k, i => if p.1 == k then some i else lkI r k (i + 1)
theorem findNow_int (k : Int) : ∀ (es : List MapEntry) (l : List (Int × Value)) (i : Nat), es.map entOf = mEnt l →
    Instr.findNow (.int .i64) (.int .i64 k) es i = some ((lkI l k i).bind fun j => (lkE l k).map fun v => (j, v))
  | [], [], i, _ => rfl
  | [], p :: r, i, h => by simp [mEnt] at h
  | e :: es, [], i, h => by simp [mEnt] at h
  | e :: es, p :: r, i, h => by
    have h' := h
    rw [List.map_cons, mEnt, List.map_cons, List.cons.injEq] at h'
    have hk : e.key = .int .i64 p.1 := congrArg Prod.fst h'.1
    have hv : e.val = p.2 := congrArg Prod.snd h'.1
    have ih := findNow_int k es r (i + 1) h'.2
    rw [Instr.findNow, hk, hv]
    simp only [Instr.sameNow, if_true]
    by_cases c : k = p.1
    · subst c
      simp [lkI, lkE]
    · have c1 : (k == p.1) = false := by simpa using c
      have c2 : (p.1 == k) = false := by simp; exact fun h => c h.symm
      rw [c1, ih]
      simp [lkI, lkE, c2]
section
variable {P : Program} {n : Nat} {L : List (Nat × Value)} {H : List SP} {c : Code} {w : World}
theorem run_lookup_int {mty kt et : TypeId} {b : Nat} {es : Array MapEntry} {ck : Nat} {l : List (Int × Value)} {z : Value} (k : Int) (ok : Bool) (hm : P.underlying mty = some (.map kt et)) (hk : P.underlying kt = some (.int .i64)) (hz : (zeroValue et).run P w = .ok z w)
    (hb : w.heap[b]? = some (.map es ck)) (he : es.toList.map entOf = mEnt l) :
    (Instr.lookup mty (.map (some b)) (.int .i64 k) ok).run P w = .ok (if ok then .tuple #[(lkE l k).getD z, .bool (lkE l k).isSome] else (lkE l k).getD z) w := by
  have hg : (getObj b).run P w = .ok (.map es ck) w := Go.MapKept.run_getObj_map hb
  have hf := run_findKey (P := P) (w := w) hk (findNow_int k es.toList l 0 he)
  have hck : (Instr.checkKey es.isEmpty 10000 kt (.int .i64 k)).run P w = .ok () w := run_checkKey hk (by simp [IsKey]) _ _
  have hli : ∀ (l : List (Int × Value)) (i : Nat), (lkI l k i).isSome = (lkE l k).isSome := by
    intro l
    induction l with
    | nil => intro i; rfl
    | cons p r ih => intro i; simp only [lkI, lkE]; split; rfl; exact ih _
  unfold Instr.lookup
  simp only [Sem.run_bind, run_underlying hm, Result.andThen_ok, hg, Sem.run_pure, hck, hf]
  have h1 := hli l 0
  cases hv : lkE l k with
  | none =>
    rw [hv] at h1
    have h2 : lkI l k 0 = none := by simpa using h1
    simp [h2, hz]
  | some v =>
    rw [hv] at h1
    obtain ⟨j, h2⟩ := Option.isSome_iff_exists.1 h1
    simp [h2]
theorem mapAt {b i : Nat} {l : List (Int × Value)} (hi : H[i]? = some (mapS b l)) : ∀ w, Sat w H → ∃ es ck, w.heap[b]? = some (.map es ck) ∧ es.toList.map entOf = mEnt l := by
  intro w hs
  obtain ⟨G, ⟨es, ck, hb, _, he⟩, _⟩ := (hs.pick i hi).head
  exact ⟨es, ck, hb, he⟩
/-- A map's value at a key. -/
theorem lookY {S : World → Prop} {i : Nat} (t : TypeId) (x ix : Operand) (ok : Bool) (b : Nat) (k : Int) (l : List (Int × Value)) (z v : Value) (kt et : TypeId) (d : Option Tmp) (hg : ∀ rest, goes n c i L rest = true) (hd : (opAt c i).dst = d) (hop : (opAt c i).op = .lookup t x ix ok)
    (hx : ∀ rest, evalL L rest x = .map (some b)) (hix : ∀ rest, evalL L rest ix = .int .i64 k) (hm : P.underlying t = some (.map kt et)) (hk : P.underlying kt = some (.int .i64)) (hz : ∀ w, (zeroValue et).run P w = .ok z w)
    (hS : ∀ w, S w → ∃ es ck, w.heap[b]? = some (.map es ck) ∧ es.toList.map entOf = mEnt l) (hv : (if ok then .tuple #[(lkE l k).getD z, .bool (lkE l k).isSome] else (lkE l k).getD z) = v) : Yld P n L S c i d v := by
  refine ⟨hg, hd, fun rest w _ hs => ?_⟩
  obtain ⟨es, ck, hb, he⟩ := hS w hs
  have := run_lookup_int (P := P) (w := w) k ok hm hk (hz w) hb he
  unfold execOp
  simp only [hop, hx rest, hix rest]
  simp only [Sem.run_bind, Sem.run_map, this, hv]
  rfl
theorem newMapS {i : Nat} (d : Option Tmp) (v : Nat → Value) (h : ∀ rest r, newOk P n c i L rest r = some (.map #[] 0, v r, d)) : Step P n L H c i d v (fun b => mapS b [] :: H) := by
  have key : ∀ rest r, goes n c i L rest = true ∧ (opAt c i).dst = d ∧ ∃ f, newL P (execOp (evalL L rest) (opAt c i)) = some (.map #[] 0, f) ∧ f r = some (.value (v r)) := by
    intro rest r
    have h0 := h rest r
    unfold newOk at h0
    cases hg : goes n c i L rest with
    | false => rw [hg] at h0; cases h0
    | true =>
      rw [hg] at h0
      simp only at h0
      cases hr : newL P (execOp (evalL L rest) (opAt c i)) with
      | none => rw [hr] at h0; cases h0
      | some z =>
        obtain ⟨o, f⟩ := z
        rw [hr] at h0
        simp only at h0
        cases hf : f r with
        | none => rw [hf] at h0; cases h0
        | some x =>
          rw [hf] at h0
          cases x with
          | value u =>
            simp only [Option.some.injEq, Prod.mk.injEq] at h0
            obtain ⟨rfl, rfl, rfl⟩ := h0
            exact ⟨rfl, rfl, f, rfl, hf⟩
          | _ => cases h0
  refine valueS d v _ (fun rest => (key rest 0).1) (key (fun _ => undef) 0).2.1 ?_
  intro rest w _ hs
  obtain ⟨_, _, f, h1, h2⟩ := key rest w.heap.size
  refine ⟨w.heap.size, w.alloc (.map #[] 0), newL_run _ h1 h2, ?_⟩
  exact Sat.fresh hs (Upd.alloc _ _ _) (G' := fun b => b = w.heap.size) ⟨⟨#[], 0, (heap_alloc w _).1, stamped_empty 0, rfl⟩, fun _ => Iff.rfl⟩ (fun b hb => by omega)
theorem mEnt_keys {l : List (Int × Value)} {es : List MapEntry} (h : es.map entOf = mEnt l) : es.map (·.key) = l.map fun p => Value.int .i64 p.1 := by
  have := congrArg (List.map Prod.fst) h
  simp only [List.map_map, mEnt] at this
  exact this
theorem lkE_none {l : List (Int × Value)} {k : Int} : lkE l k = none ↔ ∀ p ∈ l, p.1 ≠ k := by
  induction l with
  | nil => simp [lkE]
  | cons p r ih =>
    simp only [lkE]
    by_cases c : p.1 = k
    · simp [c]
    · have : (p.1 == k) = false := by simpa using c
      rw [this]; simp [c, ih]
theorem lkI_none {l : List (Int × Value)} {k : Int} : ∀ i, lkE l k = none → lkI l k i = none := by
  induction l with
  | nil => intro i _; rfl
  | cons p r ih =>
    intro i h
    simp only [lkE, lkI] at h ⊢
    split at h
    · cases h
    · rename_i c; rw [if_neg c]; exact ih _ h
/-- A map takes a new key. -/
theorem updS {i : Nat} (t : TypeId) (m k v : Operand) (b : Nat) (kk : Int) (l : List (Int × Value)) (vv : Value) (kt et : TypeId) (hg : ∀ rest, goes n c i L rest = true) (hd : (opAt c i).dst = none) (hop : (opAt c i).op = .mapUpdate t m k v ∨ (opAt c i).op = .insert t m k v)
    (hx : ∀ rest, evalL L rest m = .map (some b)) (hix : ∀ rest, evalL L rest k = .int .i64 kk) (hvv : ∀ rest, evalL L rest v = vv) (hm : P.underlying t = some (.map kt et)) (hk : P.underlying kt = some (.int .i64)) (hn : lkE l kk = none) :
    Step (ι := Unit) P n L (mapS b l :: H) c i none (fun _ => undef) (fun _ => mapS b (l ++ [(kk, vv)]) :: H) := by
  refine skipS _ hg hd ?_
  intro rest w _ hs
  obtain ⟨G, ⟨⟨es, ck, hb, hst, he⟩, hF⟩⟩ := hs.head
  have hf := run_findKey (P := P) (w := w) hk (findNow_int kk es.toList l 0 he)
  rw [lkI_none 0 hn] at hf
  have hck : (Instr.checkKey false 10000 kt (.int .i64 kk)).run P w = .ok () w := run_checkKey hk (by simp [IsKey]) _ _
  have hr : (Instr.mapUpdate t (.map (some b)) (.int .i64 kk) vv).run P w = .ok () { w with heap := w.heap.setIfInBounds b (.map (es.push { key := .int .i64 kk, val := vv, born := ck }) (ck + 1)) } := by
    simp [Instr.mapUpdate, run_underlying hm, Go.MapKept.run_getObj_map hb, hck, hf, run_setObj_map _ hb, Result.andThen]
  refine ⟨{ w with heap := w.heap.setIfInBounds b (.map (es.push { key := .int .i64 kk, val := vv, born := ck }) (ck + 1)) }, ?_, ?_⟩
  · unfold execOp
    rcases hop with hop | hop <;> simp only [hop, hx rest, hix rest, hvv rest] <;> simp only [Sem.run_bind, Sem.run_map, hr] <;> rfl
  · refine hs.change fun G' hG' => ⟨⟨rfl, rfl, rfl, by simp, fun b' hb' hn' => ?_⟩, G', ⟨⟨_, _, (heap_set hb).1, stamped_push hst ?_, ?_⟩, hG'.2⟩, fun _ h => .inl h⟩
    · exact (heap_set hb).2 b' (fun h => hn' ((hG'.2 b').2 h))
    · intro x hx hkx
      have h1 := mEnt_keys he
      have h2 : x.key ∈ es.toList.map (·.key) := List.mem_map.2 ⟨x, hx, rfl⟩
      rw [h1, List.mem_map] at h2
      obtain ⟨p, hp, hpk⟩ := h2
      rw [hkx] at hpk
      injection hpk with _ e2
      exact (lkE_none.1 hn) p hp e2
    · simp [he, mEnt, entOf]
end
end Go.Proofs.YtlhjibkkkhgonaaGreat.G
set_option linter.unusedVariables false
set_option linter.unusedSimpArgs false
namespace Go.Proofs.YtlhjibkkkhgonaaGreat.G
open Go.RowKit Go.Proofs.YtlhjibkkkhgonaaGreat Go.MapKept
/-- A map that is gone through: its block, the iterator's; done: what has come, by place. -/
def rngS (bi mb : Nat) (l : List (Int × Value)) (done : List Nat) : SP := ⟨fun w F => (bi ≠ mb ∧ ∃ es ck seen, w.heap[mb]? = some (.map es ck) ∧ w.heap[bi]? = some (.mapIter (some mb) ck seen ck) ∧ Stamped es ck ∧ es.toList.map entOf = mEnt l ∧ seen.toList.map some = done.map (fun j => (es.toList[j]?).map (·.born))) ∧ ∀ x, F x ↔ x = mb ∨ x = bi,
  fun h x hx => by
    obtain ⟨⟨_, es, ck, seen, hb, hi, _⟩, hF⟩ := h
    rcases (hF x).1 hx with rfl | rfl
    · exact (Array.getElem?_eq_some_iff.1 hb).1
    · exact (Array.getElem?_eq_some_iff.1 hi).1,
  fun h a => by
    obtain ⟨⟨hn, es, ck, seen, hb, hi, h2⟩, hF⟩ := h
    exact ⟨⟨hn, es, ck, seen, (a.keep mb ((hF mb).2 (.inl rfl))).trans hb, (a.keep bi ((hF bi).2 (.inr rfl))).trans hi, h2⟩, hF⟩⟩
section
variable {P : Program} {n : Nat} {L : List (Nat × Value)} {H : List SP} {c : Code} {Q : Exit → Act → World → Prop}
theorem rngS_end {bi mb : Nat} {l : List (Int × Value)} {done : List Nat} {w : World} (h : Sat w (rngS bi mb l done :: H)) : Sat w (mapS mb l :: H) := by
  refine h.change fun G hG => ⟨Upd.refl _ _, fun b => b = mb, ?_, fun b hb => .inl ((hG.2 b).2 (.inl hb))⟩
  obtain ⟨⟨_, es, ck, seen, hb, hi, hs, he, _⟩, hF⟩ := hG
  exact ⟨⟨es, ck, hb, hs, he⟩, fun _ => Iff.rfl⟩
theorem PT.rngEnd {bi mb : Nat} {l : List (Int × Value)} {done : List Nat} {Φ : Act → World → Prop} (h : PT n L (mapS mb l :: H) Φ) : PT n L (rngS bi mb l done :: H) Φ := PT.sat (fun _ hs => rngS_end hs) h
theorem rangeS {i : Nat} (t : TypeId) (x : Operand) (mb : Nat) (l : List (Int × Value)) (kt et : TypeId) (d : Option Tmp) (hg : ∀ rest, goes n c i L rest = true) (hd : (opAt c i).dst = d) (hop : (opAt c i).op = .range t x)
    (hx : ∀ rest, evalL L rest x = .map (some mb)) (hm : P.underlying t = some (.map kt et)) : Step P n L (mapS mb l :: H) c i d (fun bi => .pointer (some ⟨bi, 0, none⟩)) (fun bi => rngS bi mb l [] :: H) := by
  refine valueS d _ _ hg hd ?_
  intro rest w _ hsat
  obtain ⟨G, ⟨⟨es, ck, hb, hst, he⟩, hF⟩⟩ := hsat.head
  refine ⟨w.heap.size, w.alloc (.mapIter (some mb) ck #[] ck), ?_, ?_⟩
  · unfold execOp
    simp only [hop, hx rest, Sem.run_bind, Sem.run_map, run_range_map w t kt et mb es ck hm hb]
    rfl
  · have hlt := (Array.getElem?_eq_some_iff.1 hb).1
    refine hsat.change fun G' hG' => ⟨⟨rfl, rfl, rfl, by simp, fun b hb' _ => (heap_alloc w _).2 b hb'⟩, fun x => x = mb ∨ x = w.heap.size, ⟨⟨by omega, es, ck, #[], ?_, (heap_alloc w _).1, hst, he, rfl⟩, fun _ => Iff.rfl⟩, fun b hb' => ?_⟩
    · rw [(heap_alloc w _).2 mb hlt]; exact hb
    · rcases hb' with rfl | rfl
      · exact .inl ((hG'.2 b).2 rfl)
      · exact .inr (Nat.le_refl _)
theorem next_run (w : World) (ty : TypeId) (mb bi ck : Nat) (seen : Array Nat) (es : Array MapEntry) (hb : w.heap[mb]? = some (.map es ck)) (hi : w.heap[bi]? = some (.mapIter (some mb) ck seen ck)) (hold : ∀ x ∈ es.toList, x.born < ck) :
    ((leftOf es seen).size = 0 ∧ (Instr.next (.pointer (some ⟨bi, 0, none⟩)) false ty).run P w = .ok (.tuple #[.bool false]) w) ∨
    ∃ e ∈ (leftOf es seen).toList, ∃ w1 : World, (w1 = w ∨ w1 = w.drew) ∧ (Instr.next (.pointer (some ⟨bi, 0, none⟩)) false ty).run P w = .ok (.tuple #[.bool true, e.key, e.val]) { w1 with heap := w.heap.setIfInBounds bi (.mapIter (some mb) ck (seen.push e.born) ck) } := by
  simp only [Instr.next, getObj, Sem.run_bind, Sem.run, hi, hb, Result.andThen, next_test_false seen es ck ck hold (Nat.le_refl _), Bool.false_eq_true, if_false]
  unfold leftOf
  have hmem : ∀ x ∈ (Array.filter (fun e => !seen.contains e.born) es).toList, x.born < ck := fun x hx => hold x (by simp at hx ⊢; exact hx.1)
  generalize Array.filter (fun e => !seen.contains e.born) es = M at hmem ⊢
  have e1 : M.filter (fun x => decide (x.born < ck)) = M := Array.filter_eq_self.2 (fun x hx => by simpa using hmem x (by simpa using hx))
  have e2 : M.filter (fun x => decide (x.born ≥ ck)) = #[] := by
    rw [Array.filter_eq_empty_iff]
    intro x hx
    have := hmem x (by simpa using hx)
    simp
    omega
  simp only [e1, e2, Array.append_empty]
  by_cases h0 : M.size = 0
  · left
    have : M = #[] := Array.eq_empty_of_size_eq_zero h0
    subst this
    refine ⟨rfl, ?_⟩
    simp [choose, Sem.run, Question.forced]
  · right
    have hne : M.isEmpty = false := by simp [Array.isEmpty, h0]
    simp only [hne, Bool.false_eq_true, if_false, Array.empty_append, Array.size_map]
    have hch : ∃ (j : Nat) (w1 : World), j < M.size ∧ (w1 = w ∨ w1 = w.drew) ∧ (choose (Question.mapNext M.size)).run P w = .ok j w1 := by
      by_cases hf : M.size ≤ 1
      · exact ⟨0, w, by omega, .inl rfl, by simp [choose, Sem.run, Question.forced, hf]⟩
      · exact ⟨_, w.drew, Nat.mod_lt _ (by omega), .inr rfl, by
          simp only [choose, Sem.run, Question.forced, decide_eq_true_eq, hf, if_false, Question.cut]
          rfl⟩
    obtain ⟨j, w1, hj, hal, hrun⟩ := hch
    refine ⟨M[j], by simp, w1, hal, ?_⟩
    have hh : w1.heap = w.heap := by rcases hal with rfl | rfl <;> rfl
    have hset : ∀ (o' : Obj), (setObj bi o').run P w1 = .ok () { w1 with heap := w.heap.setIfInBounds bi o' } := fun o' => by
      simp only [setObj, Sem.run, hh, hi]
    simp only [hrun, Array.getElem?_map, Array.getElem?_eq_getElem hj, Option.map_some, Sem.run_bind, hset, Result.andThen]
    rfl
/-- The places that have not come. -/
theorem left_of {es : Array MapEntry} {seen : Array Nat} {done : List Nat} {l : List (Int × Value)} (he : es.toList.map entOf = mEnt l) (hs : seen.toList.map some = done.map (fun j => (es.toList[j]?).map (·.born))) (hn : (es.toList.map (·.born)).Nodup) :
    ((leftOf es seen).size = 0 → ∀ j, j < l.length → j ∈ done) ∧ ∀ e ∈ (leftOf es seen).toList, ∃ j k v, l[j]? = some (k, v) ∧ j ∉ done ∧ es.toList[j]? = some e ∧ e.key = .int .i64 k ∧ e.val = v := by
  have hlen : es.toList.length = l.length := by simpa [mEnt] using congrArg List.length he
  have key : ∀ j e, es.toList[j]? = some e → (seen.contains e.born = true ↔ j ∈ done) := by
    intro j e hj
    have h1 : seen.contains e.born = true ↔ some e.born ∈ seen.toList.map some := by simp
    rw [h1, hs, List.mem_map]
    constructor
    · rintro ⟨i, hi, hb⟩
      obtain ⟨e', he', hbe⟩ := Option.map_eq_some_iff.1 hb
      have hil := (List.getElem?_eq_some_iff.1 he').1
      have hjl := (List.getElem?_eq_some_iff.1 hj).1
      have : i = j := by
        refine (List.getElem_inj (h₀ := by simpa using hil) (h₁ := by simpa using hjl) hn).1 ?_
        simp only [List.getElem_map]
        rw [(List.getElem?_eq_some_iff.1 he').2, (List.getElem?_eq_some_iff.1 hj).2, hbe]
      subst this; exact hi
    · intro hjd
      exact ⟨j, hjd, by rw [hj]; rfl⟩
  constructor
  · intro h0 j hj
    have hje : es.toList[j]? = some (es.toList[j]'(by omega)) := List.getElem?_eq_getElem (by omega)
    refine (key j _ hje).1 ?_
    have hempty : leftOf es seen = #[] := Array.eq_empty_of_size_eq_zero h0
    rw [leftOf, Array.filter_eq_empty_iff] at hempty
    have := hempty (es.toList[j]'(by omega)) (by simp)
    simpa using this
  · intro e hel
    simp only [leftOf, Array.toList_filter, List.mem_filter] at hel
    obtain ⟨j, hj, hje⟩ := List.mem_iff_getElem.1 hel.1
    have hj? : es.toList[j]? = some e := by rw [List.getElem?_eq_getElem hj, hje]
    have hl : (es.toList.map entOf)[j]? = (mEnt l)[j]? := by rw [he]
    rw [List.getElem?_map, hj?] at hl
    simp only [mEnt, List.getElem?_map, Option.map_some] at hl
    cases hlj : l[j]? with
    | none => rw [hlj] at hl; simp at hl
    | some p =>
      obtain ⟨k, v⟩ := p
      rw [hlj] at hl
      simp only [Option.map_some, Option.some.injEq, entOf, Prod.mk.injEq] at hl
      refine ⟨j, k, v, hlj, fun hd => ?_, hj?, hl.1, hl.2⟩
      have := (key j e hj?).2 hd
      simp at hel this
      exact hel.2 this
/-- The iterator's step: over, or one that has not come. -/
theorem nextR {i z : Nat} (x : Operand) (bi mb : Nat) (l : List (Int × Value)) (done : List Nat) (d : Option Tmp) (hg : ∀ rest, goes n c i L rest = true) (hd : (opAt c i).dst = d) (hop : (opAt c i).op = .next x false)
    (hx : ∀ rest, evalL L rest x = .pointer (some ⟨bi, 0, none⟩))
    (h0 : (∀ j, j < l.length → j ∈ done) → RT P n (putL d (.tuple #[.bool false]) L) (rngS bi mb l done :: H) c (i + 1) z Q)
    (h1 : ∀ j k v, l[j]? = some (k, v) → j ∉ done → RT P n (putL d (.tuple #[.bool true, .int .i64 k, v]) L) (rngS bi mb l (done ++ [j]) :: H) c (i + 1) z Q) : RT P n L (rngS bi mb l done :: H) c i (z + 1) Q := by
  have key : Step (ι := { o : Option (Nat × Int × Value) // match o with | none => ∀ j, j < l.length → j ∈ done | some (j, k, v) => l[j]? = some (k, v) ∧ j ∉ done }) P n L (rngS bi mb l done :: H) c i d
      (fun o => match o.1 with | none => .tuple #[.bool false] | some (_, k, v) => .tuple #[.bool true, .int .i64 k, v]) (fun o => match o.1 with | none => rngS bi mb l done :: H | some (j, _, _) => rngS bi mb l (done ++ [j]) :: H) := by
    refine valueS d _ _ hg hd ?_
    intro rest w _ hsat
    obtain ⟨G, ⟨⟨hne, es, ck, seen, hb, hi, hst, he, hs⟩, hF⟩⟩ := hsat.head
    obtain ⟨hl0, hl1⟩ := left_of he hs hst.2.1
    have hex : ∀ r w', (Instr.next (.pointer (some ⟨bi, 0, none⟩)) false (opAt c i).type).run P w = .ok r w' → (execOp (evalL L rest) (opAt c i)).run P w = .ok (.value r) w' := by
      intro r w' hr
      unfold execOp
      simp only [hop, hx rest, Sem.run_bind, Sem.run_map, hr]
      rfl
    rcases next_run (P := P) w (opAt c i).type mb bi ck seen es hb hi hst.1 with ⟨hz, hr⟩ | ⟨e, hel, w1, hw1, hr⟩
    · exact ⟨⟨none, hl0 hz⟩, w, hex _ _ hr, hsat⟩
    · obtain ⟨j, k, v, hlj, hjd, hje, hk, hv⟩ := hl1 e hel
      refine ⟨⟨some (j, k, v), hlj, hjd⟩, _, by rw [hex _ _ hr, hk, hv], ?_⟩
      have hos : w1.os = w.os ∧ w1.tape = w.tape ∧ w1.output = w.output := by rcases hw1 with rfl | rfl <;> exact ⟨rfl, rfl, rfl⟩
      refine hsat.change fun G' hG' => ⟨⟨hos.1, hos.2.1, hos.2.2, by simp, fun b hb' hn' => ?_⟩, G', ⟨⟨hne, es, ck, seen.push e.born, ?_, (heap_set hi).1, hst, he, ?_⟩, hG'.2⟩, fun _ h => .inl h⟩
      · exact (heap_set hi).2 b (fun h => hn' ((hG'.2 b).2 (.inr h)))
      · exact ((heap_set hi).2 mb (fun h => hne h.symm)).trans hb
      · simp only [Array.toList_push, List.map_append, List.map_cons, List.map_nil, hs]
        rw [hje]; rfl
  refine stepR key fun o => ?_
  obtain ⟨o, ho⟩ := o
  cases o with
  | none => exact h0 ho
  | some q => obtain ⟨j, k, v⟩ := q; exact h1 j k v ho.1 ho.2
/-- The round's key and value. -/
theorem entryY {i : Nat} (x : Operand) (bi mb : Nat) (l : List (Int × Value)) (done : List Nat) (j : Nat) (k : Int) (v : Value) (a : Nat) (d : Option Tmp) (hg : ∀ rest, goes n c i L rest = true) (hd : (opAt c i).dst = d) (hop : (opAt c i).op = .entry x)
    (hx : ∀ rest, evalL L rest x = .pointer (some ⟨bi, 0, none⟩)) (ha : H[a]? = some (rngS bi mb l (done ++ [j]))) (hl : l[j]? = some (k, v)) : Yld P n L (fun w => Sat w H) c i d (.tuple #[.int .i64 k, v]) := by
  refine ⟨hg, hd, fun rest w _ hs => ?_⟩
  obtain ⟨G, ⟨⟨hne, es, ck, seen, hb, hi, hst, he, hse⟩, hF⟩⟩ := (hs.pick a ha).head
  have hel : (es.toList.map entOf)[j]? = some (.int .i64 k, v) := by rw [he, mEnt, List.getElem?_map, hl]; rfl
  rw [List.getElem?_map] at hel
  obtain ⟨e, hje, hev⟩ := Option.map_eq_some_iff.1 hel
  simp only [entOf, Prod.mk.injEq] at hev
  have hseen : seen.back? = some e.born := by
    have h1 : (seen.toList.map some).getLast? = some (some e.born) := by
      rw [hse, List.map_append, List.map_cons, List.map_nil, List.getLast?_concat, hje]; rfl
    rw [List.getLast?_map] at h1
    obtain ⟨s, hs1, hs2⟩ := Option.map_eq_some_iff.1 h1
    rw [← Array.getLast?_toList, hs1, Option.some.inj hs2]
  have hf : es.find? (·.born == e.born) = some e := by rw [← Array.find?_toList]; exact find_born e es.toList hst.2.1 (List.mem_of_getElem? hje)
  have hr : (Instr.entry (.pointer (some ⟨bi, 0, none⟩))).run P w = .ok (.tuple #[.int .i64 k, v]) w := by
    simp only [Instr.entry, getObj, Sem.run_bind, Sem.run, hi, hb, Result.andThen, hseen, bne_self_eq_false, Bool.false_eq_true, if_false, hf, hev.1, hev.2]
    rfl
  unfold execOp
  simp only [hop, hx rest, Sem.run_bind, Sem.run_map, hr]
  rfl
theorem mlenY {S : World → Prop} {i : Nat} (t kt et : TypeId) (m : Operand) (mb : Nat) (l : List (Int × Value)) (d : Option Tmp) (hg : ∀ rest, goes n c i L rest = true) (hd : (opAt c i).dst = d) (hop : (opAt c i).op = .call { callee := .builtin .len, args := #[m], argTypes := #[t] })
    (hx : ∀ rest, evalL L rest m = .map (some mb)) (hm : P.underlying t = some (.map kt et)) (hS : ∀ w, S w → ∃ es ck, w.heap[mb]? = some (.map es ck) ∧ es.toList.map entOf = mEnt l) : Yld P n L S c i d (.int .i64 (l.length : Int)) := by
  refine ⟨hg, hd, fun rest w _ hs => ?_⟩
  obtain ⟨es, ck, hb, he⟩ := hS w hs
  have hlen : es.size = l.length := by simpa [mEnt] using congrArg List.length he
  have hr : ∀ ty, (Builtin.len_ #[t] ty #[.map (some mb)]).run P w = .ok (.int .i64 (l.length : Int)) w := fun ty => by
    simp [Builtin.len_, run_underlying hm, Go.MapKept.run_getObj_map hb, goInt, hlen]
  unfold execOp
  simp only [hop, resolve, invoke, builtin, Sem.run_bind, Sem.run_pure, Result.andThen_ok, List.map_toArray, List.map_cons, List.map_nil, hx rest, hr]
/-- A map without a key. -/
def delE (l : List (Int × Value)) (k : Int) : List (Int × Value) := l.eraseP (fun p => p.1 == k)
theorem lkI_erase {k : Int} : ∀ (l : List (Int × Value)) (i : Nat), (match lkI l k i with | some j => i ≤ j ∧ delE l k = l.eraseIdx (j - i) | none => delE l k = l)
  | [], i => by simp [lkI, delE]
  | p :: r, i => by
    have ih := lkI_erase (k := k) r (i + 1)
    simp only [lkI]
    by_cases c : (p.1 == k) = true
    · rw [if_pos c]
      simp [delE, List.eraseP_cons, c]
    · rw [if_neg c]
      have c' : (p.1 == k) = false := by simpa using c
      cases hr : lkI r k (i + 1) with
      | none =>
        rw [hr] at ih
        simp only [delE, List.eraseP_cons, c'] at ih ⊢
        simp [ih]
      | some j =>
        rw [hr] at ih
        simp only [delE, List.eraseP_cons, c'] at ih ⊢
        refine ⟨by omega, ?_⟩
        rw [show j - i = (j - (i + 1)) + 1 by omega, List.eraseIdx_cons_succ]
        simp [ih.2]
theorem map_erase {α β : Type} (f : α → β) : ∀ (l : List α) (i : Nat), (l.eraseIdx i).map f = (l.map f).eraseIdx i
  | [], _ => rfl
  | _ :: _, 0 => rfl
  | x :: l, i + 1 => by simp [map_erase f l i]
/-- An entry goes. -/
theorem delS {i : Nat} (t kt et : TypeId) (m k : Operand) (b : Nat) (kk : Int) (l : List (Int × Value)) (ats : Array TypeId) (hat : ats[0]? = some t) (hg : ∀ rest, goes n c i L rest = true) (hd : (opAt c i).dst = none) (hop : (opAt c i).op = .call { callee := .builtin .delete, args := #[m, k], argTypes := ats })
    (hx : ∀ rest, evalL L rest m = .map (some b)) (hix : ∀ rest, evalL L rest k = .int .i64 kk) (hm : P.underlying t = some (.map kt et)) (hk : P.underlying kt = some (.int .i64)) :
    Step (ι := Unit) P n L (mapS b l :: H) c i none (fun _ => .tuple #[]) (fun _ => mapS b (delE l kk) :: H) := by
  refine valueS (ι := Unit) none (fun _ => .tuple #[]) (fun _ => mapS b (delE l kk) :: H) hg hd ?_
  intro rest w _ hs
  obtain ⟨G, ⟨⟨es, ck, hb, hst, he⟩, hF⟩⟩ := hs.head
  have hf := run_findKey (P := P) (w := w) hk (findNow_int kk es.toList l 0 he)
  have hck : (Instr.checkKey es.isEmpty 10000 kt (.int .i64 kk)).run P w = .ok () w := run_checkKey hk (by simp [IsKey]) _ _
  have hle := lkI_erase (k := kk) l 0
  obtain ⟨es', hr, hst', he'⟩ : ∃ es', (∀ ty, (Builtin.delete_ ats ty #[.map (some b), .int .i64 kk]).run P w = .ok (.tuple #[]) { w with heap := w.heap.setIfInBounds b (.map es' ck) }) ∧ Stamped es' ck ∧ es'.toList.map entOf = mEnt (delE l kk) := by
    have hli : ∀ (l : List (Int × Value)) (i : Nat), (lkI l kk i).isSome = (lkE l kk).isSome := by
      intro l
      induction l with
      | nil => intro i; rfl
      | cons p r ih => intro i; simp only [lkI, lkE]; split; rfl; exact ih _
    have h1 := hli l 0
    cases hj : lkI l kk 0 with
    | none =>
      rw [hj] at hf hle
      refine ⟨es, fun ty => ?_, hst, by simp only at hle; rw [hle]; exact he⟩
      simp [Builtin.delete_, hat, run_underlying hm, Go.MapKept.run_getObj_map hb, hck, hf, run_setObj_map _ hb, Result.andThen]
    | some j =>
      rw [hj] at hf hle h1
      obtain ⟨v, hv⟩ := Option.isSome_iff_exists.1 h1.symm
      rw [hv] at hf
      refine ⟨es.eraseIdxIfInBounds j, fun ty => ?_, stamped_erase hst j, ?_⟩
      · simp [Builtin.delete_, hat, run_underlying hm, Go.MapKept.run_getObj_map hb, hck, hf, run_setObj_map _ hb, Result.andThen]
      · simp only at hle
        rw [hle.2]
        simp only [Nat.sub_zero, mEnt]
        rw [map_erase, show l.map (fun p => (Value.int .i64 p.1, p.2)) = mEnt l from rfl, ← he, ← map_erase]
        congr 1
        simp [Array.eraseIdxIfInBounds]
        split
        · simp
        · rename_i hnl; rw [List.eraseIdx_of_length_le]; simpa using hnl
  refine ⟨(), { w with heap := w.heap.setIfInBounds b (.map es' ck) }, ?_, ?_⟩
  · unfold execOp
    simp only [hop, resolve, invoke, builtin, Sem.run_bind, Sem.run_pure, Result.andThen_ok, List.map_toArray, List.map_cons, List.map_nil, hx rest, hix rest, hr]
  · exact hs.change fun G' hG' => ⟨⟨rfl, rfl, rfl, by simp, fun b' hb' hn' => (heap_set hb).2 b' (fun h => hn' ((hG'.2 b').2 h))⟩, G', ⟨⟨es', ck, (heap_set hb).1, hst', he'⟩, hG'.2⟩, fun _ h => .inl h⟩
end
end Go.Proofs.YtlhjibkkkhgonaaGreat.G
set_option linter.unusedVariables false
set_option linter.unusedSimpArgs false
namespace Go.Proofs.YtlhjibkkkhgonaaGreat
open Go.RowKit G Go.Extern.Stop Go.Stop Go.Extern
theorem isTypeOf (v : Value) (w : World) : (Extern.ReflectliteType.typeOf #[.iface 40 v]).run Tryz.prog w = .ok (.iface 112 (.agg #[typeHandle Tryz.prog 40])) w := by kernel_rfl
theorem isComparable (w : World) : ((Extern.ReflectliteType.method fun t => do Extern.Rtype.noPackHeld "Comparable" t; (fun a => Value.bool a.comparable) <$> typeInfo t) #[.agg #[typeHandle Tryz.prog 40]]).run Tryz.prog w = .ok (.bool true) w := by kernel_rfl
theorem noIsE (v : Value) (xT : TypeId) (w : World) : (Instr.typeAssert (.iface 40 v) xT 114 true).run Tryz.prog w = .ok (.tuple #[.nilIface, .bool false]) w := run_typeAssert_lacksB Tryz.underlying114 (by kernel_rfl) (by kernel_rfl) v xT w
theorem noUnwrapE (v : Value) (xT : TypeId) (w : World) : (Instr.typeAssert (.iface 40 v) xT 117 true).run Tryz.prog w = .ok (.tuple #[.nilIface, .bool false]) w := run_typeAssert_lacksB Tryz.underlying117 (by kernel_rfl) (by kernel_rfl) v xT w
theorem noUnwrapsE (v : Value) (xT : TypeId) (w : World) : (Instr.typeAssert (.iface 40 v) xT 119 true).run Tryz.prog w = .ok (.tuple #[.nilIface, .bool false]) w := run_typeAssert_lacksB Tryz.underlying119 (by kernel_rfl) (by kernel_rfl) v xT w
theorem isMeth (k : Nat) (v : Value) (w : World) : (Go.method (k + 1) 112 v "Comparable").run Tryz.prog w = .ok (152, v) w := by kernel_rfl
set_option maxHeartbeats 1000000 in
set_option maxRecDepth 100000 in
theorem is_errno (a b : Int) (w : World) :
    Calls Tryz.prog 18 #[.iface 40 (.int .i64 a), .iface 40 (.int .i64 b)] w fun e w' => e = .returned (.bool (a == b)) ∧ w' = w := by
  have h8 := @run_callFunc_extern Tryz.prog 37 _ Extern.ReflectliteType.typeOf Tryz.func37 (by kernel_rfl) (by kernel_rfl) (by kernel_rfl) (by kernel_rfl)
  have h32 := @run_callFunc_extern Tryz.prog 152 _ (Extern.ReflectliteType.method fun t => do Extern.Rtype.noPackHeld "Comparable" t; pure (.bool (← typeInfo t).comparable)) Tryz.func152 (by kernel_rfl) (by kernel_rfl) (by kernel_rfl) (by kernel_rfl)
  have tT := isTypeOf
  have cT := isComparable
  obtain ⟨hh, hhe⟩ : ∃ h, h = typeHandle Tryz.prog 40 := ⟨_, rfl⟩
  rw [← hhe] at tT cT
  clear hhe
  have mR := isMeth
  have nE := noIsE
  have uE := noUnwrapE
  have vE := noUnwrapsE
  have heq := Go.Lib.run_eql_iface_int (P := Tryz.prog) (t := 29) (tx := 40) (k := .i64) w a b Tryz.underlying29 (by kernel_rfl) Tryz.underlying40
  go_enter Tryz.func18, Tryz.ntmps18
  go_wp2
  refine wp_loop_rounds 1 ?_
  rw [rounds_succ]
  cases hab : (a == b) with
  | true =>
    go_wp2
    go_ret
    exact ⟨by simp [hab], by simp⟩
  | false =>
    go_wp2
    go_ret
    exact ⟨by simp [hab], by simp⟩
end Go.Proofs.YtlhjibkkkhgonaaGreat
set_option linter.unusedVariables false
set_option linter.unusedSimpArgs false
namespace Go.Proofs.YtlhjibkkkhgonaaGreat
open Go.RowKit G
theorem isErr_walk (H : List SP) (a b : Int) : ∀ w, Sat w H → Calls Tryz.prog 18 #[.iface 40 (.int .i64 a), .iface 40 (.int .i64 b)] w (Ret (ι := Unit) (fun _ => .bool (a == b)) fun _ => H) := fun w hs =>
  (is_errno a b w).mono fun e w' ⟨he, hw⟩ => ⟨(), he, hw ▸ hs⟩
theorem eqFields_int {P : Program} (w : World) (d : Nat) (xs ys : Array Value) (f : Field) (fs : List Field) (k k' : IntKind) (a b : Int) (hn : (f.name == "_") = false) (hu : P.underlying f.type = some (.int k')) (hp : P.plainKey f.type = true) (hx : xs[f.offset]? = some (.int k a)) (hy : ys[f.offset]? = some (.int k b)) :
    (Op.eqFields (d + 1) xs ys (f :: fs)).run P w = if (a == b) = true then (Op.eqFields (d + 1) xs ys fs).run P w else .ok false w := by
  have hn' : f.name ≠ "_" := by simpa using hn
  rw [Op.eqFields, if_pos hn']
  simp only [Sem.run_bind, run_part_plain w hp hx, run_part_plain w hp hy, Result.andThen_ok, run_equalIn_int w d f.type k k' a b hu]
  cases h : (a == b) <;> simp
theorem SatF.unpick : ∀ {l : List SP} (i : Nat) {P : SP} {w : World} {F : Nat → Prop}, l[i]? = some P → SatF (P :: l.eraseIdx i) w F → SatF l w F
  | [], i, P, w, F, h, _ => by simp at h
  | Q :: l, 0, P, w, F, h, hs => by simp at h; subst h; exact hs
  | Q :: l, i + 1, P, w, F, h, hs => by
    obtain ⟨G, h1, h2, h3⟩ := SatF.swap hs
    exact ⟨G, h1, h2, SatF.unpick i (by simpa using h) h3⟩
theorem same_at {P : Program} {f : FuncId} {vs : Array Value} {v : Value} {X : SP} {H : List SP} (j : Nat) (hj : H[j]? = some X) (h : ∀ w, Sat w (X :: H.eraseIdx j) → Calls P f vs w (Ret (ι := Unit) (fun _ => v) fun _ => X :: H.eraseIdx j)) : ∀ w, Sat w H → Calls P f vs w (Ret (ι := Unit) (fun _ => v) fun _ => H) := fun w hs =>
  (h w (hs.pick j hj)).mono fun e w' ⟨p, he, hx⟩ => ⟨p, he, SatF.unpick j hj hx⟩
theorem SatF.unpickSet : ∀ {l : List SP} (i : Nat) {P Y : SP} {w : World} {F : Nat → Prop}, l[i]? = some P → SatF (Y :: l.eraseIdx i) w F → SatF (l.set i Y) w F
  | [], i, P, Y, w, F, h, _ => by simp at h
  | Q :: l, 0, P, Y, w, F, h, hs => hs
  | Q :: l, i + 1, P, Y, w, F, h, hs => by
    obtain ⟨G, h1, h2, h3⟩ := SatF.swap hs
    exact ⟨G, h1, h2, SatF.unpickSet i (by simpa using h) h3⟩
theorem chg_at {ι : Type} {P : Program} {f : FuncId} {vs : Array Value} {rv : ι → Value} {X : SP} {Y : ι → SP} {H : List SP} (j : Nat) (hj : H[j]? = some X) (h : ∀ w, Sat w (X :: H.eraseIdx j) → Calls P f vs w (Ret rv fun x => Y x :: H.eraseIdx j)) : ∀ w, Sat w H → Calls P f vs w (Ret rv fun x => H.set j (Y x)) := fun w hs =>
  (h w (hs.pick j hj)).mono fun e w' ⟨p, he, hx⟩ => ⟨p, he, SatF.unpickSet j hj hx⟩
def entEq (a b : Int × Int) : Bool := a.1 == b.1 && a.2 == b.2
theorem ent_eqv (a b : Int × Int) (w : World) : (Op.equalIn 10000 104 (.agg #[.int .i64 a.1, .int .i64 a.2]) (.agg #[.int .i64 b.1, .int .i64 b.2])).run Tryz.prog w = .ok (entEq a b) w := by
  unfold entEq
  rw [run_equalIn_struct w 9999 _ _ _ (by kernel_rfl) (by kernel_rfl)]
  have hl : (Tryz.prog.fieldsOf 104).toList = [(Tryz.prog.fieldsOf 104).toList.getD 0 default, (Tryz.prog.fieldsOf 104).toList.getD 1 default] := by kernel_rfl
  rw [hl, eqFields_int w 9998 _ _ _ _ .i64 .i64 a.1 b.1 (by kernel_rfl) (by kernel_rfl) (by kernel_rfl) (by kernel_rfl) (by kernel_rfl), eqFields_int w 9998 _ _ _ _ .i64 .i64 a.2 b.2 (by kernel_rfl) (by kernel_rfl) (by kernel_rfl) (by kernel_rfl) (by kernel_rfl)]
  cases a.1 == b.1 <;> cases a.2 == b.2 <;> simp [Op.eqFields]
theorem ent_eql (a b : Int × Int) (x y : Operand) (w : World) : (do eqGuard .eql 104 x y (.agg #[.int .i64 a.1, .int .i64 a.2]) (.agg #[.int .i64 b.1, .int .i64 b.2]); binOp .eql 104 (.agg #[.int .i64 a.1, .int .i64 a.2]) (.agg #[.int .i64 b.1, .int .i64 b.2]) : Sem Value).run Tryz.prog w = .ok (.bool (entEq a b)) w := by
  have h := ent_eqv a b w
  rw [Sem.run_bind, run_eqGuard_agg w _ _ _ _ _ _ (by kernel_rfl)]
  simp only [Result.andThen_ok]
  rw [run_eql_struct, h]
  rfl
theorem ent_neq (a b : Int × Int) (x y : Operand) (w : World) : (do eqGuard .neq 104 x y (.agg #[.int .i64 a.1, .int .i64 a.2]) (.agg #[.int .i64 b.1, .int .i64 b.2]); binOp .neq 104 (.agg #[.int .i64 a.1, .int .i64 a.2]) (.agg #[.int .i64 b.1, .int .i64 b.2]) : Sem Value).run Tryz.prog w = .ok (.bool (!entEq a b)) w := by
  have h := ent_eqv a b w
  rw [Sem.run_bind, run_eqGuard_agg w _ _ _ _ _ _ (by kernel_rfl)]
  simp only [Result.andThen_ok]
  rw [run_neq_struct, h]
  rfl
theorem put_ok {l' : List (Int × Int)} {room : Int} {l : List (Int × Int)} {p id : Int} (h : putE room l p id = (0, l')) (hsr : SrtE l) (hl : l.length < 1000000) (H : List SP) (b : Nat) : ∀ w, Sat w (idxS b room l :: H) → Calls Tryz.prog 67 #[.pointer (some ⟨b, 0, none⟩), .int .i64 p, .int .i64 id] w (Ret (ι := Unit) (fun _ => .nilIface) fun _ => idxS b room l' :: H) := by
  have := put_idx H b room l p id hsr hl
  rw [h] at this
  exact this
theorem put_no {e : Int} {room : Int} {l : List (Int × Int)} {p id : Int} (h : putE room l p id = (e, l)) (he : e ≠ 0) (hsr : SrtE l) (hl : l.length < 1000000) (H : List SP) (b : Nat) : ∀ w, Sat w (idxS b room l :: H) → Calls Tryz.prog 67 #[.pointer (some ⟨b, 0, none⟩), .int .i64 p, .int .i64 id] w (Ret (ι := Unit) (fun _ => .iface 40 (.int .i64 e)) fun _ => idxS b room l :: H) := by
  have := put_idx H b room l p id hsr hl
  rw [h] at this
  simp only [pqErr, if_neg he] at this
  exact this
theorem drop_ok {l' : List (Int × Int)} {room : Int} {l : List (Int × Int)} {id : Int} (h : dropE l id = (0, l')) (hl : l.length < 1000000) (H : List SP) (b : Nat) : ∀ w, Sat w (idxS b room l :: H) → Calls Tryz.prog 69 #[.pointer (some ⟨b, 0, none⟩), .int .i64 id] w (Ret (ι := Unit) (fun _ => .nilIface) fun _ => idxS b room l' :: H) := by
  have := drop_idx H b room l id hl
  rw [h] at this
  exact this
theorem drop_no {room : Int} {l : List (Int × Int)} {id : Int} (h : dropE l id = (13, l)) (hl : l.length < 1000000) (H : List SP) (b : Nat) : ∀ w, Sat w (idxS b room l :: H) → Calls Tryz.prog 69 #[.pointer (some ⟨b, 0, none⟩), .int .i64 id] w (Ret (ι := Unit) (fun _ => .iface 40 (.int .i64 13)) fun _ => idxS b room l :: H) := by
  have := drop_idx H b room l id hl
  rw [h] at this
  exact this
theorem rekey_ok {l' : List (Int × Int)} {room : Int} {l : List (Int × Int)} {id p : Int} (h : rekeyE l id p = (0, l')) (hsr : SrtE l) (hl : l.length < 1000000) (H : List SP) (b : Nat) : ∀ w, Sat w (idxS b room l :: H) → Calls Tryz.prog 73 #[.pointer (some ⟨b, 0, none⟩), .int .i64 id, .int .i64 p] w (Ret (ι := Unit) (fun _ => .nilIface) fun _ => idxS b room l' :: H) := by
  have := rekey_idx H b room l id p hsr hl
  rw [h] at this
  exact this
theorem shift_is {l' : List (Int × Int)} {room : Int} {l : List (Int × Int)} {n : Int} (h : shiftE l n = l') (hsr : SrtE l') (hl : l.length ≤ 64) (H : List SP) (b : Nat) : ∀ w, Sat w (idxS b room l :: H) → Calls Tryz.prog 72 #[.pointer (some ⟨b, 0, none⟩), .int .i64 n] w (Ret (ι := Unit) (fun _ => .tuple #[]) fun _ => idxS b room l' :: H) := by
  have := shift_idx H b room l n hl (by rw [h]; exact hsr)
  rw [h] at this
  exact this
end Go.Proofs.YtlhjibkkkhgonaaGreat
