/- passq: New, isPass, Min, Len, Pass. Conditions: none. -/
import Derived.Test.YtjbjngikaiggdaaGreatPq1
set_option linter.unusedVariables false
set_option linter.unusedSimpArgs false
namespace Go.Proofs.YtjbjngikaiggdaaGreat
open Go.RowKit G
/-- An index in memory: its entries, its room. -/
def idxS (b : Nat) (room : Int) (l : List (Int × Int)) : SP := exS fun p : Option Addr × Nat => two (blk b 81 [.slice p.1 l.length p.2, .int .i64 room]) (row slE 65 (.slice p.1 l.length p.2) l)
theorem Sat.idx {w : World} {H : List SP} {b : Nat} {A : Option Addr} {cap : Nat} {room : Int} {l : List (Int × Int)} (h : Sat w (blk b 81 [.slice A l.length cap, .int .i64 room] :: row slE 65 (.slice A l.length cap) l :: H)) : Sat w (idxS b room l :: H) := Sat.closeEx (A, cap) (Sat.closeTwo h)
theorem idx_open {Φ : World → Prop} {H : List SP} {b : Nat} {room : Int} {l : List (Int × Int)} (h : ∀ A cap w, Sat w (blk b 81 [.slice A l.length cap, .int .i64 room] :: row slE 65 (.slice A l.length cap) l :: H) → Φ w) : ∀ w, Sat w (idxS b room l :: H) → Φ w := fun w hs => by
  obtain ⟨⟨A, cap⟩, h2⟩ := Sat.openEx hs
  exact h A cap w (Sat.openTwo h2)
theorem idx_same {H : List SP} {b : Nat} {room : Int} {l : List (Int × Int)} {P : Program} {f : FuncId} {vs : Array Value} {v : Value} (h : ∀ A cap w, Sat w (blk b 81 [.slice A l.length cap, .int .i64 room] :: row slE 65 (.slice A l.length cap) l :: H) → Calls P f vs w (Ret (ι := Unit) (fun _ => v) fun _ => blk b 81 [.slice A l.length cap, .int .i64 room] :: row slE 65 (.slice A l.length cap) l :: H)) :
    ∀ w, Sat w (idxS b room l :: H) → Calls P f vs w (Ret (ι := Unit) (fun _ => v) fun _ => idxS b room l :: H) :=
  idx_open fun A cap w hs => (h A cap w hs).mono fun e w' ⟨_, he, hx⟩ => ⟨(), he, Sat.idx hx⟩
theorem find_idx (H : List SP) (b : Nat) (room : Int) (l : List (Int × Int)) (id : Int) (hl : l.length ≤ 1000000) : ∀ w, Sat w (idxS b room l :: H) → Calls Tryz.prog 45 #[.pointer (some ⟨b, 0, none⟩), .int .i64 id] w (Ret (ι := Unit) (fun _ => .int .i64 (findI l id)) fun _ => idxS b room l :: H) :=
  idx_same fun A cap => find_walk H b A cap room l id hl
theorem Sat.erase {l : List SP} {w : World} (i : Nat) {P : SP} (hi : l[i]? = some P) (h : Sat w l) : Sat w (l.eraseIdx i) := (h.pick i hi).tail
def isPassB (n : Int) : Bool := decide (n ≥ 0) && decide (n ≤ 1099511627776)
set_option maxRecDepth 100000 in
theorem isPass_walk (H : List SP) (n : Int) : ∀ w, Sat w H → Calls Tryz.prog 44 #[.int .i64 n] w (Ret (ι := Unit) (fun _ => .bool (isPassB n)) fun _ => H) := by
  refine enterG (fn := Tryz.f44) 9 [.int .i64 n] Tryz.func44 (by kernel_rfl) (by kernel_rfl) (by kernel_rfl) ?_
  refine seqR (by kernel_rfl) ?_
  refine regionR 1 (by kernel_rfl) (by kernel_rfl) ?_
  refine (run0 (z := 0) 1 [0, 2] [(0, .int .i64 n), (2, .bool false)] (fun _ => by kernel_rfl) (endR ?_) : RT _ _ _ _ _ _ 1 _)
  refine seqR (by kernel_rfl) ?_
  refine regionR 7 (by kernel_rfl) (by kernel_rfl) ?_
  refine (run0 (z := 4) 3 [0, 2, 5] [(0, .int .i64 n), (2, .bool false), (5, .bool (decide (n ≥ 0)))] (fun _ => by kernel_rfl) ?_ : RT _ _ _ _ _ _ 7 _)
  refine (segR (ι := Unit) (z := 1) 3 (fun _ => [(2, .bool false), (8, .bool ((decide (n ≥ 0)) && (decide (n ≤ 1099511627776))))]) (fun _ => (H)) ?_ (fun _ => ?_) : RT _ _ _ _ _ _ 4 _)
  · cases hg3 : (decide (n ≥ 0)) with
    | true =>
      refine (run0 (z := 0) 3 [2, 8] [(2, .bool false), (8, .bool (decide (n ≤ 1099511627776)))] (fun _ => by kernel_rfl) (endR ?_) : RT _ _ _ _ _ _ 3 _)
      refine PT.keep (L' := [(2, .bool false), (8, .bool (true && (decide (n ≤ 1099511627776))))]) [2, 8] rfl ?_
      exact midR () rfl rfl
    | false =>
      refine (run0 (z := 0) 3 [2, 8] [(2, .bool false), (8, .bool false)] (fun _ => by kernel_rfl) (endR ?_) : RT _ _ _ _ _ _ 3 _)
      refine PT.keep (L' := [(2, .bool false), (8, .bool (false && (decide (n ≤ 1099511627776))))]) [2, 8] rfl ?_
      exact midR () rfl rfl
  refine (run0 (z := 0) 1 [2] [(2, .bool ((decide (n ≥ 0)) && (decide (n ≤ 1099511627776))))] (fun _ => by kernel_rfl) (endR ?_) : RT _ _ _ _ _ _ 1 _)
  refine retR (by kernel_rfl) ?_
  refine done0 (.bool ((decide (n ≥ 0)) && (decide (n ≤ 1099511627776)))) (fun _ => by kernel_rfl) (fun w hs => ?_) .ret (.inr rfl)
  exact ⟨(), rfl, hs⟩
def roomOf (r : Int) : Int := mnI (mxI r 0) 64
set_option maxRecDepth 100000 in
theorem new_walk (H : List SP) (r : Int) : ∀ w, Sat w H → Calls Tryz.prog 17 #[.int .i64 r] w (Ret (ι := Nat) (fun b => .pointer (some ⟨b, 0, none⟩)) fun b => idxS b (roomOf r) [] :: H) := by
  refine enterG (fn := Tryz.f17) 8 [.int .i64 r] Tryz.func17 (by kernel_rfl) (by kernel_rfl) (by kernel_rfl) ?_
  refine seqR (by kernel_rfl) ?_
  refine regionR 1 (by kernel_rfl) (by kernel_rfl) ?_
  refine (run0 (z := 0) 1 [0, 2] [(0, .int .i64 r), (2, .pointer none)] (fun _ => by kernel_rfl) (endR ?_) : RT _ _ _ _ _ _ 1 _)
  refine seqR (by kernel_rfl) ?_
  refine regionR 6 (by kernel_rfl) (by kernel_rfl) ?_
  refine (run0 (z := 2) 4 [2, 6] [(2, .pointer none), (6, .agg #[.slice none 0 0, .int .i64 (mnI (mxI r 0) 64)])] (fun _ => by kernel_rfl) ?_ : RT _ _ _ _ _ _ 6 _)
  refine (stepR (z := 1) (newS 81 [.slice none 0 0, .int .i64 (mnI (mxI r 0) 64)] (some 7) (fun b => .pointer (some ⟨b, 0, none⟩)) (fun _ _ => by kernel_rfl)) (fun b1 => ?_) : RT _ _ _ _ _ _ 2 _)
  refine (run0 (z := 0) 1 [2] [(2, .pointer (some ⟨b1, 0, none⟩))] (fun _ => by kernel_rfl) (endR ?_) : RT _ _ _ _ _ _ 1 _)
  refine retR (by kernel_rfl) ?_
  refine done0 (.pointer (some ⟨b1, 0, none⟩)) (fun _ => by kernel_rfl) (fun w hs => ?_) .ret (.inr rfl)
  exact ⟨b1, rfl, Sat.idx (A := none) (cap := 0) (SatF.swap (Sat.rowNil hs))⟩
set_option maxRecDepth 100000 in
theorem len_walk (H : List SP) (b : Nat) (A : Option Addr) (cap : Nat) (room : Int) (l : List (Int × Int)) : ∀ w, Sat w (blk b 81 [.slice A l.length cap, .int .i64 room] :: row slE 65 (.slice A l.length cap) l :: H) → Calls Tryz.prog 35 #[.pointer (some ⟨b, 0, none⟩)] w (Ret (ι := Unit) (fun _ => .int .i64 (l.length : Int)) fun _ => blk b 81 [.slice A l.length cap, .int .i64 room] :: row slE 65 (.slice A l.length cap) l :: H) := by
  refine enterG (fn := Tryz.f35) 8 [.pointer (some ⟨b, 0, none⟩)] Tryz.func35 (by kernel_rfl) (by kernel_rfl) (by kernel_rfl) ?_
  refine seqR (by kernel_rfl) ?_
  refine regionR 1 (by kernel_rfl) (by kernel_rfl) ?_
  refine (run0 (z := 0) 1 [0, 2] [(0, .pointer (some ⟨b, 0, none⟩)), (2, .int .i64 0)] (fun _ => by kernel_rfl) (endR ?_) : RT _ _ _ _ _ _ 1 _)
  refine seqR (by kernel_rfl) ?_
  refine regionR 6 (by kernel_rfl) (by kernel_rfl) ?_
  refine (runR (H := (blk b 81 [.slice A l.length cap, .int .i64 room] :: row slE 65 (.slice A l.length cap) l :: H)) (z := 0) 6 [2] [(2, .int .i64 (l.length : Int))] [(⟨b, 0, none⟩, .slice A l.length cap)] (hasC (blkAt (T := 81) (cs := [.slice A l.length cap, .int .i64 room]) 0 rfl rfl) has0) (fun _ => by kernel_rfl) (endR ?_) : RT _ _ _ _ _ _ 6 _)
  refine retR (by kernel_rfl) ?_
  refine done0 (.int .i64 (l.length : Int)) (fun _ => by kernel_rfl) (fun w hs => ?_) .ret (.inr rfl)
  exact ⟨(), rfl, hs⟩
theorem len_idx (H : List SP) (b : Nat) (room : Int) (l : List (Int × Int)) : ∀ w, Sat w (idxS b room l :: H) → Calls Tryz.prog 35 #[.pointer (some ⟨b, 0, none⟩)] w (Ret (ι := Unit) (fun _ => .int .i64 (l.length : Int)) fun _ => idxS b room l :: H) :=
  idx_same fun A cap => len_walk H b A cap room l
def minE (l : List (Int × Int)) : (Int × Int) × Bool := match l with | [] => ((0, 0), false) | e :: _ => (e, true)
set_option maxRecDepth 100000 in
theorem min_walk (H : List SP) (b : Nat) (A : Option Addr) (cap : Nat) (room : Int) (l : List (Int × Int)) : ∀ w, Sat w (blk b 81 [.slice A l.length cap, .int .i64 room] :: row slE 65 (.slice A l.length cap) l :: H) → Calls Tryz.prog 23 #[.pointer (some ⟨b, 0, none⟩)] w (Ret (ι := Unit) (fun _ => .tuple #[.agg #[.int .i64 (minE l).1.1, .int .i64 (minE l).1.2], .bool (minE l).2]) fun _ => blk b 81 [.slice A l.length cap, .int .i64 room] :: row slE 65 (.slice A l.length cap) l :: H) := by
  refine enterG (fn := Tryz.f23) 17 [.pointer (some ⟨b, 0, none⟩)] Tryz.func23 (by kernel_rfl) (by kernel_rfl) (by kernel_rfl) ?_
  refine seqR (by kernel_rfl) ?_
  refine regionR 2 (by kernel_rfl) (by kernel_rfl) ?_
  refine (stepR (z := 1) (newS 65 [.int .i64 0, .int .i64 0] (some 2) (fun b => .pointer (some ⟨b, 0, none⟩)) (fun _ _ => by kernel_rfl)) (fun b1 => ?_) : RT _ _ _ _ _ _ 2 _)
  refine (run0 (z := 0) 1 [2, 0, 3] [(2, .pointer (some ⟨b1, 0, none⟩)), (0, .pointer (some ⟨b, 0, none⟩)), (3, .bool false)] (fun _ => by kernel_rfl) (endR ?_) : RT _ _ _ _ _ _ 1 _)
  refine seqR (by kernel_rfl) ?_
  refine seqR (by kernel_rfl) ?_
  refine regionR 6 (by kernel_rfl) (by kernel_rfl) ?_
  refine (runR (H := (blk b1 65 [.int .i64 0, .int .i64 0] :: blk b 81 [.slice A l.length cap, .int .i64 room] :: row slE 65 (.slice A l.length cap) l :: H)) (z := 0) 6 [2, 0, 3, 9] [(2, .pointer (some ⟨b1, 0, none⟩)), (0, .pointer (some ⟨b, 0, none⟩)), (3, .bool false), (9, .bool ((l.length : Int) == 0))] [(⟨b, 0, none⟩, .slice A l.length cap)] (hasC (blkAt (T := 81) (cs := [.slice A l.length cap, .int .i64 room]) 1 rfl rfl) has0) (fun _ => by kernel_rfl) (endR ?_) : RT _ _ _ _ _ _ 6 _)
  refine condR (b := (l.length : Int) == 0) (by kernel_rfl) (fun _ => by kernel_rfl) (fun h1 => ?_) (fun h1 => ?_)
  · skip
    have hl0 : (l.length : Int) = 0 := eq_of_beq h1
    obtain rfl : l = [] := List.eq_nil_of_length_eq_zero (by omega)
    refine seqR (by kernel_rfl) ?_
    refine regionR 3 (by kernel_rfl) (by kernel_rfl) ?_
    refine (run0 (z := 2) 1 [2, 0, 3, 10] [(2, .pointer (some ⟨b1, 0, none⟩)), (0, .pointer (some ⟨b, 0, none⟩)), (3, .bool false), (10, .agg #[.int .i64 0, .int .i64 0])] (fun _ => by kernel_rfl) ?_ : RT _ _ _ _ _ _ 3 _)
    refine (stepR (z := 1) (storeS [(0, .int .i64 0), (1, .int .i64 0)] [.int .i64 0, .int .i64 0] (fun _ => by kernel_rfl) (by kernel_rfl) (by kernel_rfl)) (fun _ => ?_) : RT _ _ _ _ _ _ 2 _)
    refine (run0 (z := 0) 1 [2, 0, 3] [(2, .pointer (some ⟨b1, 0, none⟩)), (0, .pointer (some ⟨b, 0, none⟩)), (3, .bool false)] (fun _ => by kernel_rfl) (endR ?_) : RT _ _ _ _ _ _ 1 _)
    refine retR (by kernel_rfl) ?_
    refine thenV ?_
    refine doneG (.tuple #[.agg #[.int .i64 0, .int .i64 0], .bool false]) [(⟨b1, 0, none⟩, .int .i64 0), (⟨b1, 1, none⟩, .int .i64 0)] (hasC (blkAt (T := 65) (cs := [.int .i64 0, .int .i64 0]) 0 rfl rfl) (hasC (blkAt (T := 65) (cs := [.int .i64 0, .int .i64 0]) 0 rfl rfl) has0)) (fun _ => by kernel_rfl) (fun w hs => ?_) .ret (.inr rfl)
    exact ⟨(), rfl, hs.tail⟩
  · skip
    have hl0 : ¬ (l.length : Int) = 0 := beq_eq_false_iff_ne.1 h1
    obtain ⟨e, r, rfl⟩ : ∃ e r, l = e :: r := List.exists_cons_of_length_pos (by omega)
    refine PT.know (KR.isSome (s := ⟨A, cap, e :: r⟩) (rowKRat 2 rfl) (by simp)) ?_
    rintro ⟨sb, so, hA⟩
    dsimp only at hA
    subst hA
    refine skipR (by kernel_rfl) ?_
    refine seqR (by kernel_rfl) ?_
    refine regionR 8 (by kernel_rfl) (by kernel_rfl) ?_
    refine (runR (H := (blk b1 65 [.int .i64 0, .int .i64 0] :: blk b 81 [.slice (some ⟨sb, so, none⟩) ((e :: r).length) cap, .int .i64 room] :: row slE 65 (.slice (some ⟨sb, so, none⟩) (e :: r).length cap) (e :: r) :: H)) (z := 4) 4 [2, 3, 14] [(2, .pointer (some ⟨b1, 0, none⟩)), (3, .bool false), (14, .slice (some ⟨sb, so, none⟩) ((e :: r).length) cap)] [(⟨b, 0, none⟩, .slice (some ⟨sb, so, none⟩) ((e :: r).length) cap)] (hasC (blkAt (T := 81) (cs := [.slice (some ⟨sb, so, none⟩) ((e :: r).length) cap, .int .i64 room]) 1 rfl rfl) has0) (fun _ => by kernel_rfl) ?_ : RT _ _ _ _ _ _ 8 _)
    refine (stepR (z := 3) (yldS (idxY 79 (.tmp 14) (.const (.int .i64 0)) sb so ((e :: r).length) cap 0 2 65 0 .i64 (some 15) (fun _ => by kernel_rfl) (by kernel_rfl) (by kernel_rfl) (fun _ => by kernel_rfl) (fun _ => by kernel_rfl) Tryz.underlying79 (by kernel_rfl) (by first | rfl | assumption | simp) (by first | omega | (simp; done) | (simp; omega) | (simp at *; omega)))) (fun _ => ?_) : RT _ _ _ _ _ _ 4 _)
    refine (runR (H := (blk b1 65 [.int .i64 0, .int .i64 0] :: blk b 81 [.slice (some ⟨sb, so, none⟩) ((e :: r).length) cap, .int .i64 room] :: row slE 65 (.slice (some ⟨sb, so, none⟩) (e :: r).length cap) (e :: r) :: H)) (z := 2) 1 [2, 3, 16] [(2, .pointer (some ⟨b1, 0, none⟩)), (3, .bool false), (16, .agg #[.int .i64 e.1, .int .i64 e.2])] [(⟨sb, so + 0 * 2, none⟩, .int .i64 e.1), (⟨sb, so + 0 * 2 + 1, none⟩, .int .i64 e.2)] (hasC ((rowKRat (xs := e :: r) (A := some ⟨sb, so, none⟩) (k := cap) (E := slE) (T := 65) 2 rfl).cell rfl (i := 0) (x := e) rfl (j := 0) rfl) (hasC ((rowKRat (xs := e :: r) (A := some ⟨sb, so, none⟩) (k := cap) (E := slE) (T := 65) 2 rfl).cell rfl (i := 0) (x := e) rfl (j := 1) rfl) has0)) (fun _ => by kernel_rfl) ?_ : RT _ _ _ _ _ _ 3 _)
    refine (stepR (z := 1) (storeS [(0, .int .i64 e.1), (1, .int .i64 e.2)] [.int .i64 e.1, .int .i64 e.2] (fun _ => by kernel_rfl) (by kernel_rfl) (by kernel_rfl)) (fun _ => ?_) : RT _ _ _ _ _ _ 2 _)
    refine (run0 (z := 0) 1 [2, 3] [(2, .pointer (some ⟨b1, 0, none⟩)), (3, .bool true)] (fun _ => by kernel_rfl) (endR ?_) : RT _ _ _ _ _ _ 1 _)
    refine retR (by kernel_rfl) ?_
    refine doneG (.tuple #[.agg #[.int .i64 e.1, .int .i64 e.2], .bool true]) [(⟨b1, 0, none⟩, .int .i64 e.1), (⟨b1, 1, none⟩, .int .i64 e.2)] (hasC (blkAt (T := 65) (cs := [.int .i64 e.1, .int .i64 e.2]) 0 rfl rfl) (hasC (blkAt (T := 65) (cs := [.int .i64 e.1, .int .i64 e.2]) 0 rfl rfl) has0)) (fun _ => by kernel_rfl) (fun w hs => ?_) .ret (.inr rfl)
    exact ⟨(), rfl, hs.tail⟩
theorem min_idx (H : List SP) (b : Nat) (room : Int) (l : List (Int × Int)) : ∀ w, Sat w (idxS b room l :: H) → Calls Tryz.prog 23 #[.pointer (some ⟨b, 0, none⟩)] w (Ret (ι := Unit) (fun _ => .tuple #[.agg #[.int .i64 (minE l).1.1, .int .i64 (minE l).1.2], .bool (minE l).2]) fun _ => idxS b room l :: H) :=
  idx_same fun A cap => min_walk H b A cap room l
theorem findI_cases (l : List (Int × Int)) (id : Int) : (findI l id = -1 ∧ ∀ e ∈ l, e.2 ≠ id) ∨ ∃ (i : Nat) (e : Int × Int), findI l id = i ∧ l[i]? = some e ∧ e.2 = id ∧ ∀ v e, v < i → l[v]? = some e → e.2 ≠ id := by
  unfold findI
  cases h : l.findIdx? (fun e => e.2 == id) with
  | none => exact .inl ⟨rfl, fun e he => by simpa using List.findIdx?_eq_none_iff.1 h e he⟩
  | some i =>
    right
    obtain ⟨h1, h2, h3⟩ := List.findIdx?_eq_some_iff_getElem.1 h
    refine ⟨i, l[i], rfl, by simp, by simpa using h2, fun v e hv hve => ?_⟩
    obtain ⟨hvl, rfl⟩ := List.getElem?_eq_some_iff.1 hve
    have := h3 v hv
    simpa using this
def passI (l : List (Int × Int)) (id : Int) : Int × Bool := if findI l id < 0 then (0, false) else ((l.getD (findI l id).toNat (0, 0)).1, true)
end Go.Proofs.YtjbjngikaiggdaaGreat
