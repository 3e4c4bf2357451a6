/- slices.SortFunc of entries that are in order: it changes nothing. Conditions: the row is in order. -/
import Derived.Test.YtjbjngikaiggdaaGreatPq4
import Derived.Test.YtjbjngikaiggdaaGreatBit
set_option linter.unusedVariables false
set_option linter.unusedSimpArgs false
namespace Go.Proofs.YtjbjngikaiggdaaGreat
open Go.RowKit G Go.Lib
theorem SrtE.not {l : List (Int × Int)} (h : SrtE l) {u v : Nat} {x y : Int × Int} (hu : l[u]? = some x) (hv : l[v]? = some y) (huv : u < v) : decide (byI (y.1, y.2) (x.1, x.2) < 0) = false :=
  decide_eq_false fun hl => eLt_irrefl x (eLt_trans (h.at hu hv huv) ((byI_lt y x).1 hl))
set_option maxRecDepth 100000 in
theorem order2_walk (H : List SP) (s : SV (Int × Int)) (hk : KR H slE s) (hsr : SrtE s.l) (u v : Nat) (huv : u < v) (hv : v < s.l.length) (q : Value) : ∀ w, Sat w H → Calls Tryz.prog 91 #[.slice s.a s.l.length s.c, .int .i64 (u : Int), .int .i64 (v : Int), q, .func (.func 49) #[] #[]] w (Ret (ι := Unit) (fun _ => .tuple #[.int .i64 (u : Int), .int .i64 (v : Int)]) fun _ => H) := by
  obtain ⟨x, hx⟩ : ∃ x, s.l[u]? = some x := ⟨s.l[u]'(by omega), by simp⟩
  obtain ⟨y, hy⟩ : ∃ y, s.l[v]? = some y := ⟨s.l[v]'(by omega), by simp⟩
  refine enterG (fn := Tryz.f91) 32 [.slice s.a s.l.length s.c, .int .i64 (u : Int), .int .i64 (v : Int), q, .func (.func 49) #[] #[]] Tryz.func91 (by kernel_rfl) (by kernel_rfl) (by kernel_rfl) ?_
  refine PT.know ((hk).isSome (List.ne_nil_of_length_pos (by omega))) ?_
  rintro ⟨sb, so, hA⟩
  try rw [hA]
  refine seqR (by kernel_rfl) ?_
  refine regionR 2 (by kernel_rfl) (by kernel_rfl) ?_
  refine (run0 (z := 0) 2 [0, 1, 2, 3, 4, 10, 11] [(0, .slice (some ⟨sb, so, none⟩) s.l.length s.c), (1, .int .i64 (u : Int)), (2, .int .i64 (v : Int)), (3, q), (4, .func (.func 49) #[] #[]), (10, .int .i64 0), (11, .int .i64 0)] (fun _ => by kernel_rfl) (endR ?_) : RT _ _ _ _ _ _ 2 _)
  refine seqR (by kernel_rfl) ?_
  refine seqR (by kernel_rfl) ?_
  refine drawR (fun w => Sat w (H)) [] 11 (by kernel_rfl) (by kernel_rfl) (by kernel_rfl) (fun _ h => by first | exact h | exact h.tail | exact h.tail.tail | exact h.tail.tail.tail | exact h.tail.tail.tail.tail) ?_
  refine takesR [0, 1, 2, 5, 6] [1, 2, 3, 10, 11, 12, 13, 14, 17, 18] 6 [true, true, true, false, false, true, true, false, false, false, false] [(1, .int .i64 (u : Int)), (2, .int .i64 (v : Int)), (3, q), (10, .int .i64 0), (11, .int .i64 0), (12, .func (.func 49) #[] #[]), (13, .slice (some ⟨sb, so, none⟩) s.l.length s.c), (14, .int .i64 (v : Int)), (17, .slice (some ⟨sb, so, none⟩) s.l.length s.c), (18, .int .i64 (u : Int))] [] rfl (fun _ d _ _ _ h => by cases d <;> exact h) (fun _ h => by first | exact h | exact h.tail | exact h.tail.tail | exact h.tail.tail.tail | exact h.tail.tail.tail.tail) has0 (fun _ => by kernel_rfl) ?_
  refine takeR1 3 5 [true, true, true, true, false, true, true, false, false, false, false] rfl rfl (by kernel_rfl) (fun _ d _ _ _ h => by cases d <;> exact h) (fun _ h => by first | exact h | exact h.tail | exact h.tail.tail | exact h.tail.tail.tail | exact h.tail.tail.tail.tail) (idxY 79 (.tmp 13) (.tmp 14) sb so s.l.length s.c v 2 65 (v : Int) .i64 (some 15) (fun _ => by kernel_rfl) (by kernel_rfl) (by kernel_rfl) (fun _ => by kernel_rfl) (fun _ => by kernel_rfl) Tryz.underlying79 (by kernel_rfl) (by first | rfl | assumption | simp) (by first | omega | (simp; done) | (simp; omega) | (simp at *; omega))) ?_
  refine takesR [4] [1, 2, 3, 10, 11, 12, 17, 18, 16] 4 [true, true, true, true, true, true, true, false, false, false, false] [(1, .int .i64 (u : Int)), (2, .int .i64 (v : Int)), (3, q), (10, .int .i64 0), (11, .int .i64 0), (12, .func (.func 49) #[] #[]), (17, .slice (some ⟨sb, so, none⟩) s.l.length s.c), (18, .int .i64 (u : Int)), (16, .agg #[.int .i64 y.1, .int .i64 y.2])] [(⟨sb, so + v * 2, none⟩, .int .i64 y.1), (⟨sb, so + v * 2 + 1, none⟩, .int .i64 y.2)] rfl (fun _ d _ _ _ h => by cases d <;> exact h) (fun _ h => by first | exact h | exact h.tail | exact h.tail.tail | exact h.tail.tail.tail | exact h.tail.tail.tail.tail) (hasC (hk.cell hA (i := v) (x := y) hy (j := 0) rfl) (hasC (hk.cell hA (i := v) (x := y) hy (j := 1) rfl) has0)) (fun _ => by kernel_rfl) ?_
  refine takeR1 7 3 [true, true, true, true, true, true, true, true, false, false, false] rfl rfl (by kernel_rfl) (fun _ d _ _ _ h => by cases d <;> exact h) (fun _ h => by first | exact h | exact h.tail | exact h.tail.tail | exact h.tail.tail.tail | exact h.tail.tail.tail.tail) (idxY 79 (.tmp 17) (.tmp 18) sb so s.l.length s.c u 2 65 (u : Int) .i64 (some 19) (fun _ => by kernel_rfl) (by kernel_rfl) (by kernel_rfl) (fun _ => by kernel_rfl) (fun _ => by kernel_rfl) Tryz.underlying79 (by kernel_rfl) (by first | rfl | assumption | simp) (by first | omega | (simp; done) | (simp; omega) | (simp at *; omega))) ?_
  refine takesR [8] [1, 2, 3, 10, 11, 12, 16, 20] 2 [true, true, true, true, true, true, true, true, true, false, false] [(1, .int .i64 (u : Int)), (2, .int .i64 (v : Int)), (3, q), (10, .int .i64 0), (11, .int .i64 0), (12, .func (.func 49) #[] #[]), (16, .agg #[.int .i64 y.1, .int .i64 y.2]), (20, .agg #[.int .i64 x.1, .int .i64 x.2])] [(⟨sb, so + u * 2, none⟩, .int .i64 x.1), (⟨sb, so + u * 2 + 1, none⟩, .int .i64 x.2)] rfl (fun _ d _ _ _ h => by cases d <;> exact h) (fun _ h => by first | exact h | exact h.tail | exact h.tail.tail | exact h.tail.tail.tail | exact h.tail.tail.tail.tail) (hasC (hk.cell hA (i := u) (x := x) hx (j := 0) rfl) (hasC (hk.cell hA (i := u) (x := x) hx (j := 1) rfl) has0)) (fun _ => by kernel_rfl) ?_
  refine oneR 9 1 [true, true, true, true, true, true, true, true, true, true, false] rfl rfl (by kernel_rfl) (callS 49 [.agg #[.int .i64 y.1, .int .i64 y.2], .agg #[.int .i64 x.1, .int .i64 x.2]] (some 21) (fun _ => .int .i64 (byI (y.1, y.2) (x.1, x.2))) (fun (_ : Unit) => (H)) (fun _ => by kernel_rfl) (by_walk _ y.1 y.2 x.1 x.2)) (fun _ _ h hn => by first | exact h | exact h.tail | exact h.tail.tail | exact h.tail.tail.tail | exact h.tail.tail.tail.tail | exact absurd hn (by decide)) (fun _ => ?_)
  refine takesR [10] [1, 2, 3, 10, 11, 22] 0 [true, true, true, true, true, true, true, true, true, true, true] [(1, .int .i64 (u : Int)), (2, .int .i64 (v : Int)), (3, q), (10, .int .i64 0), (11, .int .i64 0), (22, .bool (decide ((byI (y.1, y.2) (x.1, x.2)) < 0)))] [] rfl (fun _ d _ _ _ h => by cases d <;> exact h) (fun _ h => by first | exact h | exact h.tail | exact h.tail.tail | exact h.tail.tail.tail | exact h.tail.tail.tail.tail) has0 (fun _ => by kernel_rfl) ?_
  refine drawnR (by kernel_rfl) ?_
  rw [hsr.not hx hy huv]
  refine condR (b := false) (by kernel_rfl) (fun _ => by kernel_rfl) (fun h => by cases h) (fun _ => ?_)
  refine skipR (by kernel_rfl) ?_
  refine seqR (by kernel_rfl) ?_
  refine regionR 4 (by kernel_rfl) (by kernel_rfl) ?_
  refine (run0 (z := 0) 4 [10, 11] [(10, .int .i64 (u : Int)), (11, .int .i64 (v : Int))] (fun _ => by kernel_rfl) (endR ?_) : RT _ _ _ _ _ _ 4 _)
  refine retR (by kernel_rfl) ?_
  refine done0 (.tuple #[.int .i64 (u : Int), .int .i64 (v : Int)]) (fun _ => by kernel_rfl) (fun w hs => ?_) .ret (.inr rfl)
  exact ⟨(), rfl, hs⟩
set_option maxRecDepth 100000 in
theorem median_walk (H : List SP) (s : SV (Int × Int)) (hk : KR H slE s) (hsr : SrtE s.l) (u v t : Nat) (huv : u < v) (hvt : v < t) (ht : t < s.l.length) (q : Value) : ∀ w, Sat w H → Calls Tryz.prog 88 #[.slice s.a s.l.length s.c, .int .i64 (u : Int), .int .i64 (v : Int), .int .i64 (t : Int), q, .func (.func 49) #[] #[]] w (Ret (ι := Unit) (fun _ => .int .i64 (v : Int)) fun _ => H) := by
  refine enterG (fn := Tryz.f88) 41 [.slice s.a s.l.length s.c, .int .i64 (u : Int), .int .i64 (v : Int), .int .i64 (t : Int), q, .func (.func 49) #[] #[]] Tryz.func88 (by kernel_rfl) (by kernel_rfl) (by kernel_rfl) ?_
  refine seqR (by kernel_rfl) ?_
  refine regionR 1 (by kernel_rfl) (by kernel_rfl) ?_
  refine (run0 (z := 0) 1 [0, 1, 2, 3, 4, 5, 12] [(0, .slice s.a s.l.length s.c), (1, .int .i64 (u : Int)), (2, .int .i64 (v : Int)), (3, .int .i64 (t : Int)), (4, q), (5, .func (.func 49) #[] #[]), (12, .int .i64 0)] (fun _ => by kernel_rfl) (endR ?_) : RT _ _ _ _ _ _ 1 _)
  refine seqR (by kernel_rfl) ?_
  refine regionR 11 (by kernel_rfl) (by kernel_rfl) ?_
  refine (run0 (z := 6) 5 [0, 1, 2, 3, 4, 5, 12, 14, 15, 16, 17, 18] [(0, .slice s.a s.l.length s.c), (1, .int .i64 (u : Int)), (2, .int .i64 (v : Int)), (3, .int .i64 (t : Int)), (4, q), (5, .func (.func 49) #[] #[]), (12, .int .i64 0), (14, .slice s.a s.l.length s.c), (15, .int .i64 (u : Int)), (16, .int .i64 (v : Int)), (17, q), (18, .func (.func 49) #[] #[])] (fun _ => by kernel_rfl) ?_ : RT _ _ _ _ _ _ 11 _)
  refine (stepR (z := 5) (callS 91 [.slice s.a s.l.length s.c, .int .i64 (u : Int), .int .i64 (v : Int), q, .func (.func 49) #[] #[]] (some 19) (fun _ => .tuple #[.int .i64 (u : Int), .int .i64 (v : Int)]) (fun _ => (H)) (fun _ => by kernel_rfl) (order2_walk _ s hk hsr u v huv (by omega) q)) (fun _ => ?_) : RT _ _ _ _ _ _ 6 _)
  refine (run0 (z := 0) 5 [0, 1, 2, 3, 4, 5, 12] [(0, .slice s.a s.l.length s.c), (1, .int .i64 (u : Int)), (2, .int .i64 (v : Int)), (3, .int .i64 (t : Int)), (4, q), (5, .func (.func 49) #[] #[]), (12, .int .i64 0)] (fun _ => by kernel_rfl) (endR ?_) : RT _ _ _ _ _ _ 5 _)
  refine seqR (by kernel_rfl) ?_
  refine regionR 11 (by kernel_rfl) (by kernel_rfl) ?_
  refine (run0 (z := 6) 5 [0, 1, 2, 4, 5, 12, 23, 24, 25, 26, 27] [(0, .slice s.a s.l.length s.c), (1, .int .i64 (u : Int)), (2, .int .i64 (v : Int)), (4, q), (5, .func (.func 49) #[] #[]), (12, .int .i64 0), (23, .slice s.a s.l.length s.c), (24, .int .i64 (v : Int)), (25, .int .i64 (t : Int)), (26, q), (27, .func (.func 49) #[] #[])] (fun _ => by kernel_rfl) ?_ : RT _ _ _ _ _ _ 11 _)
  refine (stepR (z := 5) (callS 91 [.slice s.a s.l.length s.c, .int .i64 (v : Int), .int .i64 (t : Int), q, .func (.func 49) #[] #[]] (some 28) (fun _ => .tuple #[.int .i64 (v : Int), .int .i64 (t : Int)]) (fun _ => (H)) (fun _ => by kernel_rfl) (order2_walk _ s hk hsr v t hvt ht q)) (fun _ => ?_) : RT _ _ _ _ _ _ 6 _)
  refine (run0 (z := 0) 5 [0, 1, 2, 4, 5, 12] [(0, .slice s.a s.l.length s.c), (1, .int .i64 (u : Int)), (2, .int .i64 (v : Int)), (4, q), (5, .func (.func 49) #[] #[]), (12, .int .i64 0)] (fun _ => by kernel_rfl) (endR ?_) : RT _ _ _ _ _ _ 5 _)
  refine seqR (by kernel_rfl) ?_
  refine regionR 11 (by kernel_rfl) (by kernel_rfl) ?_
  refine (run0 (z := 6) 5 [2, 12, 32, 33, 34, 35, 36] [(2, .int .i64 (v : Int)), (12, .int .i64 0), (32, .slice s.a s.l.length s.c), (33, .int .i64 (u : Int)), (34, .int .i64 (v : Int)), (35, q), (36, .func (.func 49) #[] #[])] (fun _ => by kernel_rfl) ?_ : RT _ _ _ _ _ _ 11 _)
  refine (stepR (z := 5) (callS 91 [.slice s.a s.l.length s.c, .int .i64 (u : Int), .int .i64 (v : Int), q, .func (.func 49) #[] #[]] (some 37) (fun _ => .tuple #[.int .i64 (u : Int), .int .i64 (v : Int)]) (fun _ => (H)) (fun _ => by kernel_rfl) (order2_walk _ s hk hsr u v huv (by omega) q)) (fun _ => ?_) : RT _ _ _ _ _ _ 6 _)
  refine (run0 (z := 0) 5 [2, 12] [(2, .int .i64 (v : Int)), (12, .int .i64 0)] (fun _ => by kernel_rfl) (endR ?_) : RT _ _ _ _ _ _ 5 _)
  refine seqR (by kernel_rfl) ?_
  refine regionR 2 (by kernel_rfl) (by kernel_rfl) ?_
  refine (run0 (z := 0) 2 [12] [(12, .int .i64 (v : Int))] (fun _ => by kernel_rfl) (endR ?_) : RT _ _ _ _ _ _ 2 _)
  refine retR (by kernel_rfl) ?_
  refine done0 (.int .i64 (v : Int)) (fun _ => by kernel_rfl) (fun w hs => ?_) .ret (.inr rfl)
  exact ⟨(), rfl, hs⟩
set_option maxRecDepth 100000 in
theorem medianAdj_walk (H : List SP) (s : SV (Int × Int)) (hk : KR H slE s) (hsr : SrtE s.l) (v : Nat) (hv0 : 0 < v) (hv : v + 1 < s.l.length) (hl : s.l.length < 1000000) (q : Value) : ∀ w, Sat w H → Calls Tryz.prog 87 #[.slice s.a s.l.length s.c, .int .i64 (v : Int), q, .func (.func 49) #[] #[]] w (Ret (ι := Unit) (fun _ => .int .i64 (v : Int)) fun _ => H) := by
  refine enterG (fn := Tryz.f87) 18 [.slice s.a s.l.length s.c, .int .i64 (v : Int), q, .func (.func 49) #[] #[]] Tryz.func87 (by kernel_rfl) (by kernel_rfl) (by kernel_rfl) ?_
  refine seqR (by kernel_rfl) ?_
  refine regionR 1 (by kernel_rfl) (by kernel_rfl) ?_
  refine (run0 (z := 0) 1 [0, 1, 2, 3, 8] [(0, .slice s.a s.l.length s.c), (1, .int .i64 (v : Int)), (2, q), (3, .func (.func 49) #[] #[]), (8, .int .i64 0)] (fun _ => by kernel_rfl) (endR ?_) : RT _ _ _ _ _ _ 1 _)
  refine seqR (by kernel_rfl) ?_
  refine regionR 10 (by kernel_rfl) (by kernel_rfl) ?_
  refine (run0 (z := 2) 8 [8, 9, 11, 12, 14, 15, 16] [(8, .int .i64 0), (9, .slice s.a s.l.length s.c), (11, .int .i64 (IntKind.i64.wrap ((v : Int) - 1))), (12, .int .i64 (v : Int)), (14, .int .i64 (IntKind.i64.wrap ((v : Int) + 1))), (15, q), (16, .func (.func 49) #[] #[])] (fun _ => by kernel_rfl) ?_ : RT _ _ _ _ _ _ 10 _)
  rw [show IntKind.i64.wrap ((v : Int) - 1) = ((v - 1 : Nat) : Int) by rw [IntKind.wrap_i64]; omega, show IntKind.i64.wrap ((v : Int) + 1) = ((v + 1 : Nat) : Int) by rw [IntKind.wrap_i64]; omega]
  refine (stepR (z := 1) (callS 88 [.slice s.a s.l.length s.c, .int .i64 ((v - 1 : Nat) : Int), .int .i64 (v : Int), .int .i64 ((v + 1 : Nat) : Int), q, .func (.func 49) #[] #[]] (some 17) (fun _ => .int .i64 (v : Int)) (fun _ => (H)) (fun _ => by kernel_rfl) (median_walk _ s hk hsr (v - 1) v (v + 1) (by omega) (by omega) hv q)) (fun _ => ?_) : RT _ _ _ _ _ _ 2 _)
  refine (run0 (z := 0) 1 [8] [(8, .int .i64 (v : Int))] (fun _ => by kernel_rfl) (endR ?_) : RT _ _ _ _ _ _ 1 _)
  refine retR (by kernel_rfl) ?_
  refine done0 (.int .i64 (v : Int)) (fun _ => by kernel_rfl) (fun w hs => ?_) .ret (.inr rfl)
  exact ⟨(), rfl, hs⟩
theorem quart {n : Nat} (hn : n ≤ 1000) : IntKind.i64.wrap (Int.tdiv (n : Int) 4) = ((n / 4 : Nat) : Int) := by rw [Int.tdiv_eq_ediv_of_nonneg (by omega), IntKind.wrap_i64]; omega
set_option maxHeartbeats 1000000 in
set_option maxRecDepth 100000 in
theorem pivot_walk (H : List SP) (s : SV (Int × Int)) (hk : KR H slE s) (hsr : SrtE s.l) (hl : s.l.length ≤ 64) (hl2 : 12 < s.l.length) : ∀ w, Sat w H → Calls Tryz.prog 74 #[.slice s.a s.l.length s.c, .int .i64 0, .int .i64 (s.l.length : Int), .func (.func 49) #[] #[]] w (Ret (ι := Unit) (fun _ => .tuple #[.int .i64 ((s.l.length / 4 * 2 : Nat) : Int), .int .i64 1]) fun _ => H) := by
  obtain ⟨n, hn⟩ : ∃ n, n = s.l.length := ⟨_, rfl⟩
  have hq := quart (n := n) (by omega)
  obtain ⟨m, hm⟩ : ∃ m, m = n / 4 := ⟨_, rfl⟩
  refine enterG (fn := Tryz.f74) 63 [.slice s.a s.l.length s.c, .int .i64 0, .int .i64 (s.l.length : Int), .func (.func 49) #[] #[]] Tryz.func74 (by kernel_rfl) (by kernel_rfl) (by kernel_rfl) ?_
  refine seqR (by kernel_rfl) ?_
  refine regionR 2 (by kernel_rfl) (by kernel_rfl) ?_
  refine (run0 (z := 0) 2 [0, 1, 2, 3, 8, 9] [(0, .slice s.a s.l.length s.c), (1, .int .i64 0), (2, .int .i64 (s.l.length : Int)), (3, .func (.func 49) #[] #[]), (8, .int .i64 0), (9, .int .i64 0)] (fun _ => by kernel_rfl) (endR ?_) : RT _ _ _ _ _ _ 2 _)
  refine seqR (by kernel_rfl) ?_
  refine regionR 4 (by kernel_rfl) (by kernel_rfl) ?_
  refine (run0 (z := 0) 4 [0, 1, 3, 8, 9, 10] [(0, .slice s.a s.l.length s.c), (1, .int .i64 0), (3, .func (.func 49) #[] #[]), (8, .int .i64 0), (9, .int .i64 0), (10, .int .i64 (IntKind.i64.wrap ((s.l.length : Int) - 0)))] (fun _ => by kernel_rfl) (endR ?_) : RT _ _ _ _ _ _ 4 _)
  refine seqR (by kernel_rfl) ?_
  refine regionR 1 (by kernel_rfl) (by kernel_rfl) ?_
  refine (stepR (z := 0) (newS 3 [.int .i64 0] (some 11) (fun b => .pointer (some ⟨b, 0, none⟩)) (fun _ _ => by kernel_rfl)) (fun b1 => ?_) : RT _ _ _ _ _ _ 1 _)
  refine endR ?_
  refine seqR (by kernel_rfl) ?_
  refine regionR 6 (by kernel_rfl) (by kernel_rfl) ?_
  refine (run0 (z := 0) 6 [11, 0, 1, 3, 8, 9, 10, 12] [(11, .pointer (some ⟨b1, 0, none⟩)), (0, .slice s.a s.l.length s.c), (1, .int .i64 0), (3, .func (.func 49) #[] #[]), (8, .int .i64 0), (9, .int .i64 0), (10, .int .i64 (IntKind.i64.wrap ((s.l.length : Int) - 0))), (12, .int .i64 (IntKind.i64.wrap (0 + (IntKind.i64.wrap ((IntKind.i64.wrap (Int.tdiv (IntKind.i64.wrap ((s.l.length : Int) - 0)) 4)) * 1)))))] (fun _ => by kernel_rfl) (endR ?_) : RT _ _ _ _ _ _ 6 _)
  refine seqR (by kernel_rfl) ?_
  refine regionR 6 (by kernel_rfl) (by kernel_rfl) ?_
  refine (run0 (z := 0) 6 [11, 0, 1, 3, 8, 9, 10, 12, 13] [(11, .pointer (some ⟨b1, 0, none⟩)), (0, .slice s.a s.l.length s.c), (1, .int .i64 0), (3, .func (.func 49) #[] #[]), (8, .int .i64 0), (9, .int .i64 0), (10, .int .i64 (IntKind.i64.wrap ((s.l.length : Int) - 0))), (12, .int .i64 (IntKind.i64.wrap (0 + (IntKind.i64.wrap ((IntKind.i64.wrap (Int.tdiv (IntKind.i64.wrap ((s.l.length : Int) - 0)) 4)) * 1))))), (13, .int .i64 (IntKind.i64.wrap (0 + (IntKind.i64.wrap ((IntKind.i64.wrap (Int.tdiv (IntKind.i64.wrap ((s.l.length : Int) - 0)) 4)) * 2)))))] (fun _ => by kernel_rfl) (endR ?_) : RT _ _ _ _ _ _ 6 _)
  refine seqR (by kernel_rfl) ?_
  refine regionR 6 (by kernel_rfl) (by kernel_rfl) ?_
  refine (run0 (z := 0) 6 [11, 0, 3, 8, 9, 10, 12, 13, 14] [(11, .pointer (some ⟨b1, 0, none⟩)), (0, .slice s.a s.l.length s.c), (3, .func (.func 49) #[] #[]), (8, .int .i64 0), (9, .int .i64 0), (10, .int .i64 (IntKind.i64.wrap ((s.l.length : Int) - 0))), (12, .int .i64 (IntKind.i64.wrap (0 + (IntKind.i64.wrap ((IntKind.i64.wrap (Int.tdiv (IntKind.i64.wrap ((s.l.length : Int) - 0)) 4)) * 1))))), (13, .int .i64 (IntKind.i64.wrap (0 + (IntKind.i64.wrap ((IntKind.i64.wrap (Int.tdiv (IntKind.i64.wrap ((s.l.length : Int) - 0)) 4)) * 2))))), (14, .int .i64 (IntKind.i64.wrap (0 + (IntKind.i64.wrap ((IntKind.i64.wrap (Int.tdiv (IntKind.i64.wrap ((s.l.length : Int) - 0)) 4)) * 3)))))] (fun _ => by kernel_rfl) (endR ?_) : RT _ _ _ _ _ _ 6 _)
  refine seqR (by kernel_rfl) ?_
  refine seqR (by kernel_rfl) ?_
  refine regionR 2 (by kernel_rfl) (by kernel_rfl) ?_
  refine (run0 (z := 0) 2 [11, 0, 3, 8, 9, 10, 12, 13, 14, 34] [(11, .pointer (some ⟨b1, 0, none⟩)), (0, .slice s.a s.l.length s.c), (3, .func (.func 49) #[] #[]), (8, .int .i64 0), (9, .int .i64 0), (10, .int .i64 (IntKind.i64.wrap ((s.l.length : Int) - 0))), (12, .int .i64 (IntKind.i64.wrap (0 + (IntKind.i64.wrap ((IntKind.i64.wrap (Int.tdiv (IntKind.i64.wrap ((s.l.length : Int) - 0)) 4)) * 1))))), (13, .int .i64 (IntKind.i64.wrap (0 + (IntKind.i64.wrap ((IntKind.i64.wrap (Int.tdiv (IntKind.i64.wrap ((s.l.length : Int) - 0)) 4)) * 2))))), (14, .int .i64 (IntKind.i64.wrap (0 + (IntKind.i64.wrap ((IntKind.i64.wrap (Int.tdiv (IntKind.i64.wrap ((s.l.length : Int) - 0)) 4)) * 3))))), (34, .bool (decide ((IntKind.i64.wrap ((s.l.length : Int) - 0)) ≥ 8)))] (fun _ => by kernel_rfl) (endR ?_) : RT _ _ _ _ _ _ 2 _)
  rw [show IntKind.i64.wrap ((s.l.length : Int) - 0) = (s.l.length : Int) by rw [IntKind.wrap_i64]; omega, ← hn, hq, ← hm]
  rw [show IntKind.i64.wrap (0 + IntKind.i64.wrap ((m : Int) * 1)) = (m : Int) by rw [IntKind.wrap_i64, IntKind.wrap_i64]; omega, show IntKind.i64.wrap (0 + IntKind.i64.wrap ((m : Int) * 2)) = ((m * 2 : Nat) : Int) by rw [IntKind.wrap_i64, IntKind.wrap_i64]; omega, show IntKind.i64.wrap (0 + IntKind.i64.wrap ((m : Int) * 3)) = ((m * 3 : Nat) : Int) by rw [IntKind.wrap_i64, IntKind.wrap_i64]; omega]
  rw [hn]
  rw [show decide ((s.l.length : Int) ≥ 8) = true from decide_eq_true (by omega)]
  refine condR (b := true) (by kernel_rfl) (fun _ => by kernel_rfl) (fun _ => ?_) (fun h => by cases h)
  refine seqR (by kernel_rfl) ?_
  refine seqR (by kernel_rfl) ?_
  refine regionR 2 (by kernel_rfl) (by kernel_rfl) ?_
  refine (run0 (z := 0) 2 [11, 0, 3, 8, 9, 12, 13, 14, 36] [(11, .pointer (some ⟨b1, 0, none⟩)), (0, .slice s.a s.l.length s.c), (3, .func (.func 49) #[] #[]), (8, .int .i64 0), (9, .int .i64 0), (12, .int .i64 (m : Int)), (13, .int .i64 ((m * 2 : Nat) : Int)), (14, .int .i64 ((m * 3 : Nat) : Int)), (36, .bool (decide ((s.l.length : Int) ≥ 50)))] (fun _ => by kernel_rfl) (endR ?_) : RT _ _ _ _ _ _ 2 _)
  refine condR (b := decide ((s.l.length : Int) ≥ 50)) (by kernel_rfl) (fun _ => by kernel_rfl) (fun h1 => ?_) (fun h1 => ?_)
  · skip
    have h1' : 50 ≤ s.l.length := by have := of_decide_eq_true h1; omega
    refine seqR (by kernel_rfl) ?_
    refine regionR 5 (by kernel_rfl) (by kernel_rfl) ?_
    refine (run0 (z := 2) 3 [11, 0, 3, 8, 9, 12, 13, 14, 37, 38, 39] [(11, .pointer (some ⟨b1, 0, none⟩)), (0, .slice s.a s.l.length s.c), (3, .func (.func 49) #[] #[]), (8, .int .i64 0), (9, .int .i64 0), (12, .int .i64 (m : Int)), (13, .int .i64 ((m * 2 : Nat) : Int)), (14, .int .i64 ((m * 3 : Nat) : Int)), (37, .slice s.a s.l.length s.c), (38, .int .i64 (m : Int)), (39, .func (.func 49) #[] #[])] (fun _ => by kernel_rfl) ?_ : RT _ _ _ _ _ _ 5 _)
    refine (stepR (z := 1) (callS 87 [.slice s.a s.l.length s.c, .int .i64 (m : Int), .pointer (some ⟨b1, 0, none⟩), .func (.func 49) #[] #[]] (some 40) (fun _ => .int .i64 (m : Int)) (fun _ => (blk b1 3 [.int .i64 0] :: H)) (fun _ => by kernel_rfl) (medianAdj_walk _ s hk.up hsr m (by omega) (by omega) (by omega) (.pointer (some ⟨b1, 0, none⟩)))) (fun _ => ?_) : RT _ _ _ _ _ _ 2 _)
    refine (run0 (z := 0) 1 [11, 0, 3, 8, 9, 12, 13, 14] [(11, .pointer (some ⟨b1, 0, none⟩)), (0, .slice s.a s.l.length s.c), (3, .func (.func 49) #[] #[]), (8, .int .i64 0), (9, .int .i64 0), (12, .int .i64 (m : Int)), (13, .int .i64 ((m * 2 : Nat) : Int)), (14, .int .i64 ((m * 3 : Nat) : Int))] (fun _ => by kernel_rfl) (endR ?_) : RT _ _ _ _ _ _ 1 _)
    refine seqR (by kernel_rfl) ?_
    refine regionR 5 (by kernel_rfl) (by kernel_rfl) ?_
    refine (run0 (z := 2) 3 [11, 0, 3, 8, 9, 12, 13, 14, 41, 42, 43] [(11, .pointer (some ⟨b1, 0, none⟩)), (0, .slice s.a s.l.length s.c), (3, .func (.func 49) #[] #[]), (8, .int .i64 0), (9, .int .i64 0), (12, .int .i64 (m : Int)), (13, .int .i64 ((m * 2 : Nat) : Int)), (14, .int .i64 ((m * 3 : Nat) : Int)), (41, .slice s.a s.l.length s.c), (42, .int .i64 ((m * 2 : Nat) : Int)), (43, .func (.func 49) #[] #[])] (fun _ => by kernel_rfl) ?_ : RT _ _ _ _ _ _ 5 _)
    refine (stepR (z := 1) (callS 87 [.slice s.a s.l.length s.c, .int .i64 ((m * 2 : Nat) : Int), .pointer (some ⟨b1, 0, none⟩), .func (.func 49) #[] #[]] (some 44) (fun _ => .int .i64 ((m * 2 : Nat) : Int)) (fun _ => (blk b1 3 [.int .i64 0] :: H)) (fun _ => by kernel_rfl) (medianAdj_walk _ s hk.up hsr (m * 2) (by omega) (by omega) (by omega) (.pointer (some ⟨b1, 0, none⟩)))) (fun _ => ?_) : RT _ _ _ _ _ _ 2 _)
    refine (run0 (z := 0) 1 [11, 0, 3, 8, 9, 12, 13, 14] [(11, .pointer (some ⟨b1, 0, none⟩)), (0, .slice s.a s.l.length s.c), (3, .func (.func 49) #[] #[]), (8, .int .i64 0), (9, .int .i64 0), (12, .int .i64 (m : Int)), (13, .int .i64 ((m * 2 : Nat) : Int)), (14, .int .i64 ((m * 3 : Nat) : Int))] (fun _ => by kernel_rfl) (endR ?_) : RT _ _ _ _ _ _ 1 _)
    refine regionR 5 (by kernel_rfl) (by kernel_rfl) ?_
    refine (run0 (z := 2) 3 [11, 0, 3, 8, 9, 12, 13, 14, 45, 46, 47] [(11, .pointer (some ⟨b1, 0, none⟩)), (0, .slice s.a s.l.length s.c), (3, .func (.func 49) #[] #[]), (8, .int .i64 0), (9, .int .i64 0), (12, .int .i64 (m : Int)), (13, .int .i64 ((m * 2 : Nat) : Int)), (14, .int .i64 ((m * 3 : Nat) : Int)), (45, .slice s.a s.l.length s.c), (46, .int .i64 ((m * 3 : Nat) : Int)), (47, .func (.func 49) #[] #[])] (fun _ => by kernel_rfl) ?_ : RT _ _ _ _ _ _ 5 _)
    refine (stepR (z := 1) (callS 87 [.slice s.a s.l.length s.c, .int .i64 ((m * 3 : Nat) : Int), .pointer (some ⟨b1, 0, none⟩), .func (.func 49) #[] #[]] (some 48) (fun _ => .int .i64 ((m * 3 : Nat) : Int)) (fun _ => (blk b1 3 [.int .i64 0] :: H)) (fun _ => by kernel_rfl) (medianAdj_walk _ s hk.up hsr (m * 3) (by omega) (by omega) (by omega) (.pointer (some ⟨b1, 0, none⟩)))) (fun _ => ?_) : RT _ _ _ _ _ _ 2 _)
    refine (run0 (z := 0) 1 [11, 0, 3, 8, 9, 12, 13, 14] [(11, .pointer (some ⟨b1, 0, none⟩)), (0, .slice s.a s.l.length s.c), (3, .func (.func 49) #[] #[]), (8, .int .i64 0), (9, .int .i64 0), (12, .int .i64 (m : Int)), (13, .int .i64 ((m * 2 : Nat) : Int)), (14, .int .i64 ((m * 3 : Nat) : Int))] (fun _ => by kernel_rfl) (endR ?_) : RT _ _ _ _ _ _ 1 _)
    refine regionR 7 (by kernel_rfl) (by kernel_rfl) ?_
    refine (run0 (z := 2) 5 [11, 8, 9, 13, 49, 50, 51, 52, 53] [(11, .pointer (some ⟨b1, 0, none⟩)), (8, .int .i64 0), (9, .int .i64 0), (13, .int .i64 ((m * 2 : Nat) : Int)), (49, .slice s.a s.l.length s.c), (50, .int .i64 (m : Int)), (51, .int .i64 ((m * 2 : Nat) : Int)), (52, .int .i64 ((m * 3 : Nat) : Int)), (53, .func (.func 49) #[] #[])] (fun _ => by kernel_rfl) ?_ : RT _ _ _ _ _ _ 7 _)
    refine (stepR (z := 1) (callS 88 [.slice s.a s.l.length s.c, .int .i64 (m : Int), .int .i64 ((m * 2 : Nat) : Int), .int .i64 ((m * 3 : Nat) : Int), .pointer (some ⟨b1, 0, none⟩), .func (.func 49) #[] #[]] (some 54) (fun _ => .int .i64 ((m * 2 : Nat) : Int)) (fun _ => (blk b1 3 [.int .i64 0] :: H)) (fun _ => by kernel_rfl) (median_walk _ s hk.up hsr m (m * 2) (m * 3) (by omega) (by omega) (by omega) (.pointer (some ⟨b1, 0, none⟩)))) (fun _ => ?_) : RT _ _ _ _ _ _ 2 _)
    refine (run0 (z := 0) 1 [11, 8, 9, 13] [(11, .pointer (some ⟨b1, 0, none⟩)), (8, .int .i64 0), (9, .int .i64 0), (13, .int .i64 ((m * 2 : Nat) : Int))] (fun _ => by kernel_rfl) (endR ?_) : RT _ _ _ _ _ _ 1 _)
    refine seqR (by kernel_rfl) ?_
    refine regionR 1 (by kernel_rfl) (by kernel_rfl) ?_
    refine (runR (H := (blk b1 3 [.int .i64 0] :: H)) (z := 0) 1 [8, 9, 13, 55] [(8, .int .i64 0), (9, .int .i64 0), (13, .int .i64 ((m * 2 : Nat) : Int)), (55, .int .i64 0)] [(⟨b1, 0, none⟩, .int .i64 0)] (hasC (blkAt (T := 3) (cs := [.int .i64 0]) 0 rfl rfl) has0) (fun _ => by kernel_rfl) (endR ?_) : RT _ _ _ _ _ _ 1 _)
    refine blockR 0 (by kernel_rfl) (by kernel_rfl) ?_
    refine seqR (by kernel_rfl) ?_
    refine regionR 2 (by kernel_rfl) (by kernel_rfl) ?_
    refine (run0 (z := 0) 2 [8, 9, 13, 55, 57] [(8, .int .i64 0), (9, .int .i64 0), (13, .int .i64 ((m * 2 : Nat) : Int)), (55, .int .i64 0), (57, .bool true)] (fun _ => by kernel_rfl) (endR ?_) : RT _ _ _ _ _ _ 2 _)
    refine condR (b := true) (by kernel_rfl) (fun _ => by kernel_rfl) (fun _ => ?_) (fun h => by cases h)
    refine seqR (by kernel_rfl) ?_
    refine regionR 3 (by kernel_rfl) (by kernel_rfl) ?_
    refine (run0 (z := 0) 3 [8, 9] [(8, .int .i64 ((m * 2 : Nat) : Int)), (9, .int .i64 1)] (fun _ => by kernel_rfl) (endR ?_) : RT _ _ _ _ _ _ 3 _)
    refine retR (by kernel_rfl) ?_
    refine blockV ?_
    refine done0 (.tuple #[.int .i64 ((m * 2 : Nat) : Int), .int .i64 1]) (fun _ => by kernel_rfl) (fun w hs => ?_) .ret (.inr rfl)
    exact ⟨(), rfl, hs.tail⟩
  · skip
    refine skipR (by kernel_rfl) ?_
    refine regionR 7 (by kernel_rfl) (by kernel_rfl) ?_
    refine (run0 (z := 2) 5 [11, 8, 9, 13, 49, 50, 51, 52, 53] [(11, .pointer (some ⟨b1, 0, none⟩)), (8, .int .i64 0), (9, .int .i64 0), (13, .int .i64 ((m * 2 : Nat) : Int)), (49, .slice s.a s.l.length s.c), (50, .int .i64 (m : Int)), (51, .int .i64 ((m * 2 : Nat) : Int)), (52, .int .i64 ((m * 3 : Nat) : Int)), (53, .func (.func 49) #[] #[])] (fun _ => by kernel_rfl) ?_ : RT _ _ _ _ _ _ 7 _)
    refine (stepR (z := 1) (callS 88 [.slice s.a s.l.length s.c, .int .i64 (m : Int), .int .i64 ((m * 2 : Nat) : Int), .int .i64 ((m * 3 : Nat) : Int), .pointer (some ⟨b1, 0, none⟩), .func (.func 49) #[] #[]] (some 54) (fun _ => .int .i64 ((m * 2 : Nat) : Int)) (fun _ => (blk b1 3 [.int .i64 0] :: H)) (fun _ => by kernel_rfl) (median_walk _ s hk.up hsr m (m * 2) (m * 3) (by omega) (by omega) (by omega) (.pointer (some ⟨b1, 0, none⟩)))) (fun _ => ?_) : RT _ _ _ _ _ _ 2 _)
    refine (run0 (z := 0) 1 [11, 8, 9, 13] [(11, .pointer (some ⟨b1, 0, none⟩)), (8, .int .i64 0), (9, .int .i64 0), (13, .int .i64 ((m * 2 : Nat) : Int))] (fun _ => by kernel_rfl) (endR ?_) : RT _ _ _ _ _ _ 1 _)
    refine seqR (by kernel_rfl) ?_
    refine regionR 1 (by kernel_rfl) (by kernel_rfl) ?_
    refine (runR (H := (blk b1 3 [.int .i64 0] :: H)) (z := 0) 1 [8, 9, 13, 55] [(8, .int .i64 0), (9, .int .i64 0), (13, .int .i64 ((m * 2 : Nat) : Int)), (55, .int .i64 0)] [(⟨b1, 0, none⟩, .int .i64 0)] (hasC (blkAt (T := 3) (cs := [.int .i64 0]) 0 rfl rfl) has0) (fun _ => by kernel_rfl) (endR ?_) : RT _ _ _ _ _ _ 1 _)
    refine blockR 0 (by kernel_rfl) (by kernel_rfl) ?_
    refine seqR (by kernel_rfl) ?_
    refine regionR 2 (by kernel_rfl) (by kernel_rfl) ?_
    refine (run0 (z := 0) 2 [8, 9, 13, 55, 57] [(8, .int .i64 0), (9, .int .i64 0), (13, .int .i64 ((m * 2 : Nat) : Int)), (55, .int .i64 0), (57, .bool true)] (fun _ => by kernel_rfl) (endR ?_) : RT _ _ _ _ _ _ 2 _)
    refine condR (b := true) (by kernel_rfl) (fun _ => by kernel_rfl) (fun _ => ?_) (fun h => by cases h)
    refine seqR (by kernel_rfl) ?_
    refine regionR 3 (by kernel_rfl) (by kernel_rfl) ?_
    refine (run0 (z := 0) 3 [8, 9] [(8, .int .i64 ((m * 2 : Nat) : Int)), (9, .int .i64 1)] (fun _ => by kernel_rfl) (endR ?_) : RT _ _ _ _ _ _ 3 _)
    refine retR (by kernel_rfl) ?_
    refine blockV ?_
    refine done0 (.tuple #[.int .i64 ((m * 2 : Nat) : Int), .int .i64 1]) (fun _ => by kernel_rfl) (fun w hs => ?_) .ret (.inr rfl)
    exact ⟨(), rfl, hs.tail⟩
set_option maxHeartbeats 1000000 in
set_option maxRecDepth 100000 in
theorem partial_walk (H : List SP) (s : SV (Int × Int)) (hk : KR H slE s) (hsr : SrtE s.l) (hl : s.l.length ≤ 64) (hl2 : 12 < s.l.length) : ∀ w, Sat w H → Calls Tryz.prog 76 #[.slice s.a s.l.length s.c, .int .i64 0, .int .i64 (s.l.length : Int), .func (.func 49) #[] #[]] w (Ret (ι := Unit) (fun _ => .bool true) fun _ => H) := by
  refine enterG (fn := Tryz.f76) 141 [.slice s.a s.l.length s.c, .int .i64 0, .int .i64 (s.l.length : Int), .func (.func 49) #[] #[]] Tryz.func76 (by kernel_rfl) (by kernel_rfl) (by kernel_rfl) ?_
  refine seqR (by kernel_rfl) ?_
  refine regionR 1 (by kernel_rfl) (by kernel_rfl) ?_
  refine (run0 (z := 0) 1 [0, 1, 2, 3, 8] [(0, .slice s.a s.l.length s.c), (1, .int .i64 0), (2, .int .i64 (s.l.length : Int)), (3, .func (.func 49) #[] #[]), (8, .bool false)] (fun _ => by kernel_rfl) (endR ?_) : RT _ _ _ _ _ _ 1 _)
  refine seqR (by kernel_rfl) ?_
  refine regionR 3 (by kernel_rfl) (by kernel_rfl) ?_
  refine (run0 (z := 0) 3 [0, 1, 2, 3, 8, 9] [(0, .slice s.a s.l.length s.c), (1, .int .i64 0), (2, .int .i64 (s.l.length : Int)), (3, .func (.func 49) #[] #[]), (8, .bool false), (9, .int .i64 (IntKind.i64.wrap (0 + 1)))] (fun _ => by kernel_rfl) (endR ?_) : RT _ _ _ _ _ _ 3 _)
  refine seqR (by kernel_rfl) ?_
  refine seqR (by kernel_rfl) ?_
  refine regionR 1 (by kernel_rfl) (by kernel_rfl) ?_
  refine (run0 (z := 0) 1 [0, 1, 2, 3, 8, 9, 10] [(0, .slice s.a s.l.length s.c), (1, .int .i64 0), (2, .int .i64 (s.l.length : Int)), (3, .func (.func 49) #[] #[]), (8, .bool false), (9, .int .i64 (IntKind.i64.wrap (0 + 1))), (10, .int .i64 0)] (fun _ => by kernel_rfl) (endR ?_) : RT _ _ _ _ _ _ 1 _)
  refine blockR 0 (by kernel_rfl) (by kernel_rfl) ?_
  rw [show IntKind.i64.wrap ((0 : Int) + 1) = 1 from rfl]
  refine PT.keep (L' := [(0, .slice s.a s.l.length s.c), (1, .int .i64 0), (2, .int .i64 (s.l.length : Int)), (3, .func (.func 49) #[] #[]), (8, .bool false), (9, .int .i64 1), (10, .int .i64 0)]) [0, 1, 2, 3, 8, 9, 10] rfl ?_
  refine loopG (fun (x : Unit) => [(0, .slice s.a s.l.length s.c), (1, .int .i64 0), (2, .int .i64 (s.l.length : Int)), (3, .func (.func 49) #[] #[]), (8, .bool false), (9, .int .i64 1), (10, .int .i64 0)]) (fun (x : Unit) => (H)) (fun k (x : Unit) => k = 0) 0 () (by kernel_rfl) rfl ?_
  rintro k x hk0
  refine seqR (by kernel_rfl) ?_
  refine seqR (by kernel_rfl) ?_
  refine regionR 2 (by kernel_rfl) (by kernel_rfl) ?_
  refine (run0 (z := 0) 2 [0, 1, 2, 3, 8, 9, 10, 16] [(0, .slice s.a s.l.length s.c), (1, .int .i64 0), (2, .int .i64 (s.l.length : Int)), (3, .func (.func 49) #[] #[]), (8, .bool false), (9, .int .i64 1), (10, .int .i64 0), (16, .bool true)] (fun _ => by kernel_rfl) (endR ?_) : RT _ _ _ _ _ _ 2 _)
  refine condR (b := true) (by kernel_rfl) (fun _ => by kernel_rfl) (fun _ => ?_) (fun h => by cases h)
  refine skipR (by kernel_rfl) ?_
  refine seqR (by kernel_rfl) ?_
  refine blockR 1 (by kernel_rfl) (by kernel_rfl) ?_
  refine seqR (by kernel_rfl) ?_
  refine blockR 2 (by kernel_rfl) (by kernel_rfl) ?_
  refine PT.keep (L' := [(0, .slice s.a s.l.length s.c), (1, .int .i64 0), (2, .int .i64 (s.l.length : Int)), (3, .func (.func 49) #[] #[]), (8, .bool false), (9, .int .i64 1), (10, .int .i64 0)]) [0, 1, 2, 3, 8, 9, 10] rfl ?_
  refine loopG (fun (u : Nat) => [(0, .slice s.a s.l.length s.c), (1, .int .i64 0), (2, .int .i64 (s.l.length : Int)), (3, .func (.func 49) #[] #[]), (8, .bool false), (9, .int .i64 (u : Int)), (10, .int .i64 0)]) (fun (u : Nat) => (H)) (fun k (u : Nat) => k + u = s.l.length ∧ 1 ≤ u) (s.l.length - 1) 1 (by kernel_rfl) ⟨by omega, by omega⟩ ?_
  rintro k2 u ⟨hku, hu1⟩
  refine seqR (by kernel_rfl) ?_
  refine seqR (by kernel_rfl) ?_
  refine drawR (fun w => Sat w (H)) [] 18 (by kernel_rfl) (by kernel_rfl) (by kernel_rfl) (fun _ h => by first | exact h | exact h.tail | exact h.tail.tail | exact h.tail.tail.tail | exact h.tail.tail.tail.tail) ?_
  refine takesR [0, 1, 2, 3] [0, 1, 2, 3, 8, 9, 10, 22] 14 [true, true, true, true, false, false, false, false, false, false, false, false, false, false, false, false, false, false] [(0, .slice s.a s.l.length s.c), (1, .int .i64 0), (2, .int .i64 (s.l.length : Int)), (3, .func (.func 49) #[] #[]), (8, .bool false), (9, .int .i64 (u : Int)), (10, .int .i64 0), (22, .bool (decide ((u : Int) < (s.l.length : Int))))] [] rfl (fun _ d _ _ _ h => by cases d <;> exact h) (fun _ h => by first | exact h | exact h.tail | exact h.tail.tail | exact h.tail.tail.tail | exact h.tail.tail.tail.tail) has0 (fun _ => by kernel_rfl) ?_
  cases h1 : (decide ((u : Int) < (s.l.length : Int))) with
  | true =>
    have hu : u < s.l.length := by have := of_decide_eq_true h1; omega
    obtain ⟨x, hx⟩ : ∃ x, s.l[u - 1]? = some x := ⟨s.l[u - 1]'(by omega), by simp⟩
    obtain ⟨y, hy⟩ : ∃ y, s.l[u]? = some y := ⟨s.l[u]'(by omega), by simp⟩
    refine PT.know ((hk).isSome (List.ne_nil_of_length_pos (by omega))) ?_
    rintro ⟨sb, so, hA⟩
    try rw [hA]
    refine takesR [4, 5, 6, 9, 10, 11] [0, 1, 2, 3, 8, 9, 10, 22, 23, 24, 25, 28, 30] 8 [true, true, true, true, true, true, true, false, false, true, true, true, false, false, false, false, false, false] [(0, .slice (some ⟨sb, so, none⟩) s.l.length s.c), (1, .int .i64 0), (2, .int .i64 (s.l.length : Int)), (3, .func (.func 49) #[] #[]), (8, .bool false), (9, .int .i64 (u : Int)), (10, .int .i64 0), (22, .bool true), (23, .func (.func 49) #[] #[]), (24, .slice (some ⟨sb, so, none⟩) s.l.length s.c), (25, .int .i64 (u : Int)), (28, .slice (some ⟨sb, so, none⟩) s.l.length s.c), (30, .int .i64 (IntKind.i64.wrap ((u : Int) - 1)))] [] rfl (fun _ d _ _ _ h => by cases d <;> exact h) (fun _ h => by first | exact h | exact h.tail | exact h.tail.tail | exact h.tail.tail.tail | exact h.tail.tail.tail.tail) has0 (fun _ => by kernel_rfl) ?_
    refine takeR1 7 7 [true, true, true, true, true, true, true, true, false, true, true, true, false, false, false, false, false, false] rfl rfl (by kernel_rfl) (fun _ d _ _ _ h => by cases d <;> exact h) (fun _ h => by first | exact h | exact h.tail | exact h.tail.tail | exact h.tail.tail.tail | exact h.tail.tail.tail.tail) (idxY 79 (.tmp 24) (.tmp 25) sb so s.l.length s.c u 2 65 (u : Int) .i64 (some 26) (fun _ => by kernel_rfl) (by kernel_rfl) (by kernel_rfl) (fun _ => by kernel_rfl) (fun _ => by kernel_rfl) Tryz.underlying79 (by kernel_rfl) (by first | rfl | assumption | simp) (by first | omega | (simp; done) | (simp; omega) | (simp at *; omega))) ?_
    refine takesR [8] [0, 1, 2, 3, 8, 9, 10, 22, 23, 28, 30, 27] 6 [true, true, true, true, true, true, true, true, true, true, true, true, false, false, false, false, false, false] [(0, .slice (some ⟨sb, so, none⟩) s.l.length s.c), (1, .int .i64 0), (2, .int .i64 (s.l.length : Int)), (3, .func (.func 49) #[] #[]), (8, .bool false), (9, .int .i64 (u : Int)), (10, .int .i64 0), (22, .bool true), (23, .func (.func 49) #[] #[]), (28, .slice (some ⟨sb, so, none⟩) s.l.length s.c), (30, .int .i64 (IntKind.i64.wrap ((u : Int) - 1))), (27, .agg #[.int .i64 y.1, .int .i64 y.2])] [(⟨sb, so + u * 2, none⟩, .int .i64 y.1), (⟨sb, so + u * 2 + 1, none⟩, .int .i64 y.2)] rfl (fun _ d _ _ _ h => by cases d <;> exact h) (fun _ h => by first | exact h | exact h.tail | exact h.tail.tail | exact h.tail.tail.tail | exact h.tail.tail.tail.tail) (hasC (hk.cell hA (i := u) (x := y) hy (j := 0) rfl) (hasC (hk.cell hA (i := u) (x := y) hy (j := 1) rfl) has0)) (fun _ => by kernel_rfl) ?_
    rw [show IntKind.i64.wrap ((u : Int) - 1) = ((u - 1 : Nat) : Int) by rw [IntKind.wrap_i64]; omega]
    refine takeR1 12 5 [true, true, true, true, true, true, true, true, true, true, true, true, true, false, false, false, false, false] rfl rfl (by kernel_rfl) (fun _ d _ _ _ h => by cases d <;> exact h) (fun _ h => by first | exact h | exact h.tail | exact h.tail.tail | exact h.tail.tail.tail | exact h.tail.tail.tail.tail) (idxY 79 (.tmp 28) (.tmp 30) sb so s.l.length s.c (u - 1) 2 65 ((u - 1 : Nat) : Int) .i64 (some 31) (fun _ => by kernel_rfl) (by kernel_rfl) (by kernel_rfl) (fun _ => by kernel_rfl) (fun _ => by kernel_rfl) Tryz.underlying79 (by kernel_rfl) (by first | rfl | assumption | simp) (by first | omega | (simp; done) | (simp; omega) | (simp at *; omega))) ?_
    refine takesR [13] [0, 1, 2, 3, 8, 9, 10, 22, 23, 27, 32] 4 [true, true, true, true, true, true, true, true, true, true, true, true, true, true, false, false, false, false] [(0, .slice (some ⟨sb, so, none⟩) s.l.length s.c), (1, .int .i64 0), (2, .int .i64 (s.l.length : Int)), (3, .func (.func 49) #[] #[]), (8, .bool false), (9, .int .i64 (u : Int)), (10, .int .i64 0), (22, .bool true), (23, .func (.func 49) #[] #[]), (27, .agg #[.int .i64 y.1, .int .i64 y.2]), (32, .agg #[.int .i64 x.1, .int .i64 x.2])] [(⟨sb, so + (u - 1) * 2, none⟩, .int .i64 x.1), (⟨sb, so + (u - 1) * 2 + 1, none⟩, .int .i64 x.2)] rfl (fun _ d _ _ _ h => by cases d <;> exact h) (fun _ h => by first | exact h | exact h.tail | exact h.tail.tail | exact h.tail.tail.tail | exact h.tail.tail.tail.tail) (hasC (hk.cell hA (i := u - 1) (x := x) hx (j := 0) rfl) (hasC (hk.cell hA (i := u - 1) (x := x) hx (j := 1) rfl) has0)) (fun _ => by kernel_rfl) ?_
    refine oneR 14 3 [true, true, true, true, true, true, true, true, true, true, true, true, true, true, true, false, false, false] rfl rfl (by kernel_rfl) (callS 49 [.agg #[.int .i64 y.1, .int .i64 y.2], .agg #[.int .i64 x.1, .int .i64 x.2]] (some 33) (fun _ => .int .i64 (byI (y.1, y.2) (x.1, x.2))) (fun (_ : Unit) => (H)) (fun _ => by kernel_rfl) (by_walk _ y.1 y.2 x.1 x.2)) (fun _ _ h hn => by first | exact h | exact h.tail | exact h.tail.tail | exact h.tail.tail.tail | exact h.tail.tail.tail.tail | exact absurd hn (by decide)) (fun _ => ?_)
    refine takesR [15, 16, 17] [0, 1, 2, 3, 8, 9, 10, 36] 0 [true, true, true, true, true, true, true, true, true, true, true, true, true, true, true, true, true, true] [(0, .slice (some ⟨sb, so, none⟩) s.l.length s.c), (1, .int .i64 0), (2, .int .i64 (s.l.length : Int)), (3, .func (.func 49) #[] #[]), (8, .bool false), (9, .int .i64 (u : Int)), (10, .int .i64 0), (36, .bool (!(decide ((byI (y.1, y.2) (x.1, x.2)) < 0))))] [] rfl (fun _ d _ _ _ h => by cases d <;> exact h) (fun _ h => by first | exact h | exact h.tail | exact h.tail.tail | exact h.tail.tail.tail | exact h.tail.tail.tail.tail) has0 (fun _ => by kernel_rfl) ?_
    refine drawnR (by kernel_rfl) ?_
    try rw [← hA]
    rw [hsr.not hx hy (by omega)]
    refine condR (b := true) (by kernel_rfl) (fun _ => by kernel_rfl) (fun _ => ?_) (fun h => by cases h)
    refine skipR (by kernel_rfl) ?_
    refine blockR 3 (by kernel_rfl) (by kernel_rfl) ?_
    refine regionR 3 (by kernel_rfl) (by kernel_rfl) ?_
    refine (run0 (z := 0) 3 [0, 1, 2, 3, 8, 9, 10] [(0, .slice s.a s.l.length s.c), (1, .int .i64 0), (2, .int .i64 (s.l.length : Int)), (3, .func (.func 49) #[] #[]), (8, .bool false), (9, .int .i64 (IntKind.i64.wrap ((u : Int) + 1))), (10, .int .i64 0)] (fun _ => by kernel_rfl) (endR ?_) : RT _ _ _ _ _ _ 3 _)
    rw [show IntKind.i64.wrap ((u : Int) + 1) = ((u + 1 : Nat) : Int) by rw [IntKind.wrap_i64]; omega]
    refine PT.keep (L' := [(0, .slice s.a s.l.length s.c), (1, .int .i64 0), (2, .int .i64 (s.l.length : Int)), (3, .func (.func 49) #[] #[]), (8, .bool false), (9, .int .i64 ((u + 1 : Nat) : Int)), (10, .int .i64 0)]) [0, 1, 2, 3, 8, 9, 10] rfl ?_
    exact againG (k2 - 1) (u + 1) rfl rfl (by omega) ⟨by omega, by omega⟩
  | false =>
    have hu : u = s.l.length := by have := of_decide_eq_false h1; omega
    refine takesR [4, 5, 6, 7, 8, 9, 10, 11, 12, 13, 14, 15, 16, 17] [0, 1, 2, 3, 8, 9, 10, 36] 0 [true, true, true, true, true, true, true, true, true, true, true, true, true, true, true, true, true, true] [(0, .slice s.a s.l.length s.c), (1, .int .i64 0), (2, .int .i64 (s.l.length : Int)), (3, .func (.func 49) #[] #[]), (8, .bool false), (9, .int .i64 (u : Int)), (10, .int .i64 0), (36, .bool false)] [] rfl (fun _ d _ _ _ h => by cases d <;> exact h) (fun _ h => by first | exact h | exact h.tail | exact h.tail.tail | exact h.tail.tail.tail | exact h.tail.tail.tail.tail) has0 (fun _ => by kernel_rfl) ?_
    refine drawnR (by kernel_rfl) ?_
    refine condR (b := false) (by kernel_rfl) (fun _ => by kernel_rfl) (fun h => by cases h) (fun _ => ?_)
    refine exitR 2 (by kernel_rfl) (by kernel_rfl) ?_
    refine thenX ?_
    refine thenX ?_
    refine leaveR ?_
    refine seqR (by kernel_rfl) ?_
    refine seqR (by kernel_rfl) ?_
    refine regionR 3 (by kernel_rfl) (by kernel_rfl) ?_
    refine (run0 (z := 0) 3 [0, 1, 2, 3, 8, 9, 10, 41] [(0, .slice s.a s.l.length s.c), (1, .int .i64 0), (2, .int .i64 (s.l.length : Int)), (3, .func (.func 49) #[] #[]), (8, .bool false), (9, .int .i64 (u : Int)), (10, .int .i64 0), (41, .bool ((u : Int) == (s.l.length : Int)))] (fun _ => by kernel_rfl) (endR ?_) : RT _ _ _ _ _ _ 3 _)
    rw [show ((u : Int) == (s.l.length : Int)) = true by rw [hu]; simp]
    refine condR (b := true) (by kernel_rfl) (fun _ => by kernel_rfl) (fun _ => ?_) (fun h => by cases h)
    refine seqR (by kernel_rfl) ?_
    refine regionR 1 (by kernel_rfl) (by kernel_rfl) ?_
    refine (run0 (z := 0) 1 [0, 1, 2, 3, 8, 9, 10] [(0, .slice s.a s.l.length s.c), (1, .int .i64 0), (2, .int .i64 (s.l.length : Int)), (3, .func (.func 49) #[] #[]), (8, .bool true), (9, .int .i64 (u : Int)), (10, .int .i64 0)] (fun _ => by kernel_rfl) (endR ?_) : RT _ _ _ _ _ _ 1 _)
    refine retR (by kernel_rfl) ?_
    refine thenV ?_
    refine blockV ?_
    refine thenV ?_
    refine thenV ?_
    refine blockV ?_
    refine thenV ?_
    refine done0 (.bool true) (fun _ => by kernel_rfl) (fun w hs => ?_) .ret (.inr rfl)
    exact ⟨(), rfl, hs⟩
set_option maxHeartbeats 1000000 in
set_option maxRecDepth 100000 in
theorem isort_walk (H : List SP) (s : SV (Int × Int)) (hk : KR H slE s) (hsr : SrtE s.l) (hl : s.l.length ≤ 64) : ∀ w, Sat w H → Calls Tryz.prog 71 #[.slice s.a s.l.length s.c, .int .i64 0, .int .i64 (s.l.length : Int), .func (.func 49) #[] #[]] w (Ret (ι := Unit) (fun _ => .tuple #[]) fun _ => H) := by
  refine enterG (fn := Tryz.f71) 53 [.slice s.a s.l.length s.c, .int .i64 0, .int .i64 (s.l.length : Int), .func (.func 49) #[] #[]] Tryz.func71 (by kernel_rfl) (by kernel_rfl) (by kernel_rfl) ?_
  refine seqR (by kernel_rfl) ?_
  refine regionR 3 (by kernel_rfl) (by kernel_rfl) ?_
  refine (run0 (z := 0) 3 [0, 1, 2, 3, 8] [(0, .slice s.a s.l.length s.c), (1, .int .i64 0), (2, .int .i64 (s.l.length : Int)), (3, .func (.func 49) #[] #[]), (8, .int .i64 (IntKind.i64.wrap (0 + 1)))] (fun _ => by kernel_rfl) (endR ?_) : RT _ _ _ _ _ _ 3 _)
  refine blockR 0 (by kernel_rfl) (by kernel_rfl) ?_
  rw [show IntKind.i64.wrap ((0 : Int) + 1) = 1 from rfl]
  refine PT.keep (L' := [(0, .slice s.a s.l.length s.c), (1, .int .i64 0), (2, .int .i64 (s.l.length : Int)), (3, .func (.func 49) #[] #[]), (8, .int .i64 1)]) [0, 1, 2, 3, 8] rfl ?_
  refine loopG (fun (u : Nat) => [(0, .slice s.a s.l.length s.c), (1, .int .i64 0), (2, .int .i64 (s.l.length : Int)), (3, .func (.func 49) #[] #[]), (8, .int .i64 (u : Int))]) (fun (u : Nat) => (H)) (fun k (u : Nat) => k = s.l.length - u ∧ 1 ≤ u) (s.l.length - 1) 1 (by kernel_rfl) ⟨rfl, by omega⟩ ?_
  rintro k u ⟨hku, hu1⟩
  refine seqR (by kernel_rfl) ?_
  refine seqR (by kernel_rfl) ?_
  refine regionR 3 (by kernel_rfl) (by kernel_rfl) ?_
  refine (run0 (z := 0) 3 [0, 1, 2, 3, 8, 14] [(0, .slice s.a s.l.length s.c), (1, .int .i64 0), (2, .int .i64 (s.l.length : Int)), (3, .func (.func 49) #[] #[]), (8, .int .i64 (u : Int)), (14, .bool (decide ((u : Int) < (s.l.length : Int))))] (fun _ => by kernel_rfl) (endR ?_) : RT _ _ _ _ _ _ 3 _)
  refine condR (b := decide ((u : Int) < (s.l.length : Int))) (by kernel_rfl) (fun _ => by kernel_rfl) (fun h1 => ?_) (fun h1 => ?_)
  · skip
    have hu : u < s.l.length := by have := of_decide_eq_true h1; omega
    obtain ⟨x, hx⟩ : ∃ x, s.l[u - 1]? = some x := ⟨s.l[u - 1]'(by omega), by simp⟩
    obtain ⟨y, hy⟩ : ∃ y, s.l[u]? = some y := ⟨s.l[u]'(by omega), by simp⟩
    refine skipR (by kernel_rfl) ?_
    refine seqR (by kernel_rfl) ?_
    refine blockR 1 (by kernel_rfl) (by kernel_rfl) ?_
    refine seqR (by kernel_rfl) ?_
    refine regionR 2 (by kernel_rfl) (by kernel_rfl) ?_
    refine (run0 (z := 0) 2 [0, 1, 2, 3, 8, 9] [(0, .slice s.a s.l.length s.c), (1, .int .i64 0), (2, .int .i64 (s.l.length : Int)), (3, .func (.func 49) #[] #[]), (8, .int .i64 (u : Int)), (9, .int .i64 (u : Int))] (fun _ => by kernel_rfl) (endR ?_) : RT _ _ _ _ _ _ 2 _)
    refine blockR 2 (by kernel_rfl) (by kernel_rfl) ?_
    refine PT.keep (L' := [(0, .slice s.a s.l.length s.c), (1, .int .i64 0), (2, .int .i64 (s.l.length : Int)), (3, .func (.func 49) #[] #[]), (8, .int .i64 (u : Int)), (9, .int .i64 (u : Int))]) [0, 1, 2, 3, 8, 9] rfl ?_
    refine loopG (fun (x : Unit) => [(0, .slice s.a s.l.length s.c), (1, .int .i64 0), (2, .int .i64 (s.l.length : Int)), (3, .func (.func 49) #[] #[]), (8, .int .i64 (u : Int)), (9, .int .i64 (u : Int))]) (fun (x : Unit) => (H)) (fun k (x : Unit) => k = 0) 0 () (by kernel_rfl) rfl ?_
    rintro k2 _ hk0
    refine seqR (by kernel_rfl) ?_
    refine seqR (by kernel_rfl) ?_
    refine drawR (fun w => Sat w (H)) [] 17 (by kernel_rfl) (by kernel_rfl) (by kernel_rfl) (fun _ h => by first | exact h | exact h.tail | exact h.tail.tail | exact h.tail.tail.tail | exact h.tail.tail.tail.tail) ?_
    refine takesR [0, 1, 2, 3] [0, 1, 2, 3, 8, 9, 21] 13 [true, true, true, true, false, false, false, false, false, false, false, false, false, false, false, false, false] [(0, .slice s.a s.l.length s.c), (1, .int .i64 0), (2, .int .i64 (s.l.length : Int)), (3, .func (.func 49) #[] #[]), (8, .int .i64 (u : Int)), (9, .int .i64 (u : Int)), (21, .bool (decide ((u : Int) > 0)))] [] rfl (fun _ d _ _ _ h => by cases d <;> exact h) (fun _ h => by first | exact h | exact h.tail | exact h.tail.tail | exact h.tail.tail.tail | exact h.tail.tail.tail.tail) has0 (fun _ => by kernel_rfl) ?_
    rw [show decide ((u : Int) > 0) = true by exact decide_eq_true (by omega)]
    refine PT.know ((hk).isSome (List.ne_nil_of_length_pos (by omega))) ?_
    rintro ⟨sb, so, hA⟩
    try rw [hA]
    refine takesR [4, 5, 6, 9, 10, 11] [0, 1, 2, 3, 8, 9, 21, 22, 23, 24, 27, 29] 7 [true, true, true, true, true, true, true, false, false, true, true, true, false, false, false, false, false] [(0, .slice (some ⟨sb, so, none⟩) s.l.length s.c), (1, .int .i64 0), (2, .int .i64 (s.l.length : Int)), (3, .func (.func 49) #[] #[]), (8, .int .i64 (u : Int)), (9, .int .i64 (u : Int)), (21, .bool true), (22, .func (.func 49) #[] #[]), (23, .slice (some ⟨sb, so, none⟩) s.l.length s.c), (24, .int .i64 (u : Int)), (27, .slice (some ⟨sb, so, none⟩) s.l.length s.c), (29, .int .i64 (IntKind.i64.wrap ((u : Int) - 1)))] [] rfl (fun _ d _ _ _ h => by cases d <;> exact h) (fun _ h => by first | exact h | exact h.tail | exact h.tail.tail | exact h.tail.tail.tail | exact h.tail.tail.tail.tail) has0 (fun _ => by kernel_rfl) ?_
    refine takeR1 7 6 [true, true, true, true, true, true, true, true, false, true, true, true, false, false, false, false, false] rfl rfl (by kernel_rfl) (fun _ d _ _ _ h => by cases d <;> exact h) (fun _ h => by first | exact h | exact h.tail | exact h.tail.tail | exact h.tail.tail.tail | exact h.tail.tail.tail.tail) (idxY 79 (.tmp 23) (.tmp 24) sb so s.l.length s.c u 2 65 (u : Int) .i64 (some 25) (fun _ => by kernel_rfl) (by kernel_rfl) (by kernel_rfl) (fun _ => by kernel_rfl) (fun _ => by kernel_rfl) Tryz.underlying79 (by kernel_rfl) (by first | rfl | assumption | simp) (by first | omega | (simp; done) | (simp; omega) | (simp at *; omega))) ?_
    refine takesR [8] [0, 1, 2, 3, 8, 9, 21, 22, 27, 29, 26] 5 [true, true, true, true, true, true, true, true, true, true, true, true, false, false, false, false, false] [(0, .slice (some ⟨sb, so, none⟩) s.l.length s.c), (1, .int .i64 0), (2, .int .i64 (s.l.length : Int)), (3, .func (.func 49) #[] #[]), (8, .int .i64 (u : Int)), (9, .int .i64 (u : Int)), (21, .bool true), (22, .func (.func 49) #[] #[]), (27, .slice (some ⟨sb, so, none⟩) s.l.length s.c), (29, .int .i64 (IntKind.i64.wrap ((u : Int) - 1))), (26, .agg #[.int .i64 y.1, .int .i64 y.2])] [(⟨sb, so + u * 2, none⟩, .int .i64 y.1), (⟨sb, so + u * 2 + 1, none⟩, .int .i64 y.2)] rfl (fun _ d _ _ _ h => by cases d <;> exact h) (fun _ h => by first | exact h | exact h.tail | exact h.tail.tail | exact h.tail.tail.tail | exact h.tail.tail.tail.tail) (hasC (hk.cell hA (i := u) (x := y) hy (j := 0) rfl) (hasC (hk.cell hA (i := u) (x := y) hy (j := 1) rfl) has0)) (fun _ => by kernel_rfl) ?_
    rw [show IntKind.i64.wrap ((u : Int) - 1) = ((u - 1 : Nat) : Int) by rw [IntKind.wrap_i64]; omega]
    refine takeR1 12 4 [true, true, true, true, true, true, true, true, true, true, true, true, true, false, false, false, false] rfl rfl (by kernel_rfl) (fun _ d _ _ _ h => by cases d <;> exact h) (fun _ h => by first | exact h | exact h.tail | exact h.tail.tail | exact h.tail.tail.tail | exact h.tail.tail.tail.tail) (idxY 79 (.tmp 27) (.tmp 29) sb so s.l.length s.c (u - 1) 2 65 ((u - 1 : Nat) : Int) .i64 (some 30) (fun _ => by kernel_rfl) (by kernel_rfl) (by kernel_rfl) (fun _ => by kernel_rfl) (fun _ => by kernel_rfl) Tryz.underlying79 (by kernel_rfl) (by first | rfl | assumption | simp) (by first | omega | (simp; done) | (simp; omega) | (simp at *; omega))) ?_
    refine takesR [13] [0, 1, 2, 3, 8, 9, 21, 22, 26, 31] 3 [true, true, true, true, true, true, true, true, true, true, true, true, true, true, false, false, false] [(0, .slice (some ⟨sb, so, none⟩) s.l.length s.c), (1, .int .i64 0), (2, .int .i64 (s.l.length : Int)), (3, .func (.func 49) #[] #[]), (8, .int .i64 (u : Int)), (9, .int .i64 (u : Int)), (21, .bool true), (22, .func (.func 49) #[] #[]), (26, .agg #[.int .i64 y.1, .int .i64 y.2]), (31, .agg #[.int .i64 x.1, .int .i64 x.2])] [(⟨sb, so + (u - 1) * 2, none⟩, .int .i64 x.1), (⟨sb, so + (u - 1) * 2 + 1, none⟩, .int .i64 x.2)] rfl (fun _ d _ _ _ h => by cases d <;> exact h) (fun _ h => by first | exact h | exact h.tail | exact h.tail.tail | exact h.tail.tail.tail | exact h.tail.tail.tail.tail) (hasC (hk.cell hA (i := u - 1) (x := x) hx (j := 0) rfl) (hasC (hk.cell hA (i := u - 1) (x := x) hx (j := 1) rfl) has0)) (fun _ => by kernel_rfl) ?_
    refine oneR 14 2 [true, true, true, true, true, true, true, true, true, true, true, true, true, true, true, false, false] rfl rfl (by kernel_rfl) (callS 49 [.agg #[.int .i64 y.1, .int .i64 y.2], .agg #[.int .i64 x.1, .int .i64 x.2]] (some 32) (fun _ => .int .i64 (byI (y.1, y.2) (x.1, x.2))) (fun (_ : Unit) => (H)) (fun _ => by kernel_rfl) (by_walk _ y.1 y.2 x.1 x.2)) (fun _ _ h hn => by first | exact h | exact h.tail | exact h.tail.tail | exact h.tail.tail.tail | exact h.tail.tail.tail.tail | exact absurd hn (by decide)) (fun _ => ?_)
    refine takesR [15, 16] [0, 1, 2, 3, 8, 9, 34] 0 [true, true, true, true, true, true, true, true, true, true, true, true, true, true, true, true, true] [(0, .slice (some ⟨sb, so, none⟩) s.l.length s.c), (1, .int .i64 0), (2, .int .i64 (s.l.length : Int)), (3, .func (.func 49) #[] #[]), (8, .int .i64 (u : Int)), (9, .int .i64 (u : Int)), (34, .bool (decide ((byI (y.1, y.2) (x.1, x.2)) < 0)))] [] rfl (fun _ d _ _ _ h => by cases d <;> exact h) (fun _ h => by first | exact h | exact h.tail | exact h.tail.tail | exact h.tail.tail.tail | exact h.tail.tail.tail.tail) has0 (fun _ => by kernel_rfl) ?_
    refine drawnR (by kernel_rfl) ?_
    try rw [← hA]
    rw [show decide ((byI (y.1, y.2) (x.1, x.2)) < 0) = false by exact hsr.not hx hy (by omega)]
    refine condR (b := false) (by kernel_rfl) (fun _ => by kernel_rfl) (fun h => by cases h) (fun _ => ?_)
    refine exitR 2 (by kernel_rfl) (by kernel_rfl) ?_
    refine thenX ?_
    refine thenX ?_
    refine leaveR ?_
    refine regionR 3 (by kernel_rfl) (by kernel_rfl) ?_
    refine (run0 (z := 0) 3 [0, 1, 2, 3, 8] [(0, .slice s.a s.l.length s.c), (1, .int .i64 0), (2, .int .i64 (s.l.length : Int)), (3, .func (.func 49) #[] #[]), (8, .int .i64 (IntKind.i64.wrap ((u : Int) + 1)))] (fun _ => by kernel_rfl) (endR ?_) : RT _ _ _ _ _ _ 3 _)
    rw [show IntKind.i64.wrap ((u : Int) + 1) = ((u + 1 : Nat) : Int) by rw [IntKind.wrap_i64]; omega]
    refine PT.keep (L' := [(0, .slice s.a s.l.length s.c), (1, .int .i64 0), (2, .int .i64 (s.l.length : Int)), (3, .func (.func 49) #[] #[]), (8, .int .i64 ((u + 1 : Nat) : Int))]) [0, 1, 2, 3, 8] rfl ?_
    exact againG (k - 1) (u + 1) rfl rfl (by omega) ⟨by omega, by omega⟩
  · skip
    refine exitR 0 (by kernel_rfl) (by kernel_rfl) ?_
    refine thenX ?_
    refine thenX ?_
    refine leaveR ?_
    refine done0 (.tuple #[]) (fun _ => by kernel_rfl) (fun w hs => ?_) .normal (.inl rfl)
    exact ⟨(), rfl, hs⟩
set_option maxHeartbeats 1000000 in
set_option maxRecDepth 100000 in
theorem pdq_walk (H : List SP) (s : SV (Int × Int)) (lim : Int) (hlim : 12 < s.l.length → lim ≠ 0) (hk : KR H slE s) (hsr : SrtE s.l) (hl : s.l.length ≤ 64) : ∀ w, Sat w H → Calls Tryz.prog 55 #[.slice s.a s.l.length s.c, .int .i64 0, .int .i64 (s.l.length : Int), .int .i64 lim, .func (.func 49) #[] #[]] w (Ret (ι := Unit) (fun _ => .tuple #[]) fun _ => H) := by
  refine enterG (fn := Tryz.f55) 148 [.slice s.a s.l.length s.c, .int .i64 0, .int .i64 (s.l.length : Int), .int .i64 lim, .func (.func 49) #[] #[]] Tryz.func55 (by kernel_rfl) (by kernel_rfl) (by kernel_rfl) ?_
  refine seqR (by kernel_rfl) ?_
  refine regionR 1 (by kernel_rfl) (by kernel_rfl) ?_
  refine (run0 (z := 0) 1 [0, 1, 2, 3, 4, 10] [(0, .slice s.a s.l.length s.c), (1, .int .i64 0), (2, .int .i64 (s.l.length : Int)), (3, .int .i64 lim), (4, .func (.func 49) #[] #[]), (10, .bool true)] (fun _ => by kernel_rfl) (endR ?_) : RT _ _ _ _ _ _ 1 _)
  refine seqR (by kernel_rfl) ?_
  refine regionR 1 (by kernel_rfl) (by kernel_rfl) ?_
  refine (run0 (z := 0) 1 [0, 1, 2, 3, 4, 10, 11] [(0, .slice s.a s.l.length s.c), (1, .int .i64 0), (2, .int .i64 (s.l.length : Int)), (3, .int .i64 lim), (4, .func (.func 49) #[] #[]), (10, .bool true), (11, .bool true)] (fun _ => by kernel_rfl) (endR ?_) : RT _ _ _ _ _ _ 1 _)
  refine blockR 0 (by kernel_rfl) (by kernel_rfl) ?_
  refine PT.keep (L' := [(0, .slice s.a s.l.length s.c), (1, .int .i64 0), (2, .int .i64 (s.l.length : Int)), (3, .int .i64 lim), (4, .func (.func 49) #[] #[]), (10, .bool true), (11, .bool true)]) [0, 1, 2, 3, 4, 10, 11] rfl ?_
  refine loopG (fun (x : Unit) => [(0, .slice s.a s.l.length s.c), (1, .int .i64 0), (2, .int .i64 (s.l.length : Int)), (3, .int .i64 lim), (4, .func (.func 49) #[] #[]), (10, .bool true), (11, .bool true)]) (fun (x : Unit) => (H)) (fun k (x : Unit) => k = 0) 0 () (by kernel_rfl) rfl ?_
  rintro k _ hk0
  refine blockR 1 (by kernel_rfl) (by kernel_rfl) ?_
  refine seqR (by kernel_rfl) ?_
  refine regionR 4 (by kernel_rfl) (by kernel_rfl) ?_
  refine (run0 (z := 0) 4 [0, 1, 2, 3, 4, 10, 11, 12] [(0, .slice s.a s.l.length s.c), (1, .int .i64 0), (2, .int .i64 (s.l.length : Int)), (3, .int .i64 lim), (4, .func (.func 49) #[] #[]), (10, .bool true), (11, .bool true), (12, .int .i64 (IntKind.i64.wrap ((s.l.length : Int) - 0)))] (fun _ => by kernel_rfl) (endR ?_) : RT _ _ _ _ _ _ 4 _)
  refine seqR (by kernel_rfl) ?_
  refine seqR (by kernel_rfl) ?_
  refine regionR 2 (by kernel_rfl) (by kernel_rfl) ?_
  refine (run0 (z := 0) 2 [0, 1, 2, 3, 4, 10, 11, 12, 25] [(0, .slice s.a s.l.length s.c), (1, .int .i64 0), (2, .int .i64 (s.l.length : Int)), (3, .int .i64 lim), (4, .func (.func 49) #[] #[]), (10, .bool true), (11, .bool true), (12, .int .i64 (IntKind.i64.wrap ((s.l.length : Int) - 0))), (25, .bool (decide ((IntKind.i64.wrap ((s.l.length : Int) - 0)) ≤ 12)))] (fun _ => by kernel_rfl) (endR ?_) : RT _ _ _ _ _ _ 2 _)
  rw [show IntKind.i64.wrap ((s.l.length : Int) - 0) = (s.l.length : Int) by rw [IntKind.wrap_i64]; omega]
  refine condR (b := decide ((s.l.length : Int) ≤ 12)) (by kernel_rfl) (fun _ => by kernel_rfl) (fun h1 => ?_) (fun h1 => ?_)
  · skip
    refine seqR (by kernel_rfl) ?_
    refine regionR 5 (by kernel_rfl) (by kernel_rfl) ?_
    refine (run0 (z := 1) 4 [0, 1, 2, 3, 4, 10, 11, 12, 26, 27, 28, 29] [(0, .slice s.a s.l.length s.c), (1, .int .i64 0), (2, .int .i64 (s.l.length : Int)), (3, .int .i64 lim), (4, .func (.func 49) #[] #[]), (10, .bool true), (11, .bool true), (12, .int .i64 (s.l.length : Int)), (26, .slice s.a s.l.length s.c), (27, .int .i64 0), (28, .int .i64 (s.l.length : Int)), (29, .func (.func 49) #[] #[])] (fun _ => by kernel_rfl) ?_ : RT _ _ _ _ _ _ 5 _)
    refine (stepR (z := 0) (callS 71 [.slice s.a s.l.length s.c, .int .i64 0, .int .i64 (s.l.length : Int), .func (.func 49) #[] #[]] (some 30) (fun _ => .tuple #[]) (fun _ => (H)) (fun _ => by kernel_rfl) (isort_walk _ s hk hsr hl)) (fun _ => ?_) : RT _ _ _ _ _ _ 1 _)
    refine endR ?_
    refine retR (by kernel_rfl) ?_
    refine thenV ?_
    refine blockV ?_
    refine thenV ?_
    refine blockV ?_
    refine done0 (.tuple #[]) (fun _ => by kernel_rfl) (fun w hs => ?_) .ret (.inr rfl)
    exact ⟨(), rfl, hs⟩
  · skip
    have hl2 : 12 < s.l.length := by have := of_decide_eq_false h1; omega
    refine skipR (by kernel_rfl) ?_
    refine seqR (by kernel_rfl) ?_
    refine seqR (by kernel_rfl) ?_
    refine regionR 2 (by kernel_rfl) (by kernel_rfl) ?_
    refine (run0 (z := 0) 2 [0, 1, 2, 3, 4, 10, 11, 12, 32] [(0, .slice s.a s.l.length s.c), (1, .int .i64 0), (2, .int .i64 (s.l.length : Int)), (3, .int .i64 lim), (4, .func (.func 49) #[] #[]), (10, .bool true), (11, .bool true), (12, .int .i64 (s.l.length : Int)), (32, .bool (lim == 0))] (fun _ => by kernel_rfl) (endR ?_) : RT _ _ _ _ _ _ 2 _)
    rw [show (lim == 0) = false from beq_eq_false_iff_ne.2 (hlim hl2)]
    refine condR (b := false) (by kernel_rfl) (fun _ => by kernel_rfl) (fun h => by cases h) (fun _ => ?_)
    refine skipR (by kernel_rfl) ?_
    refine seqR (by kernel_rfl) ?_
    refine seqR (by kernel_rfl) ?_
    refine regionR 2 (by kernel_rfl) (by kernel_rfl) ?_
    refine (run0 (z := 0) 2 [0, 1, 2, 3, 4, 10, 11, 12, 39] [(0, .slice s.a s.l.length s.c), (1, .int .i64 0), (2, .int .i64 (s.l.length : Int)), (3, .int .i64 lim), (4, .func (.func 49) #[] #[]), (10, .bool true), (11, .bool true), (12, .int .i64 (s.l.length : Int)), (39, .bool false)] (fun _ => by kernel_rfl) (endR ?_) : RT _ _ _ _ _ _ 2 _)
    refine condR (b := false) (by kernel_rfl) (fun _ => by kernel_rfl) (fun h => by cases h) (fun _ => ?_)
    refine skipR (by kernel_rfl) ?_
    refine seqR (by kernel_rfl) ?_
    refine regionR 10 (by kernel_rfl) (by kernel_rfl) ?_
    refine (run0 (z := 6) 4 [0, 1, 2, 3, 4, 10, 11, 12, 48, 49, 50, 51] [(0, .slice s.a s.l.length s.c), (1, .int .i64 0), (2, .int .i64 (s.l.length : Int)), (3, .int .i64 lim), (4, .func (.func 49) #[] #[]), (10, .bool true), (11, .bool true), (12, .int .i64 (s.l.length : Int)), (48, .slice s.a s.l.length s.c), (49, .int .i64 0), (50, .int .i64 (s.l.length : Int)), (51, .func (.func 49) #[] #[])] (fun _ => by kernel_rfl) ?_ : RT _ _ _ _ _ _ 10 _)
    refine (stepR (z := 5) (callS 74 [.slice s.a s.l.length s.c, .int .i64 0, .int .i64 (s.l.length : Int), .func (.func 49) #[] #[]] (some 52) (fun _ => .tuple #[.int .i64 ((s.l.length / 4 * 2 : Nat) : Int), .int .i64 1]) (fun _ => (H)) (fun _ => by kernel_rfl) (pivot_walk _ s hk hsr hl hl2)) (fun _ => ?_) : RT _ _ _ _ _ _ 6 _)
    refine (run0 (z := 0) 5 [0, 1, 2, 3, 4, 10, 11, 12, 13, 14] [(0, .slice s.a s.l.length s.c), (1, .int .i64 0), (2, .int .i64 (s.l.length : Int)), (3, .int .i64 lim), (4, .func (.func 49) #[] #[]), (10, .bool true), (11, .bool true), (12, .int .i64 (s.l.length : Int)), (13, .int .i64 ((s.l.length / 4 * 2 : Nat) : Int)), (14, .int .i64 1)] (fun _ => by kernel_rfl) (endR ?_) : RT _ _ _ _ _ _ 5 _)
    refine seqR (by kernel_rfl) ?_
    refine seqR (by kernel_rfl) ?_
    refine regionR 2 (by kernel_rfl) (by kernel_rfl) ?_
    refine (run0 (z := 0) 2 [0, 1, 2, 3, 4, 10, 11, 12, 13, 14, 56] [(0, .slice s.a s.l.length s.c), (1, .int .i64 0), (2, .int .i64 (s.l.length : Int)), (3, .int .i64 lim), (4, .func (.func 49) #[] #[]), (10, .bool true), (11, .bool true), (12, .int .i64 (s.l.length : Int)), (13, .int .i64 ((s.l.length / 4 * 2 : Nat) : Int)), (14, .int .i64 1), (56, .bool false)] (fun _ => by kernel_rfl) (endR ?_) : RT _ _ _ _ _ _ 2 _)
    refine condR (b := false) (by kernel_rfl) (fun _ => by kernel_rfl) (fun h => by cases h) (fun _ => ?_)
    refine skipR (by kernel_rfl) ?_
    refine seqR (by kernel_rfl) ?_
    refine seqR (by kernel_rfl) ?_
    refine regionR 8 (by kernel_rfl) (by kernel_rfl) ?_
    refine (run0 (z := 0) 8 [0, 1, 2, 3, 4, 10, 11, 12, 13, 75] [(0, .slice s.a s.l.length s.c), (1, .int .i64 0), (2, .int .i64 (s.l.length : Int)), (3, .int .i64 lim), (4, .func (.func 49) #[] #[]), (10, .bool true), (11, .bool true), (12, .int .i64 (s.l.length : Int)), (13, .int .i64 ((s.l.length / 4 * 2 : Nat) : Int)), (75, .bool true)] (fun _ => by kernel_rfl) (endR ?_) : RT _ _ _ _ _ _ 8 _)
    refine condR (b := true) (by kernel_rfl) (fun _ => by kernel_rfl) (fun _ => ?_) (fun h => by cases h)
    refine seqR (by kernel_rfl) ?_
    refine regionR 5 (by kernel_rfl) (by kernel_rfl) ?_
    refine (run0 (z := 1) 4 [0, 1, 2, 3, 4, 10, 11, 12, 13, 76, 77, 78, 79] [(0, .slice s.a s.l.length s.c), (1, .int .i64 0), (2, .int .i64 (s.l.length : Int)), (3, .int .i64 lim), (4, .func (.func 49) #[] #[]), (10, .bool true), (11, .bool true), (12, .int .i64 (s.l.length : Int)), (13, .int .i64 ((s.l.length / 4 * 2 : Nat) : Int)), (76, .slice s.a s.l.length s.c), (77, .int .i64 0), (78, .int .i64 (s.l.length : Int)), (79, .func (.func 49) #[] #[])] (fun _ => by kernel_rfl) ?_ : RT _ _ _ _ _ _ 5 _)
    refine (stepR (z := 0) (callS 76 [.slice s.a s.l.length s.c, .int .i64 0, .int .i64 (s.l.length : Int), .func (.func 49) #[] #[]] (some 80) (fun _ => .bool true) (fun _ => (H)) (fun _ => by kernel_rfl) (partial_walk _ s hk hsr hl hl2)) (fun _ => ?_) : RT _ _ _ _ _ _ 1 _)
    refine endR ?_
    refine condR (b := true) (by kernel_rfl) (fun _ => by kernel_rfl) (fun _ => ?_) (fun h => by cases h)
    refine retR (by kernel_rfl) ?_
    refine thenV ?_
    refine blockV ?_
    refine thenV ?_
    refine blockV ?_
    refine done0 (.tuple #[]) (fun _ => by kernel_rfl) (fun w hs => ?_) .ret (.inr rfl)
    exact ⟨(), rfl, hs⟩
set_option maxRecDepth 100000 in
theorem sort_walk (H : List SP) (s : SV (Int × Int)) (hk : KR H slE s) (hsr : SrtE s.l) (hl : s.l.length ≤ 64) : ∀ w, Sat w H → Calls Tryz.prog 48 #[.slice s.a s.l.length s.c, .func (.func 49) #[] #[]] w (Ret (ι := Unit) (fun _ => .tuple #[]) fun _ => H) := by
  refine enterG (fn := Tryz.f48) 14 [.slice s.a s.l.length s.c, .func (.func 49) #[] #[]] Tryz.func48 (by kernel_rfl) (by kernel_rfl) (by kernel_rfl) ?_
  refine seqR (by kernel_rfl) ?_
  refine regionR 3 (by kernel_rfl) (by kernel_rfl) ?_
  refine (run0 (z := 0) 3 [0, 1, 4] [(0, .slice s.a s.l.length s.c), (1, .func (.func 49) #[] #[]), (4, .int .i64 (s.l.length : Int))] (fun _ => by kernel_rfl) (endR ?_) : RT _ _ _ _ _ _ 3 _)
  refine regionR 7 (by kernel_rfl) (by kernel_rfl) ?_
  refine (run0 (z := 3) 4 [1, 7, 8, 10] [(1, .func (.func 49) #[] #[]), (7, .slice s.a s.l.length s.c), (8, .int .i64 (s.l.length : Int)), (10, .int .u64 (IntKind.u64.wrap (s.l.length : Int)))] (fun _ => by kernel_rfl) ?_ : RT _ _ _ _ _ _ 7 _)
  rw [show IntKind.u64.wrap (s.l.length : Int) = (s.l.length : Int) by rw [IntKind.wrap_u64]; omega]
  refine (stepR (z := 2) (callS 52 [.int .u64 (s.l.length : Int)] (some 11) (fun _ => .int .i64 (len8 (s.l.length : Int))) (fun _ => (H)) (fun _ => by kernel_rfl) (bitsLen_walk _ (s.l.length : Int) (by omega) (by omega))) (fun _ => ?_) : RT _ _ _ _ _ _ 3 _)
  refine (run0 (z := 1) 1 [11, 7, 8, 12] [(11, .int .i64 (len8 (s.l.length : Int))), (7, .slice s.a s.l.length s.c), (8, .int .i64 (s.l.length : Int)), (12, .func (.func 49) #[] #[])] (fun _ => by kernel_rfl) ?_ : RT _ _ _ _ _ _ 2 _)
  refine (stepR (z := 0) (callS 55 [.slice s.a s.l.length s.c, .int .i64 0, .int .i64 (s.l.length : Int), .int .i64 (len8 (s.l.length : Int)), .func (.func 49) #[] #[]] (some 13) (fun _ => .tuple #[]) (fun _ => (H)) (fun _ => by kernel_rfl) (pdq_walk _ s (len8 (s.l.length : Int)) (fun h => by have := (len8_big ⟨s.l.length, by omega⟩).2.2 h; exact this) hk hsr hl)) (fun _ => ?_) : RT _ _ _ _ _ _ 1 _)
  refine endR ?_
  refine done0 (.tuple #[]) (fun _ => by kernel_rfl) (fun w hs => ?_) .normal (.inl rfl)
  exact ⟨(), rfl, hs⟩
end Go.Proofs.YtjbjngikaiggdaaGreat
