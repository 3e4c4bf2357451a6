/- PassqSorts: its walk. Conditions: none. -/
import Derived.Test.YtpojhpmhcjiidaaPqr
set_option linter.unusedVariables false
set_option linter.unusedSimpArgs false
namespace Go.Proofs.Ytpojhpmhcjiidaa
open Go.RowKit G
/-- What has been put by turns, from a place on. -/
def InP (l : List Int) (f : Nat) (u : Nat) (xs : List (Int × Int)) : Prop := xs.length = u ∧ SrtE xs ∧ ∀ x ∈ xs, ∃ i y, i < u ∧ x.2 = (((i + f) % l.length : Nat) : Int) ∧ l[(i + f) % l.length]? = some y ∧ x.1 = y
theorem turn_ne {n f i j : Nat} (hi : i < n) (hj : j < i) : (i + f) % n ≠ (j + f) % n := by
  intro h
  have h1 := Nat.mod_add_div (i + f) n
  have h2 := Nat.mod_add_div (j + f) n
  obtain ⟨a, ha⟩ : ∃ a, a = (i + f) / n := ⟨_, rfl⟩
  obtain ⟨b, hb⟩ : ∃ b, b = (j + f) / n := ⟨_, rfl⟩
  rw [← ha] at h1
  rw [← hb, ← h] at h2
  have hab : b < a := by
    apply Classical.byContradiction
    intro hn
    have := Nat.mul_le_mul_left n (show a ≤ b by omega)
    omega
  have := Nat.mul_le_mul_left n (show b + 1 ≤ a by omega)
  rw [Nat.mul_add] at this
  omega
theorem inP_put {l : List Int} {f u : Nat} {xs : List (Int × Int)} {y : Int} (h : InP l f u xs) (hu : u < l.length) (hy : l[(u + f) % l.length]? = some y) :
    (∀ e ∈ xs, e.2 ≠ (((u + f) % l.length : Nat) : Int)) ∧ InP l f (u + 1) (insE (y, (((u + f) % l.length : Nat) : Int)) xs) := by
  obtain ⟨h1, h2, h3⟩ := h
  have hne : ∀ e ∈ xs, e.2 ≠ (((u + f) % l.length : Nat) : Int) := by
    intro e he hh
    obtain ⟨i, y', hi, e2, _, _⟩ := h3 e he
    have := turn_ne (f := f) hu hi
    omega
  refine ⟨hne, by rw [insE_len, h1], h2.ins (fun x hx hh => hne x hx (by rw [hh])), fun x hx => ?_⟩
  rcases mem_insE.1 hx with rfl | hx
  · exact ⟨u, y, by omega, rfl, hy, rfl⟩
  · obtain ⟨i, y', hi, e2, e3, e4⟩ := h3 x hx
    exact ⟨i, y', by omega, e2, e3, e4⟩
/-- What may be taken out. -/
def OutP (l : List Int) (xs : List (Int × Int)) : Prop := SrtE xs ∧ ∀ x ∈ xs, ∃ (j : Nat) (y : Int), j < l.length ∧ x.2 = (j : Int) ∧ l[j]? = some y ∧ x.1 = y
theorem inP_out {l : List Int} {f : Nat} {xs : List (Int × Int)} (h : InP l f l.length xs) : OutP l xs := ⟨h.2.1, fun x hx => by
  obtain ⟨i, y, hi, e2, e3, e4⟩ := h.2.2 x hx
  exact ⟨_, y, Nat.mod_lt _ (by omega), e2, e3, e4⟩⟩
theorem drop_head {e : Int × Int} {r : List (Int × Int)} : dropE (e :: r) e.2 = (0, r) := by
  have : findI (e :: r) e.2 = (0 : Nat) := find_some (i := 0) rfl rfl (fun v _ hv => by omega)
  rw [dropE, this]
  simp
set_option maxHeartbeats 1000000 in
set_option maxRecDepth 100000 in
theorem sorts_walk (H : List SP) (s : SV Int) (f : Int) (hk : KR H (kE .u16) s) (hw16 : ∀ x ∈ s.l, 0 ≤ x ∧ x < 65536) (hf : 0 ≤ f ∧ f < 256) : ∀ w, Sat w H → Calls Try.prog 3 #[.slice s.a s.l.length s.c, .int .u8 f] w (Ret (ι := Unit) (fun _ => .bool true) fun _ => H) := by
  obtain ⟨g, hg⟩ : ∃ g : Nat, f = (g : Int) := ⟨f.toNat, by omega⟩
  subst hg
  refine enterG (fn := Try.f3) 119 [.slice s.a s.l.length s.c, .int .u8 (g : Int)] Try.func3 (by kernel_rfl) (by kernel_rfl) (by kernel_rfl) ?_
  refine seqR (by kernel_rfl) ?_
  refine regionR 1 (by kernel_rfl) (by kernel_rfl) ?_
  refine (run0 (z := 0) 1 [0, 1, 4] [(0, .slice s.a s.l.length s.c), (1, .int .u8 (g : Int)), (4, .bool false)] (fun _ => by kernel_rfl) (endR ?_) : RT _ _ _ _ _ _ 1 _)
  refine seqR (by kernel_rfl) ?_
  refine seqR (by kernel_rfl) ?_
  refine regionR 2 (by kernel_rfl) (by kernel_rfl) ?_
  refine (stepR (z := 1) (callS 7 [] (some 15) (fun _ => .bool true) (fun (_ : Unit) => (H)) (fun _ => by kernel_rfl) (known_true _)) (fun _ => ?_) : RT _ _ _ _ _ _ 2 _)
  refine (run0 (z := 0) 1 [0, 1, 4, 16] [(0, .slice s.a s.l.length s.c), (1, .int .u8 (g : Int)), (4, .bool false), (16, .bool false)] (fun _ => by kernel_rfl) (endR ?_) : RT _ _ _ _ _ _ 1 _)
  refine condR (b := false) (by kernel_rfl) (fun _ => by kernel_rfl) (fun h => by cases h) (fun _ => ?_)
  refine skipR (by kernel_rfl) ?_
  refine seqR (by kernel_rfl) ?_
  refine seqR (by kernel_rfl) ?_
  refine regionR 3 (by kernel_rfl) (by kernel_rfl) ?_
  refine (run0 (z := 0) 3 [0, 1, 4, 19] [(0, .slice s.a s.l.length s.c), (1, .int .u8 (g : Int)), (4, .bool false), (19, .bool (decide ((s.l.length : Int) > 60)))] (fun _ => by kernel_rfl) (endR ?_) : RT _ _ _ _ _ _ 3 _)
  refine condR (b := decide ((s.l.length : Int) > 60)) (by kernel_rfl) (fun _ => by kernel_rfl) (fun h0 => ?_) (fun h0 => ?_)
  · skip
    refine seqR (by kernel_rfl) ?_
    refine regionR 1 (by kernel_rfl) (by kernel_rfl) ?_
    refine (run0 (z := 0) 1 [0, 1, 4] [(0, .slice s.a s.l.length s.c), (1, .int .u8 (g : Int)), (4, .bool true)] (fun _ => by kernel_rfl) (endR ?_) : RT _ _ _ _ _ _ 1 _)
    refine retR (by kernel_rfl) ?_
    refine thenV ?_
    refine done0 (.bool true) (fun _ => by kernel_rfl) (fun w hs => ?_) .ret (.inr rfl)
    exact ⟨(), rfl, hs⟩
  · skip
    have hl : s.l.length ≤ 60 := by have := of_decide_eq_false h0; omega
    refine skipR (by kernel_rfl) ?_
    refine seqR (by kernel_rfl) ?_
    refine regionR 2 (by kernel_rfl) (by kernel_rfl) ?_
    refine (stepR (z := 1) (callS 8 [.int .i64 64] (some 20) (fun (b : Nat) => .pointer (some ⟨b, 0, none⟩)) (fun (b : Nat) => idxS b 64 ([] : List (Int × Int)) :: H) (fun _ => by kernel_rfl) (new_walk _ 64)) (fun (b : Nat) => ?_) : RT _ _ _ _ _ _ 2 _)
    refine (run0 (z := 0) 1 [0, 1, 4, 5] [(0, .slice s.a s.l.length s.c), (1, .int .u8 (g : Int)), (4, .bool false), (5, .pointer (some ⟨b, 0, none⟩))] (fun _ => by kernel_rfl) (endR ?_) : RT _ _ _ _ _ _ 1 _)
    refine seqR (by kernel_rfl) ?_
    refine regionR 3 (by kernel_rfl) (by kernel_rfl) ?_
    refine (run0 (z := 0) 3 [0, 1, 4, 5, 6] [(0, .slice s.a s.l.length s.c), (1, .int .u8 (g : Int)), (4, .bool false), (5, .pointer (some ⟨b, 0, none⟩)), (6, .int .i64 (s.l.length : Int))] (fun _ => by kernel_rfl) (endR ?_) : RT _ _ _ _ _ _ 3 _)
    refine seqR (by kernel_rfl) ?_
    refine seqR (by kernel_rfl) ?_
    refine regionR 1 (by kernel_rfl) (by kernel_rfl) ?_
    refine (run0 (z := 0) 1 [0, 1, 4, 5, 6, 7] [(0, .slice s.a s.l.length s.c), (1, .int .u8 (g : Int)), (4, .bool false), (5, .pointer (some ⟨b, 0, none⟩)), (6, .int .i64 (s.l.length : Int)), (7, .int .i64 0)] (fun _ => by kernel_rfl) (endR ?_) : RT _ _ _ _ _ _ 1 _)
    refine blockR 0 (by kernel_rfl) (by kernel_rfl) ?_
    refine PT.keep (L' := [(0, .slice s.a s.l.length s.c), (1, .int .u8 (g : Int)), (4, .bool false), (5, .pointer (some ⟨b, 0, none⟩)), (6, .int .i64 (s.l.length : Int)), (7, .int .i64 0)]) [0, 1, 4, 5, 6, 7] rfl ?_
    refine loopG (fun (x : List (Int × Int) × Nat) => [(0, .slice s.a s.l.length s.c), (1, .int .u8 (g : Int)), (4, .bool false), (5, .pointer (some ⟨b, 0, none⟩)), (6, .int .i64 (s.l.length : Int)), (7, .int .i64 (x.2 : Int))]) (fun (x : List (Int × Int) × Nat) => (idxS b 64 x.1 :: H)) (fun k (x : List (Int × Int) × Nat) => k + x.2 = s.l.length ∧ InP s.l g x.2 x.1) s.l.length ([], 0) (by kernel_rfl) ⟨by simp, rfl, List.Pairwise.nil, fun x hx => by simp at hx⟩ ?_
    rintro k ⟨xs, u⟩ ⟨hku, hin⟩
    dsimp only at hku hin ⊢
    refine seqR (by kernel_rfl) ?_
    refine seqR (by kernel_rfl) ?_
    refine regionR 3 (by kernel_rfl) (by kernel_rfl) ?_
    refine (run0 (z := 0) 3 [0, 1, 4, 5, 6, 7, 25] [(0, .slice s.a s.l.length s.c), (1, .int .u8 (g : Int)), (4, .bool false), (5, .pointer (some ⟨b, 0, none⟩)), (6, .int .i64 (s.l.length : Int)), (7, .int .i64 (u : Int)), (25, .bool (decide ((u : Int) < (s.l.length : Int))))] (fun _ => by kernel_rfl) (endR ?_) : RT _ _ _ _ _ _ 3 _)
    refine condR (b := decide ((u : Int) < (s.l.length : Int))) (by kernel_rfl) (fun _ => by kernel_rfl) (fun h1 => ?_) (fun h1 => ?_)
    · skip
      have hu : u < s.l.length := by have := of_decide_eq_true h1; omega
      refine skipR (by kernel_rfl) ?_
      refine seqR (by kernel_rfl) ?_
      refine blockR 1 (by kernel_rfl) (by kernel_rfl) ?_
      refine seqR (by kernel_rfl) ?_
      refine regionR 7 (by kernel_rfl) (by kernel_rfl) ?_
      refine (run0 (z := 2) 5 [0, 1, 4, 5, 6, 7, 31, 32] [(0, .slice s.a s.l.length s.c), (1, .int .u8 (g : Int)), (4, .bool false), (5, .pointer (some ⟨b, 0, none⟩)), (6, .int .i64 (s.l.length : Int)), (7, .int .i64 (u : Int)), (31, .int .i64 (IntKind.i64.wrap ((u : Int) + (IntKind.i64.wrap (g : Int))))), (32, .int .i64 (s.l.length : Int))] (fun _ => by kernel_rfl) ?_ : RT _ _ _ _ _ _ 7 _)
      rw [show IntKind.i64.wrap (g : Int) = (g : Int) by rw [IntKind.wrap_i64]; omega]
      rw [show IntKind.i64.wrap ((u : Int) + (g : Int)) = ((u + g : Nat) : Int) by rw [IntKind.wrap_i64]; omega]
      refine (stepR (z := 1) (yldS (binY .rem 3 3 (.tmp 31) (.tmp 32) (.int .i64 ((u + g : Nat) : Int)) (.int .i64 (s.l.length : Int)) (.int .i64 (((u + g : Nat) : Int).tmod (s.l.length : Int))) (some 33) (fun _ => by kernel_rfl) (by kernel_rfl) (by kernel_rfl) (fun _ => by kernel_rfl) (fun _ => by kernel_rfl) (remR (t' := 0) (by omega)))) (fun _ => ?_) : RT _ _ _ _ _ _ 2 _)
      obtain ⟨m, hm⟩ : ∃ m, m = (u + g) % s.l.length := ⟨_, rfl⟩
      have hml : m < s.l.length := by rw [hm]; exact Nat.mod_lt _ (by omega)
      rw [show ((u + g : Nat) : Int).tmod (s.l.length : Int) = (m : Int) by rw [Int.tmod_eq_emod_of_nonneg (by omega), hm, Int.natCast_emod]]
      obtain ⟨y, hy⟩ : ∃ y, s.l[m]? = some y := ⟨_, by simp [hml]; rfl⟩
      have hyb := hw16 y (List.mem_of_getElem? hy)
      obtain ⟨q1, q2⟩ := inP_put hin hu (by rw [← hm]; exact hy)
      rw [← hm] at q1 q2
      refine PT.know ((hk).up.isSome (List.ne_nil_of_length_pos (by omega))) ?_
      rintro ⟨sb, so, hA⟩
      try rw [hA]
      refine (run0 (z := 0) 1 [0, 1, 4, 5, 6, 7, 8] [(0, .slice (some ⟨sb, so, none⟩) s.l.length s.c), (1, .int .u8 (g : Int)), (4, .bool false), (5, .pointer (some ⟨b, 0, none⟩)), (6, .int .i64 (s.l.length : Int)), (7, .int .i64 (u : Int)), (8, .int .i64 (m : Int))] (fun _ => by kernel_rfl) (endR ?_) : RT _ _ _ _ _ _ 1 _)
      refine seqR (by kernel_rfl) ?_
      refine regionR 9 (by kernel_rfl) (by kernel_rfl) ?_
      refine (run0 (z := 6) 3 [0, 1, 4, 5, 6, 7, 8, 34, 35, 36] [(0, .slice (some ⟨sb, so, none⟩) s.l.length s.c), (1, .int .u8 (g : Int)), (4, .bool false), (5, .pointer (some ⟨b, 0, none⟩)), (6, .int .i64 (s.l.length : Int)), (7, .int .i64 (u : Int)), (8, .int .i64 (m : Int)), (34, .pointer (some ⟨b, 0, none⟩)), (35, .slice (some ⟨sb, so, none⟩) s.l.length s.c), (36, .int .i64 (m : Int))] (fun _ => by kernel_rfl) ?_ : RT _ _ _ _ _ _ 9 _)
      refine (stepR (z := 5) (yldS (idxY 22 (.tmp 35) (.tmp 36) sb so s.l.length s.c m 1 29 (m : Int) .i64 (some 37) (fun _ => by kernel_rfl) (by kernel_rfl) (by kernel_rfl) (fun _ => by kernel_rfl) (fun _ => by kernel_rfl) Try.underlying22 (by kernel_rfl) (by first | rfl | assumption | simp) (by first | omega | (simp; done) | (simp; omega) | (simp at *; omega)))) (fun _ => ?_) : RT _ _ _ _ _ _ 6 _)
      refine (runR (H := (idxS b 64 xs :: H)) (z := 2) 3 [0, 1, 4, 5, 6, 7, 34, 39, 40] [(0, .slice (some ⟨sb, so, none⟩) s.l.length s.c), (1, .int .u8 (g : Int)), (4, .bool false), (5, .pointer (some ⟨b, 0, none⟩)), (6, .int .i64 (s.l.length : Int)), (7, .int .i64 (u : Int)), (34, .pointer (some ⟨b, 0, none⟩)), (39, .int .i64 (IntKind.i64.wrap y)), (40, .int .i64 (m : Int))] [(⟨sb, so + m * 1, none⟩, .int .u16 y)] (hasC (up (hk.cell hA (i := m) (x := y) hy (j := 0) rfl)) has0) (fun _ => by kernel_rfl) ?_ : RT _ _ _ _ _ _ 5 _)
      try rw [← hA]
      rw [show IntKind.i64.wrap y = y by rw [IntKind.wrap_i64]; omega]
      refine (stepR (z := 1) (callS 9 [.pointer (some ⟨b, 0, none⟩), .int .i64 y, .int .i64 (m : Int)] (some 41) (fun _ => .nilIface) (fun _ => (idxS b 64 (insE (y, (m : Int)) xs) :: H)) (fun _ => by kernel_rfl) (put_ok (l' := insE (y, (m : Int)) xs) (putE_ok (by omega) (by omega) q1 (by have := hin.1; omega)) hin.2.1 (by have := hin.1; omega) _ b)) (fun _ => ?_) : RT _ _ _ _ _ _ 2 _)
      refine (run0 (z := 0) 1 [0, 1, 4, 5, 6, 7, 42] [(0, .slice s.a s.l.length s.c), (1, .int .u8 (g : Int)), (4, .bool false), (5, .pointer (some ⟨b, 0, none⟩)), (6, .int .i64 (s.l.length : Int)), (7, .int .i64 (u : Int)), (42, .bool false)] (fun _ => by kernel_rfl) (endR ?_) : RT _ _ _ _ _ _ 1 _)
      refine condR (b := false) (by kernel_rfl) (fun _ => by kernel_rfl) (fun h => by cases h) (fun _ => ?_)
      refine skipR (by kernel_rfl) ?_
      refine regionR 3 (by kernel_rfl) (by kernel_rfl) ?_
      refine (run0 (z := 0) 3 [0, 1, 4, 5, 6, 7] [(0, .slice s.a s.l.length s.c), (1, .int .u8 (g : Int)), (4, .bool false), (5, .pointer (some ⟨b, 0, none⟩)), (6, .int .i64 (s.l.length : Int)), (7, .int .i64 (IntKind.i64.wrap ((u : Int) + 1)))] (fun _ => by kernel_rfl) (endR ?_) : RT _ _ _ _ _ _ 3 _)
      rw [show IntKind.i64.wrap ((u : Int) + 1) = ((u + 1 : Nat) : Int) by rw [IntKind.wrap_i64]; omega]
      refine PT.keep (L' := [(0, .slice s.a s.l.length s.c), (1, .int .u8 (g : Int)), (4, .bool false), (5, .pointer (some ⟨b, 0, none⟩)), (6, .int .i64 (s.l.length : Int)), (7, .int .i64 ((u + 1 : Nat) : Int))]) [0, 1, 4, 5, 6, 7] rfl ?_
      exact againG (k - 1) (insE (y, (m : Int)) xs, u + 1) rfl rfl (by omega) ⟨by simp only; omega, q2⟩
    · skip
      have hu : u = s.l.length := by have := of_decide_eq_false h1; omega
      rw [hu] at hin
      have hout := inP_out hin
      have hxl := hin.1
      refine exitR 0 (by kernel_rfl) (by kernel_rfl) ?_
      refine thenX ?_
      refine thenX ?_
      refine leaveR ?_
      refine seqR (by kernel_rfl) ?_
      refine regionR 3 (by kernel_rfl) (by kernel_rfl) ?_
      refine (run0 (z := 2) 1 [0, 4, 5, 6, 43] [(0, .slice s.a s.l.length s.c), (4, .bool false), (5, .pointer (some ⟨b, 0, none⟩)), (6, .int .i64 (s.l.length : Int)), (43, .agg #[.int .i64 (-1), .int .i64 0])] (fun _ => by kernel_rfl) ?_ : RT _ _ _ _ _ _ 3 _)
      refine (stepR (z := 1) (newS 31 [.int .i64 0, .int .i64 0] (some 9) (fun b => .pointer (some ⟨b, 0, none⟩)) (fun _ _ => by kernel_rfl)) (fun b1 => ?_) : RT _ _ _ _ _ _ 2 _)
      refine (stepR (z := 0) (storeS [(0, .int .i64 (-1)), (1, .int .i64 0)] [.int .i64 (-1), .int .i64 0] (fun _ => by kernel_rfl) (by kernel_rfl) (by kernel_rfl)) (fun _ => ?_) : RT _ _ _ _ _ _ 1 _)
      refine endR ?_
      refine seqR (by kernel_rfl) ?_
      refine seqR (by kernel_rfl) ?_
      refine regionR 1 (by kernel_rfl) (by kernel_rfl) ?_
      refine (run0 (z := 0) 1 [9, 0, 4, 5, 6, 10] [(9, .pointer (some ⟨b1, 0, none⟩)), (0, .slice s.a s.l.length s.c), (4, .bool false), (5, .pointer (some ⟨b, 0, none⟩)), (6, .int .i64 (s.l.length : Int)), (10, .int .i64 0)] (fun _ => by kernel_rfl) (endR ?_) : RT _ _ _ _ _ _ 1 _)
      refine blockR 2 (by kernel_rfl) (by kernel_rfl) ?_
      refine PT.keep (L' := [(0, .slice s.a s.l.length s.c), (4, .bool false), (5, .pointer (some ⟨b, 0, none⟩)), (6, .int .i64 (s.l.length : Int)), (9, .pointer (some ⟨b1, 0, none⟩)), (10, .int .i64 0)]) [0, 4, 5, 6, 9, 10] rfl ?_
      refine loopG (fun (x : List (Int × Int) × (Int × Int) × Nat) => [(0, .slice s.a s.l.length s.c), (4, .bool false), (5, .pointer (some ⟨b, 0, none⟩)), (6, .int .i64 (s.l.length : Int)), (9, .pointer (some ⟨b1, 0, none⟩)), (10, .int .i64 (x.2.2 : Int))]) (fun (x : List (Int × Int) × (Int × Int) × Nat) => (blk b1 31 [.int .i64 x.2.1.1, .int .i64 x.2.1.2] :: idxS b 64 x.1 :: H)) (fun k (x : List (Int × Int) × (Int × Int) × Nat) => k + x.2.2 = s.l.length ∧ x.1.length = k ∧ OutP s.l x.1 ∧ ∀ y ∈ x.1, eLt x.2.1 y) s.l.length (xs, (-1, 0), 0) (by kernel_rfl) ⟨by simp, hxl, hout, fun y hy => by obtain ⟨j, z, _, _, hz, hz2⟩ := hout.2 y hy; have := hw16 z (List.mem_of_getElem? hz); left; simp only; omega⟩ ?_
      rintro k2 ⟨ys, ⟨la, lb⟩, v⟩ ⟨hkv, hyl, hyo, hlast⟩
      dsimp only at hkv hyl hyo hlast ⊢
      refine seqR (by kernel_rfl) ?_
      refine seqR (by kernel_rfl) ?_
      refine regionR 3 (by kernel_rfl) (by kernel_rfl) ?_
      refine (run0 (z := 0) 3 [0, 4, 5, 6, 9, 10, 46] [(0, .slice s.a s.l.length s.c), (4, .bool false), (5, .pointer (some ⟨b, 0, none⟩)), (6, .int .i64 (s.l.length : Int)), (9, .pointer (some ⟨b1, 0, none⟩)), (10, .int .i64 (v : Int)), (46, .bool (decide ((v : Int) < (s.l.length : Int))))] (fun _ => by kernel_rfl) (endR ?_) : RT _ _ _ _ _ _ 3 _)
      refine condR (b := decide ((v : Int) < (s.l.length : Int))) (by kernel_rfl) (fun _ => by kernel_rfl) (fun h2 => ?_) (fun h2 => ?_)
      · skip
        have hv : v < s.l.length := by have := of_decide_eq_true h2; omega
        obtain ⟨e, r, rfl⟩ : ∃ e r, ys = e :: r := List.exists_cons_of_length_pos (by omega)
        obtain ⟨p, q⟩ := e
        obtain ⟨j, y, hj, he2, hy, he1⟩ := hyo.2 (p, q) (by simp)
        dsimp only at he2 he1
        subst he2
        subst he1
        have hpb := hw16 p (List.mem_of_getElem? hy)
        have hlp := hlast (p, (j : Int)) (by simp)
        have hs2 := List.pairwise_cons.1 hyo.1
        refine skipR (by kernel_rfl) ?_
        refine seqR (by kernel_rfl) ?_
        refine blockR 3 (by kernel_rfl) (by kernel_rfl) ?_
        refine seqR (by kernel_rfl) ?_
        refine regionR 8 (by kernel_rfl) (by kernel_rfl) ?_
        refine (run0 (z := 7) 1 [0, 4, 5, 6, 9, 10, 50] [(0, .slice s.a s.l.length s.c), (4, .bool false), (5, .pointer (some ⟨b, 0, none⟩)), (6, .int .i64 (s.l.length : Int)), (9, .pointer (some ⟨b1, 0, none⟩)), (10, .int .i64 (v : Int)), (50, .pointer (some ⟨b, 0, none⟩))] (fun _ => by kernel_rfl) ?_ : RT _ _ _ _ _ _ 8 _)
        refine PT.know ((hk).up.up.isSome (List.ne_nil_of_length_pos (by omega))) ?_
        rintro ⟨sb, so, hA⟩
        try rw [hA]
        refine (stepR (z := 6) (callS 10 [.pointer (some ⟨b, 0, none⟩)] (some 51) (fun _ => .tuple #[.agg #[.int .i64 p, .int .i64 (j : Int)], .bool true]) (fun _ => (blk b1 31 [.int .i64 la, .int .i64 lb] :: idxS b 64 ((p, (j : Int)) :: r) :: H)) (fun _ => by kernel_rfl) (same_at 1 rfl (min_idx _ b 64 ((p, (j : Int)) :: r)))) (fun _ => ?_) : RT _ _ _ _ _ _ 7 _)
        refine (run0 (z := 3) 3 [0, 4, 5, 6, 9, 10, 52, 53] [(0, .slice (some ⟨sb, so, none⟩) s.l.length s.c), (4, .bool false), (5, .pointer (some ⟨b, 0, none⟩)), (6, .int .i64 (s.l.length : Int)), (9, .pointer (some ⟨b1, 0, none⟩)), (10, .int .i64 (v : Int)), (52, .agg #[.int .i64 p, .int .i64 (j : Int)]), (53, .bool true)] (fun _ => by kernel_rfl) ?_ : RT _ _ _ _ _ _ 6 _)
        refine (stepR (z := 2) (newS 31 [.int .i64 0, .int .i64 0] (some 11) (fun b => .pointer (some ⟨b, 0, none⟩)) (fun _ _ => by kernel_rfl)) (fun b2 => ?_) : RT _ _ _ _ _ _ 3 _)
        refine (stepR (z := 1) (storeS [(0, .int .i64 p), (1, .int .i64 (j : Int))] [.int .i64 p, .int .i64 (j : Int)] (fun _ => by kernel_rfl) (by kernel_rfl) (by kernel_rfl)) (fun _ => ?_) : RT _ _ _ _ _ _ 2 _)
        refine (run0 (z := 0) 1 [11, 0, 4, 5, 6, 9, 10, 12] [(11, .pointer (some ⟨b2, 0, none⟩)), (0, .slice (some ⟨sb, so, none⟩) s.l.length s.c), (4, .bool false), (5, .pointer (some ⟨b, 0, none⟩)), (6, .int .i64 (s.l.length : Int)), (9, .pointer (some ⟨b1, 0, none⟩)), (10, .int .i64 (v : Int)), (12, .bool true)] (fun _ => by kernel_rfl) (endR ?_) : RT _ _ _ _ _ _ 1 _)
        refine seqR (by kernel_rfl) ?_
        refine seqR (by kernel_rfl) ?_
        refine PT.pick 2 rfl ?_
        refine drawR (fun w => Sat w (blk b2 31 [.int .i64 p, .int .i64 (j : Int)] :: blk b1 31 [.int .i64 la, .int .i64 lb] :: H)) [] 52 (by kernel_rfl) (by kernel_rfl) (by kernel_rfl) (fun _ h => by first | exact h | exact h.tail | exact h.tail.tail | exact h.tail.tail.tail | exact h.tail.tail.tail.tail) ?_
        refine takesR [0, 1, 2, 3, 4, 5, 6, 7] [11, 0, 4, 5, 6, 9, 10, 61] 44 [true, true, true, true, true, true, true, true, false, false, false, false, false, false, false, false, false, false, false, false, false, false, false, false, false, false, false, false, false, false, false, false, false, false, false, false, false, false, false, false, false, false, false, false, false, false, false, false, false, false, false, false] [(11, .pointer (some ⟨b2, 0, none⟩)), (0, .slice (some ⟨sb, so, none⟩) s.l.length s.c), (4, .bool false), (5, .pointer (some ⟨b, 0, none⟩)), (6, .int .i64 (s.l.length : Int)), (9, .pointer (some ⟨b1, 0, none⟩)), (10, .int .i64 (v : Int)), (61, .bool (decide ((j : Int) < 0)))] [(⟨b2, 1, none⟩, .int .i64 (j : Int))] rfl (fun _ d _ _ _ h => by cases d <;> exact h) (fun _ h => by first | exact h | exact h.tail | exact h.tail.tail | exact h.tail.tail.tail | exact h.tail.tail.tail.tail) (hasC (blkAt (T := 31) (cs := [.int .i64 p, .int .i64 (j : Int)]) 0 rfl rfl) has0) (fun _ => by kernel_rfl) ?_
        rw [show decide ((j : Int) < 0) = false by exact decide_eq_false (by omega)]
        refine takesR [8, 9, 10, 11, 12, 13] [11, 0, 4, 5, 6, 9, 10, 67] 38 [true, true, true, true, true, true, true, true, true, true, true, true, true, true, false, false, false, false, false, false, false, false, false, false, false, false, false, false, false, false, false, false, false, false, false, false, false, false, false, false, false, false, false, false, false, false, false, false, false, false, false, false] [(11, .pointer (some ⟨b2, 0, none⟩)), (0, .slice (some ⟨sb, so, none⟩) s.l.length s.c), (4, .bool false), (5, .pointer (some ⟨b, 0, none⟩)), (6, .int .i64 (s.l.length : Int)), (9, .pointer (some ⟨b1, 0, none⟩)), (10, .int .i64 (v : Int)), (67, .bool (decide ((j : Int) ≥ (s.l.length : Int))))] [(⟨b2, 1, none⟩, .int .i64 (j : Int))] rfl (fun _ d _ _ _ h => by cases d <;> exact h) (fun _ h => by first | exact h | exact h.tail | exact h.tail.tail | exact h.tail.tail.tail | exact h.tail.tail.tail.tail) (hasC (blkAt (T := 31) (cs := [.int .i64 p, .int .i64 (j : Int)]) 0 rfl rfl) has0) (fun _ => by kernel_rfl) ?_
        rw [show decide ((j : Int) ≥ (s.l.length : Int)) = false by exact decide_eq_false (by omega)]
        refine takesR [14, 15, 16, 17, 18] [11, 0, 4, 5, 6, 9, 10, 67, 69, 70, 72] 33 [true, true, true, true, true, true, true, true, true, true, true, true, true, true, true, true, true, true, true, false, false, false, false, false, false, false, false, false, false, false, false, false, false, false, false, false, false, false, false, false, false, false, false, false, false, false, false, false, false, false, false, false] [(11, .pointer (some ⟨b2, 0, none⟩)), (0, .slice (some ⟨sb, so, none⟩) s.l.length s.c), (4, .bool false), (5, .pointer (some ⟨b, 0, none⟩)), (6, .int .i64 (s.l.length : Int)), (9, .pointer (some ⟨b1, 0, none⟩)), (10, .int .i64 (v : Int)), (67, .bool false), (69, .int .i64 p), (70, .slice (some ⟨sb, so, none⟩) s.l.length s.c), (72, .int .i64 (j : Int))] [(⟨b2, 0, none⟩, .int .i64 p), (⟨b2, 1, none⟩, .int .i64 (j : Int))] rfl (fun _ d _ _ _ h => by cases d <;> exact h) (fun _ h => by first | exact h | exact h.tail | exact h.tail.tail | exact h.tail.tail.tail | exact h.tail.tail.tail.tail) (hasC (blkAt (T := 31) (cs := [.int .i64 p, .int .i64 (j : Int)]) 0 rfl rfl) (hasC (blkAt (T := 31) (cs := [.int .i64 p, .int .i64 (j : Int)]) 0 rfl rfl) has0)) (fun _ => by kernel_rfl) ?_
        refine takeR1 19 32 [true, true, true, true, true, true, true, true, true, true, true, true, true, true, true, true, true, true, true, true, false, false, false, false, false, false, false, false, false, false, false, false, false, false, false, false, false, false, false, false, false, false, false, false, false, false, false, false, false, false, false, false] rfl rfl (by kernel_rfl) (fun _ d _ _ _ h => by cases d <;> exact h) (fun _ h => by first | exact h | exact h.tail | exact h.tail.tail | exact h.tail.tail.tail | exact h.tail.tail.tail.tail) (idxY 22 (.tmp 70) (.tmp 72) sb so s.l.length s.c j 1 29 (j : Int) .i64 (some 73) (fun _ => by kernel_rfl) (by kernel_rfl) (by kernel_rfl) (fun _ => by kernel_rfl) (fun _ => by kernel_rfl) Try.underlying22 (by kernel_rfl) (by first | rfl | assumption | simp) (by first | omega | (simp; done) | (simp; omega) | (simp at *; omega))) ?_
        refine takesR [20, 21, 22, 23, 24] [11, 0, 4, 5, 6, 9, 10, 78] 27 [true, true, true, true, true, true, true, true, true, true, true, true, true, true, true, true, true, true, true, true, true, true, true, true, true, false, false, false, false, false, false, false, false, false, false, false, false, false, false, false, false, false, false, false, false, false, false, false, false, false, false, false] [(11, .pointer (some ⟨b2, 0, none⟩)), (0, .slice (some ⟨sb, so, none⟩) s.l.length s.c), (4, .bool false), (5, .pointer (some ⟨b, 0, none⟩)), (6, .int .i64 (s.l.length : Int)), (9, .pointer (some ⟨b1, 0, none⟩)), (10, .int .i64 (v : Int)), (78, .bool (p != (IntKind.i64.wrap p)))] [(⟨sb, so + j * 1, none⟩, .int .u16 p)] rfl (fun _ d _ _ _ h => by cases d <;> exact h) (fun _ h => by first | exact h | exact h.tail | exact h.tail.tail | exact h.tail.tail.tail | exact h.tail.tail.tail.tail) (hasC (up (up (hk.cell hA (i := j) (x := p) hy (j := 0) rfl))) has0) (fun _ => by kernel_rfl) ?_
        rw [show IntKind.i64.wrap p = p by rw [IntKind.wrap_i64]; omega]
        rw [show (p != p) = false by simp]
        refine takesR [25, 26, 27, 28, 29, 30, 31] [11, 0, 4, 5, 6, 9, 10, 85] 20 [true, true, true, true, true, true, true, true, true, true, true, true, true, true, true, true, true, true, true, true, true, true, true, true, true, true, true, true, true, true, true, true, false, false, false, false, false, false, false, false, false, false, false, false, false, false, false, false, false, false, false, false] [(11, .pointer (some ⟨b2, 0, none⟩)), (0, .slice (some ⟨sb, so, none⟩) s.l.length s.c), (4, .bool false), (5, .pointer (some ⟨b, 0, none⟩)), (6, .int .i64 (s.l.length : Int)), (9, .pointer (some ⟨b1, 0, none⟩)), (10, .int .i64 (v : Int)), (85, .bool (decide (p < la)))] [(⟨b2, 0, none⟩, .int .i64 p), (⟨b1, 0, none⟩, .int .i64 la)] rfl (fun _ d _ _ _ h => by cases d <;> exact h) (fun _ h => by first | exact h | exact h.tail | exact h.tail.tail | exact h.tail.tail.tail | exact h.tail.tail.tail.tail) (hasC (blkAt (T := 31) (cs := [.int .i64 p, .int .i64 (j : Int)]) 0 rfl rfl) (hasC (blkAt (T := 31) (cs := [.int .i64 la, .int .i64 lb]) 1 rfl rfl) has0)) (fun _ => by kernel_rfl) ?_
        rw [show decide (p < la) = false by exact decide_eq_false (by unfold eLt at hlp; simp only at hlp; omega)]
        refine takesR [32, 33, 34, 35, 36, 37] [11, 0, 4, 5, 6, 9, 10, 85, 91] 14 [true, true, true, true, true, true, true, true, true, true, true, true, true, true, true, true, true, true, true, true, true, true, true, true, true, true, true, true, true, true, true, true, true, true, true, true, true, true, false, false, false, false, false, false, false, false, false, false, false, false, false, false] [(11, .pointer (some ⟨b2, 0, none⟩)), (0, .slice (some ⟨sb, so, none⟩) s.l.length s.c), (4, .bool false), (5, .pointer (some ⟨b, 0, none⟩)), (6, .int .i64 (s.l.length : Int)), (9, .pointer (some ⟨b1, 0, none⟩)), (10, .int .i64 (v : Int)), (85, .bool false), (91, .bool (p == la))] [(⟨b2, 0, none⟩, .int .i64 p), (⟨b1, 0, none⟩, .int .i64 la)] rfl (fun _ d _ _ _ h => by cases d <;> exact h) (fun _ h => by first | exact h | exact h.tail | exact h.tail.tail | exact h.tail.tail.tail | exact h.tail.tail.tail.tail) (hasC (blkAt (T := 31) (cs := [.int .i64 p, .int .i64 (j : Int)]) 0 rfl rfl) (hasC (blkAt (T := 31) (cs := [.int .i64 la, .int .i64 lb]) 1 rfl rfl) has0)) (fun _ => by kernel_rfl) ?_
        cases hq : (p == la) with
        | true =>
          have hq' : p = la := eq_of_beq hq
          refine takesR [38, 39, 40, 41, 42, 43, 44, 45] [11, 0, 4, 5, 6, 9, 10, 99] 6 [true, true, true, true, true, true, true, true, true, true, true, true, true, true, true, true, true, true, true, true, true, true, true, true, true, true, true, true, true, true, true, true, true, true, true, true, true, true, true, true, true, true, true, true, true, true, false, false, false, false, false, false] [(11, .pointer (some ⟨b2, 0, none⟩)), (0, .slice (some ⟨sb, so, none⟩) s.l.length s.c), (4, .bool false), (5, .pointer (some ⟨b, 0, none⟩)), (6, .int .i64 (s.l.length : Int)), (9, .pointer (some ⟨b1, 0, none⟩)), (10, .int .i64 (v : Int)), (99, .bool (decide ((j : Int) ≤ lb)))] [(⟨b2, 1, none⟩, .int .i64 (j : Int)), (⟨b1, 1, none⟩, .int .i64 lb)] rfl (fun _ d _ _ _ h => by cases d <;> exact h) (fun _ h => by first | exact h | exact h.tail | exact h.tail.tail | exact h.tail.tail.tail | exact h.tail.tail.tail.tail) (hasC (blkAt (T := 31) (cs := [.int .i64 p, .int .i64 (j : Int)]) 0 rfl rfl) (hasC (blkAt (T := 31) (cs := [.int .i64 la, .int .i64 lb]) 1 rfl rfl) has0)) (fun _ => by kernel_rfl) ?_
          rw [show decide ((j : Int) ≤ lb) = false by exact decide_eq_false (by unfold eLt at hlp; simp only at hlp; omega)]
          refine takesR [46, 47, 48] [11, 0, 4, 5, 6, 9, 10, 99, 100, 102] 3 [true, true, true, true, true, true, true, true, true, true, true, true, true, true, true, true, true, true, true, true, true, true, true, true, true, true, true, true, true, true, true, true, true, true, true, true, true, true, true, true, true, true, true, true, true, true, true, true, true, false, false, false] [(11, .pointer (some ⟨b2, 0, none⟩)), (0, .slice (some ⟨sb, so, none⟩) s.l.length s.c), (4, .bool false), (5, .pointer (some ⟨b, 0, none⟩)), (6, .int .i64 (s.l.length : Int)), (9, .pointer (some ⟨b1, 0, none⟩)), (10, .int .i64 (v : Int)), (99, .bool false), (100, .pointer (some ⟨b, 0, none⟩)), (102, .int .i64 (j : Int))] [(⟨b2, 1, none⟩, .int .i64 (j : Int))] rfl (fun _ d _ _ _ h => by cases d <;> exact h) (fun _ h => by first | exact h | exact h.tail | exact h.tail.tail | exact h.tail.tail.tail | exact h.tail.tail.tail.tail) (hasC (blkAt (T := 31) (cs := [.int .i64 p, .int .i64 (j : Int)]) 0 rfl rfl) has0) (fun _ => by kernel_rfl) ?_
          refine oneR 49 2 [true, true, true, true, true, true, true, true, true, true, true, true, true, true, true, true, true, true, true, true, true, true, true, true, true, true, true, true, true, true, true, true, true, true, true, true, true, true, true, true, true, true, true, true, true, true, true, true, true, true, false, false] rfl rfl (by kernel_rfl) (callS 11 [.pointer (some ⟨b, 0, none⟩), .int .i64 (j : Int)] (some 103) (fun _ => .nilIface) (fun _ => (idxS b 64 r :: blk b2 31 [.int .i64 p, .int .i64 (j : Int)] :: blk b1 31 [.int .i64 la, .int .i64 lb] :: H)) (fun _ => by kernel_rfl) (drop_ok (id := (j : Int)) (drop_head (e := (p, (j : Int))) (r := r)) (by omega) _ b)) (fun _ _ h hn => by first | exact h | exact h.tail | exact h.tail.tail | exact h.tail.tail.tail | exact h.tail.tail.tail.tail | exact absurd hn (by decide)) (fun _ => ?_)
          refine takesR [50, 51] [11, 0, 4, 5, 6, 9, 10, 105] 0 [true, true, true, true, true, true, true, true, true, true, true, true, true, true, true, true, true, true, true, true, true, true, true, true, true, true, true, true, true, true, true, true, true, true, true, true, true, true, true, true, true, true, true, true, true, true, true, true, true, true, true, true] [(11, .pointer (some ⟨b2, 0, none⟩)), (0, .slice (some ⟨sb, so, none⟩) s.l.length s.c), (4, .bool false), (5, .pointer (some ⟨b, 0, none⟩)), (6, .int .i64 (s.l.length : Int)), (9, .pointer (some ⟨b1, 0, none⟩)), (10, .int .i64 (v : Int)), (105, .bool false)] [] rfl (fun _ d _ _ _ h => by cases d <;> exact h) (fun _ h => by first | exact h | exact h.tail | exact h.tail.tail | exact h.tail.tail.tail | exact h.tail.tail.tail.tail) has0 (fun _ => by kernel_rfl) ?_
          refine drawnR (by kernel_rfl) ?_
          refine condR (b := false) (by kernel_rfl) (fun _ => by kernel_rfl) (fun h => by cases h) (fun _ => ?_)
          refine skipR (by kernel_rfl) ?_
          refine regionR 2 (by kernel_rfl) (by kernel_rfl) ?_
          refine (runR (H := (idxS b 64 r :: blk b2 31 [.int .i64 p, .int .i64 (j : Int)] :: blk b1 31 [.int .i64 la, .int .i64 lb] :: H)) (z := 1) 1 [0, 4, 5, 6, 9, 10, 106] [(0, .slice (some ⟨sb, so, none⟩) s.l.length s.c), (4, .bool false), (5, .pointer (some ⟨b, 0, none⟩)), (6, .int .i64 (s.l.length : Int)), (9, .pointer (some ⟨b1, 0, none⟩)), (10, .int .i64 (v : Int)), (106, .agg #[.int .i64 p, .int .i64 (j : Int)])] [(⟨b2, 0, none⟩, .int .i64 p), (⟨b2, 1, none⟩, .int .i64 (j : Int))] (hasC (blkAt (T := 31) (cs := [.int .i64 p, .int .i64 (j : Int)]) 1 rfl rfl) (hasC (blkAt (T := 31) (cs := [.int .i64 p, .int .i64 (j : Int)]) 1 rfl rfl) has0)) (fun _ => by kernel_rfl) ?_ : RT _ _ _ _ _ _ 2 _)
          refine (RT.pick 2 rfl ?_ : RT _ _ _ (idxS b 64 r :: blk b2 31 [.int .i64 p, .int .i64 (j : Int)] :: blk b1 31 [.int .i64 la, .int .i64 lb] :: H) _ _ 1 _)
          refine (stepR (z := 0) (storeS [(0, .int .i64 p), (1, .int .i64 (j : Int))] [.int .i64 p, .int .i64 (j : Int)] (fun _ => by kernel_rfl) (by kernel_rfl) (by kernel_rfl)) (fun _ => ?_) : RT _ _ _ _ _ _ 1 _)
          refine endR ?_
          refine regionR 3 (by kernel_rfl) (by kernel_rfl) ?_
          refine (run0 (z := 0) 3 [0, 4, 5, 6, 9, 10] [(0, .slice (some ⟨sb, so, none⟩) s.l.length s.c), (4, .bool false), (5, .pointer (some ⟨b, 0, none⟩)), (6, .int .i64 (s.l.length : Int)), (9, .pointer (some ⟨b1, 0, none⟩)), (10, .int .i64 (IntKind.i64.wrap ((v : Int) + 1)))] (fun _ => by kernel_rfl) (endR ?_) : RT _ _ _ _ _ _ 3 _)
          try rw [← hA]
          rw [show IntKind.i64.wrap ((v : Int) + 1) = ((v + 1 : Nat) : Int) by rw [IntKind.wrap_i64]; omega]
          refine PT.pick 2 rfl ?_
          refine PT.drop ?_
          refine PT.keep (L' := [(0, .slice s.a s.l.length s.c), (4, .bool false), (5, .pointer (some ⟨b, 0, none⟩)), (6, .int .i64 (s.l.length : Int)), (9, .pointer (some ⟨b1, 0, none⟩)), (10, .int .i64 ((v + 1 : Nat) : Int))]) [0, 4, 5, 6, 9, 10] rfl ?_
          exact againG (k2 - 1) (r, (p, (j : Int)), v + 1) rfl rfl (by omega) ⟨by simp only; omega, by simp only; simp at hyl; omega, ⟨hs2.2, fun x hx => hyo.2 x (by simp [hx])⟩, fun z hz => hs2.1 z hz⟩
        | false =>
          refine takesR [38, 39, 40, 41, 42, 43, 44, 45, 46, 47, 48] [11, 0, 4, 5, 6, 9, 10, 99, 100, 102] 3 [true, true, true, true, true, true, true, true, true, true, true, true, true, true, true, true, true, true, true, true, true, true, true, true, true, true, true, true, true, true, true, true, true, true, true, true, true, true, true, true, true, true, true, true, true, true, true, true, true, false, false, false] [(11, .pointer (some ⟨b2, 0, none⟩)), (0, .slice (some ⟨sb, so, none⟩) s.l.length s.c), (4, .bool false), (5, .pointer (some ⟨b, 0, none⟩)), (6, .int .i64 (s.l.length : Int)), (9, .pointer (some ⟨b1, 0, none⟩)), (10, .int .i64 (v : Int)), (99, .bool false), (100, .pointer (some ⟨b, 0, none⟩)), (102, .int .i64 (j : Int))] [(⟨b2, 1, none⟩, .int .i64 (j : Int))] rfl (fun _ d _ _ _ h => by cases d <;> exact h) (fun _ h => by first | exact h | exact h.tail | exact h.tail.tail | exact h.tail.tail.tail | exact h.tail.tail.tail.tail) (hasC (blkAt (T := 31) (cs := [.int .i64 p, .int .i64 (j : Int)]) 0 rfl rfl) has0) (fun _ => by kernel_rfl) ?_
          refine oneR 49 2 [true, true, true, true, true, true, true, true, true, true, true, true, true, true, true, true, true, true, true, true, true, true, true, true, true, true, true, true, true, true, true, true, true, true, true, true, true, true, true, true, true, true, true, true, true, true, true, true, true, true, false, false] rfl rfl (by kernel_rfl) (callS 11 [.pointer (some ⟨b, 0, none⟩), .int .i64 (j : Int)] (some 103) (fun _ => .nilIface) (fun _ => (idxS b 64 r :: blk b2 31 [.int .i64 p, .int .i64 (j : Int)] :: blk b1 31 [.int .i64 la, .int .i64 lb] :: H)) (fun _ => by kernel_rfl) (drop_ok (id := (j : Int)) (drop_head (e := (p, (j : Int))) (r := r)) (by omega) _ b)) (fun _ _ h hn => by first | exact h | exact h.tail | exact h.tail.tail | exact h.tail.tail.tail | exact h.tail.tail.tail.tail | exact absurd hn (by decide)) (fun _ => ?_)
          refine takesR [50, 51] [11, 0, 4, 5, 6, 9, 10, 105] 0 [true, true, true, true, true, true, true, true, true, true, true, true, true, true, true, true, true, true, true, true, true, true, true, true, true, true, true, true, true, true, true, true, true, true, true, true, true, true, true, true, true, true, true, true, true, true, true, true, true, true, true, true] [(11, .pointer (some ⟨b2, 0, none⟩)), (0, .slice (some ⟨sb, so, none⟩) s.l.length s.c), (4, .bool false), (5, .pointer (some ⟨b, 0, none⟩)), (6, .int .i64 (s.l.length : Int)), (9, .pointer (some ⟨b1, 0, none⟩)), (10, .int .i64 (v : Int)), (105, .bool false)] [] rfl (fun _ d _ _ _ h => by cases d <;> exact h) (fun _ h => by first | exact h | exact h.tail | exact h.tail.tail | exact h.tail.tail.tail | exact h.tail.tail.tail.tail) has0 (fun _ => by kernel_rfl) ?_
          refine drawnR (by kernel_rfl) ?_
          refine condR (b := false) (by kernel_rfl) (fun _ => by kernel_rfl) (fun h => by cases h) (fun _ => ?_)
          refine skipR (by kernel_rfl) ?_
          refine regionR 2 (by kernel_rfl) (by kernel_rfl) ?_
          refine (runR (H := (idxS b 64 r :: blk b2 31 [.int .i64 p, .int .i64 (j : Int)] :: blk b1 31 [.int .i64 la, .int .i64 lb] :: H)) (z := 1) 1 [0, 4, 5, 6, 9, 10, 106] [(0, .slice (some ⟨sb, so, none⟩) s.l.length s.c), (4, .bool false), (5, .pointer (some ⟨b, 0, none⟩)), (6, .int .i64 (s.l.length : Int)), (9, .pointer (some ⟨b1, 0, none⟩)), (10, .int .i64 (v : Int)), (106, .agg #[.int .i64 p, .int .i64 (j : Int)])] [(⟨b2, 0, none⟩, .int .i64 p), (⟨b2, 1, none⟩, .int .i64 (j : Int))] (hasC (blkAt (T := 31) (cs := [.int .i64 p, .int .i64 (j : Int)]) 1 rfl rfl) (hasC (blkAt (T := 31) (cs := [.int .i64 p, .int .i64 (j : Int)]) 1 rfl rfl) has0)) (fun _ => by kernel_rfl) ?_ : RT _ _ _ _ _ _ 2 _)
          refine (RT.pick 2 rfl ?_ : RT _ _ _ (idxS b 64 r :: blk b2 31 [.int .i64 p, .int .i64 (j : Int)] :: blk b1 31 [.int .i64 la, .int .i64 lb] :: H) _ _ 1 _)
          refine (stepR (z := 0) (storeS [(0, .int .i64 p), (1, .int .i64 (j : Int))] [.int .i64 p, .int .i64 (j : Int)] (fun _ => by kernel_rfl) (by kernel_rfl) (by kernel_rfl)) (fun _ => ?_) : RT _ _ _ _ _ _ 1 _)
          refine endR ?_
          refine regionR 3 (by kernel_rfl) (by kernel_rfl) ?_
          refine (run0 (z := 0) 3 [0, 4, 5, 6, 9, 10] [(0, .slice (some ⟨sb, so, none⟩) s.l.length s.c), (4, .bool false), (5, .pointer (some ⟨b, 0, none⟩)), (6, .int .i64 (s.l.length : Int)), (9, .pointer (some ⟨b1, 0, none⟩)), (10, .int .i64 (IntKind.i64.wrap ((v : Int) + 1)))] (fun _ => by kernel_rfl) (endR ?_) : RT _ _ _ _ _ _ 3 _)
          try rw [← hA]
          rw [show IntKind.i64.wrap ((v : Int) + 1) = ((v + 1 : Nat) : Int) by rw [IntKind.wrap_i64]; omega]
          refine PT.pick 2 rfl ?_
          refine PT.drop ?_
          refine PT.keep (L' := [(0, .slice s.a s.l.length s.c), (4, .bool false), (5, .pointer (some ⟨b, 0, none⟩)), (6, .int .i64 (s.l.length : Int)), (9, .pointer (some ⟨b1, 0, none⟩)), (10, .int .i64 ((v + 1 : Nat) : Int))]) [0, 4, 5, 6, 9, 10] rfl ?_
          exact againG (k2 - 1) (r, (p, (j : Int)), v + 1) rfl rfl (by omega) ⟨by simp only; omega, by simp only; simp at hyl; omega, ⟨hs2.2, fun x hx => hyo.2 x (by simp [hx])⟩, fun z hz => hs2.1 z hz⟩
      · skip
        obtain rfl : ys = [] := List.eq_nil_of_length_eq_zero (by have := of_decide_eq_false h2; omega)
        refine exitR 2 (by kernel_rfl) (by kernel_rfl) ?_
        refine thenX ?_
        refine thenX ?_
        refine leaveR ?_
        refine seqR (by kernel_rfl) ?_
        refine regionR 8 (by kernel_rfl) (by kernel_rfl) ?_
        refine (run0 (z := 7) 1 [4, 5, 108] [(4, .bool false), (5, .pointer (some ⟨b, 0, none⟩)), (108, .pointer (some ⟨b, 0, none⟩))] (fun _ => by kernel_rfl) ?_ : RT _ _ _ _ _ _ 8 _)
        refine (stepR (z := 6) (callS 10 [.pointer (some ⟨b, 0, none⟩)] (some 109) (fun _ => .tuple #[.agg #[.int .i64 0, .int .i64 0], .bool false]) (fun _ => (blk b1 31 [.int .i64 la, .int .i64 lb] :: idxS b 64 ([] : List (Int × Int)) :: H)) (fun _ => by kernel_rfl) (same_at 1 rfl (min_idx _ b 64 []))) (fun _ => ?_) : RT _ _ _ _ _ _ 7 _)
        refine (run0 (z := 3) 3 [4, 5, 110, 111] [(4, .bool false), (5, .pointer (some ⟨b, 0, none⟩)), (110, .agg #[.int .i64 0, .int .i64 0]), (111, .bool false)] (fun _ => by kernel_rfl) ?_ : RT _ _ _ _ _ _ 6 _)
        refine (stepR (z := 2) (newS 31 [.int .i64 0, .int .i64 0] (some 13) (fun b => .pointer (some ⟨b, 0, none⟩)) (fun _ _ => by kernel_rfl)) (fun b2 => ?_) : RT _ _ _ _ _ _ 3 _)
        refine (stepR (z := 1) (storeS [(0, .int .i64 0), (1, .int .i64 0)] [.int .i64 0, .int .i64 0] (fun _ => by kernel_rfl) (by kernel_rfl) (by kernel_rfl)) (fun _ => ?_) : RT _ _ _ _ _ _ 2 _)
        refine (run0 (z := 0) 1 [4, 5, 14] [(4, .bool false), (5, .pointer (some ⟨b, 0, none⟩)), (14, .bool false)] (fun _ => by kernel_rfl) (endR ?_) : RT _ _ _ _ _ _ 1 _)
        refine seqR (by kernel_rfl) ?_
        refine regionR 8 (by kernel_rfl) (by kernel_rfl) ?_
        refine (run0 (z := 4) 4 [4, 114, 115] [(4, .bool false), (114, .bool true), (115, .pointer (some ⟨b, 0, none⟩))] (fun _ => by kernel_rfl) ?_ : RT _ _ _ _ _ _ 8 _)
        refine (stepR (z := 3) (callS 12 [.pointer (some ⟨b, 0, none⟩)] (some 116) (fun _ => .int .i64 0) (fun _ => (blk b2 31 [.int .i64 0, .int .i64 0] :: blk b1 31 [.int .i64 la, .int .i64 lb] :: idxS b 64 ([] : List (Int × Int)) :: H)) (fun _ => by kernel_rfl) (same_at 2 rfl (len_idx _ b 64 []))) (fun _ => ?_) : RT _ _ _ _ _ _ 4 _)
        refine (run0 (z := 0) 3 [4] [(4, .bool true)] (fun _ => by kernel_rfl) (endR ?_) : RT _ _ _ _ _ _ 3 _)
        refine retR (by kernel_rfl) ?_
        refine done0 (.bool true) (fun _ => by kernel_rfl) (fun w hs => ?_) .ret (.inr rfl)
        exact ⟨(), rfl, hs.tail.tail.tail⟩
theorem sorts_row (W : World) (ao : Option Addr) (c : Nat) (l : List Int) (f : Int) (hrd : Rd (kE .u16) W (.slice ao l.length c) l) (hl : ∀ x ∈ l, (Lit.int .u16 x).wf = true) (hf : (Lit.int .u8 f).wf = true) : Calls Try.prog 3 #[.slice ao l.length c, .int .u8 f] W (LawPost W) :=
  lawPost (fun _ _ h => h) (sorts_walk [old W] ⟨ao, c, l⟩ f (KR.old hrd 0 rfl) (fun x hx => u16_wf (hl x hx)) (u8_wf hf) W (Sat.start W))
end Go.Proofs.Ytpojhpmhcjiidaa
