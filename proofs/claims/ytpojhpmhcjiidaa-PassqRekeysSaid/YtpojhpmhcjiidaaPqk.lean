/- PassqRekeys: its walk. Conditions: none. -/
import Derived.Test.YtpojhpmhcjiidaaPqs
set_option linter.unusedVariables false
set_option linter.unusedSimpArgs false
namespace Go.Proofs.Ytpojhpmhcjiidaa
open Go.RowKit G
def rk (u : Nat) : List (Int × Int) := (List.range u).map fun i : Nat => (1000 * (i : Int), (i : Int))
theorem rk_mem {u : Nat} {e : Int × Int} : e ∈ rk u ↔ ∃ j : Int, 0 ≤ j ∧ j < u ∧ e = (1000 * j, j) := by
  unfold rk
  rw [List.mem_map]
  constructor
  · rintro ⟨i, hi, rfl⟩; exact ⟨i, by omega, by have := List.mem_range.1 hi; omega, rfl⟩
  · rintro ⟨j, h0, h1, rfl⟩; exact ⟨j.toNat, List.mem_range.2 (by omega), by rw [Int.toNat_of_nonneg h0]⟩
theorem insE_last {e : Int × Int} : ∀ {l : List (Int × Int)}, (∀ x ∈ l, eLt x e) → insE e l = l ++ [e]
  | [], _ => rfl
  | y :: r, h => by rw [insE, if_pos (h y (by simp)), insE_last (fun x hx => h x (by simp [hx]))]; rfl
theorem rk_ins (u : Nat) : insE (1000 * (u : Int), (u : Int)) (rk u) = rk (u + 1) := by
  rw [insE_last (fun x hx => by obtain ⟨j, h0, h1, rfl⟩ := rk_mem.1 hx; left; simp only; omega)]
  simp [rk, List.range_succ]
theorem rk_srt (u : Nat) : SrtE (rk u) := by
  unfold SrtE rk
  rw [List.pairwise_map]
  exact List.pairwise_lt_range.imp fun {a b} hab => by left; simp only; omega
theorem rk_len (u : Nat) : (rk u).length = u := by simp [rk]
/-- Eight entries, of which one has another pass. -/
def RK (xs : List (Int × Int)) (kk P : Int) : Prop := SrtE xs ∧ xs.length = 8 ∧ ∀ e, e ∈ xs ↔ e = (P, kk) ∨ ∃ j : Int, 0 ≤ j ∧ j < 8 ∧ j ≠ kk ∧ e = (1000 * j, j)
theorem rk_RK {kk : Int} (hk : 0 ≤ kk ∧ kk < 8) : RK (rk 8) kk (1000 * kk) := by
  refine ⟨rk_srt 8, rk_len 8, fun e => ?_⟩
  rw [rk_mem]
  constructor
  · rintro ⟨j, h0, h1, rfl⟩
    by_cases c : j = kk
    · subst c; exact .inl rfl
    · exact .inr ⟨j, h0, by omega, c, rfl⟩
  · rintro (rfl | ⟨j, h0, h1, _, rfl⟩)
    · exact ⟨kk, by omega, by omega, rfl⟩
    · exact ⟨j, h0, by omega, rfl⟩
theorem SrtE.same {l : List (Int × Int)} (h : SrtE l) {i j : Nat} {x : Int × Int} (hi : l[i]? = some x) (hj : l[j]? = some x) : i = j := by
  rcases Nat.lt_trichotomy i j with c | c | c
  · exact absurd (h.at hi hj c) (eLt_irrefl x)
  · exact c
  · exact absurd (h.at hj hi c) (eLt_irrefl x)
theorem RK.find {xs : List (Int × Int)} {kk P : Int} (h : RK xs kk P) : ∃ i : Nat, findI xs kk = i ∧ xs[i]? = some (P, kk) := by
  rcases findI_cases xs kk with ⟨_, hn⟩ | ⟨i, e, hf, he, hid, _⟩
  · exact absurd rfl (hn (P, kk) ((h.2.2 _).2 (.inl rfl)))
  · refine ⟨i, hf, ?_⟩
    rcases (h.2.2 e).1 (List.mem_of_getElem? he) with rfl | ⟨j, _, _, hj, rfl⟩
    · exact he
    · exact absurd hid hj
theorem RK.rekey {xs : List (Int × Int)} {kk P : Int} (h : RK xs kk P) {Q : Int} (hQ : 0 ≤ Q ∧ Q < 65536) : ∃ ys, rekeyE xs kk Q = (0, ys) ∧ RK ys kk Q := by
  obtain ⟨i, hf, hi⟩ := h.find
  have hil := (List.getElem?_eq_some_iff.1 hi).1
  have hp : isPassB Q = true := by simp only [isPassB, Bool.and_eq_true, decide_eq_true_eq]; omega
  refine ⟨_, by rw [rekeyE, if_neg (by rw [hp]; simp), if_neg (by omega), hf, Int.toNat_natCast], ?_⟩
  rw [← List.eraseIdx_eq_take_drop_succ]
  have hsub : SrtE (xs.eraseIdx i) := h.1.sublist (List.eraseIdx_sublist _ _)
  have hmem : ∀ e, e ∈ xs.eraseIdx i ↔ ∃ j : Int, 0 ≤ j ∧ j < 8 ∧ j ≠ kk ∧ e = (1000 * j, j) := by
    intro e
    rw [List.mem_eraseIdx_iff_getElem?]
    constructor
    · rintro ⟨j, hj, hje⟩
      rcases (h.2.2 e).1 (List.mem_of_getElem? hje) with rfl | h2
      · exact absurd (h.1.same hje hi) hj
      · exact h2
    · rintro ⟨j, h0, h1, h2, rfl⟩
      obtain ⟨v, hv⟩ := List.getElem?_of_mem ((h.2.2 _).2 (.inr ⟨j, h0, h1, h2, rfl⟩))
      refine ⟨v, fun c => ?_, hv⟩
      subst c
      rw [hv] at hi
      cases hi
      exact h2 rfl
  refine ⟨hsub.ins (fun x hx => ?_), ?_, fun e => ?_⟩
  · obtain ⟨j, _, _, h2, rfl⟩ := (hmem x).1 hx
    intro c
    cases c
    exact h2 rfl
  · rw [insE_len, List.length_eraseIdx, if_pos hil]; have := h.2.1; omega
  · rw [mem_insE, hmem]
theorem RK.pass {xs : List (Int × Int)} {kk P : Int} (h : RK xs kk P) : passI xs kk = (P, true) := by
  obtain ⟨i, hf, hi⟩ := h.find
  rw [passI, if_neg (by omega), hf, Int.toNat_natCast, List.getD_eq_getElem?_getD, hi]; rfl
theorem RK.least {xs : List (Int × Int)} {kk P : Int} (h : RK xs kk P) {L : Int × Int} (hL : L ∈ xs) (h1 : ¬ eLt (P, kk) L) (h2 : ∀ j : Int, 0 ≤ j → j < 8 → j ≠ kk → ¬ eLt (1000 * j, j) L) : minE xs = (L, true) := by
  have hl := h.2.1
  cases xs with
  | nil => simp at hl
  | cons e r =>
    have hs := List.pairwise_cons.1 h.1
    have he : e = L := by
      rcases List.mem_cons.1 hL with c | c
      · exact c.symm
      · exfalso
        have hlt := hs.1 L c
        rcases (h.2.2 e).1 (by simp) with rfl | ⟨j, q0, q1, q2, rfl⟩
        · exact h1 hlt
        · exact h2 j q0 q1 q2 hlt
    subst he; rfl
theorem RK.min2 {xs : List (Int × Int)} {kk P : Int} (h : RK xs kk P) : (minE xs).2 = true := by
  have hl := h.2.1
  cases xs with
  | nil => simp at hl
  | cons e r => rfl
set_option maxHeartbeats 1000000 in
set_option maxRecDepth 100000 in
theorem rekeys_walk (H : List SP) (s : SV Int) (f : Int) (hk : KR H (kE .u16) s) (hw16 : ∀ x ∈ s.l, 0 ≤ x ∧ x < 65536) (hf : 0 ≤ f ∧ f < 256) : ∀ w, Sat w H → Calls Try.prog 6 #[.slice s.a s.l.length s.c, .int .u8 f] w (Ret (ι := Unit) (fun _ => .bool true) fun _ => H) := by
  refine enterG (fn := Try.f6) 123 [.slice s.a s.l.length s.c, .int .u8 f] Try.func6 (by kernel_rfl) (by kernel_rfl) (by kernel_rfl) ?_
  refine seqR (by kernel_rfl) ?_
  refine regionR 1 (by kernel_rfl) (by kernel_rfl) ?_
  refine (run0 (z := 0) 1 [0, 1, 4] [(0, .slice s.a s.l.length s.c), (1, .int .u8 f), (4, .bool false)] (fun _ => by kernel_rfl) (endR ?_) : RT _ _ _ _ _ _ 1 _)
  refine seqR (by kernel_rfl) ?_
  refine seqR (by kernel_rfl) ?_
  refine regionR 2 (by kernel_rfl) (by kernel_rfl) ?_
  refine (stepR (z := 1) (callS 7 [] (some 15) (fun _ => .bool true) (fun (_ : Unit) => (H)) (fun _ => by kernel_rfl) (known_true _)) (fun _ => ?_) : RT _ _ _ _ _ _ 2 _)
  refine (run0 (z := 0) 1 [0, 1, 4, 16] [(0, .slice s.a s.l.length s.c), (1, .int .u8 f), (4, .bool false), (16, .bool false)] (fun _ => by kernel_rfl) (endR ?_) : RT _ _ _ _ _ _ 1 _)
  refine condR (b := false) (by kernel_rfl) (fun _ => by kernel_rfl) (fun h => by cases h) (fun _ => ?_)
  refine skipR (by kernel_rfl) ?_
  refine seqR (by kernel_rfl) ?_
  refine seqR (by kernel_rfl) ?_
  refine regionR 3 (by kernel_rfl) (by kernel_rfl) ?_
  refine (run0 (z := 0) 3 [0, 1, 4, 19] [(0, .slice s.a s.l.length s.c), (1, .int .u8 f), (4, .bool false), (19, .bool (decide ((s.l.length : Int) > 40)))] (fun _ => by kernel_rfl) (endR ?_) : RT _ _ _ _ _ _ 3 _)
  refine condR (b := decide ((s.l.length : Int) > 40)) (by kernel_rfl) (fun _ => by kernel_rfl) (fun h0 => ?_) (fun h0 => ?_)
  · skip
    refine seqR (by kernel_rfl) ?_
    refine regionR 1 (by kernel_rfl) (by kernel_rfl) ?_
    refine (run0 (z := 0) 1 [0, 1, 4] [(0, .slice s.a s.l.length s.c), (1, .int .u8 f), (4, .bool true)] (fun _ => by kernel_rfl) (endR ?_) : RT _ _ _ _ _ _ 1 _)
    refine retR (by kernel_rfl) ?_
    refine thenV ?_
    refine done0 (.bool true) (fun _ => by kernel_rfl) (fun w hs => ?_) .ret (.inr rfl)
    exact ⟨(), rfl, hs⟩
  · skip
    have hl : s.l.length ≤ 40 := by have := of_decide_eq_false h0; omega
    refine skipR (by kernel_rfl) ?_
    refine seqR (by kernel_rfl) ?_
    refine regionR 2 (by kernel_rfl) (by kernel_rfl) ?_
    refine (stepR (z := 1) (callS 8 [.int .i64 9] (some 20) (fun (b : Nat) => .pointer (some ⟨b, 0, none⟩)) (fun (b : Nat) => idxS b 9 ([] : List (Int × Int)) :: H) (fun _ => by kernel_rfl) (new_walk _ 9)) (fun (b : Nat) => ?_) : RT _ _ _ _ _ _ 2 _)
    refine (run0 (z := 0) 1 [0, 1, 4, 5] [(0, .slice s.a s.l.length s.c), (1, .int .u8 f), (4, .bool false), (5, .pointer (some ⟨b, 0, none⟩))] (fun _ => by kernel_rfl) (endR ?_) : RT _ _ _ _ _ _ 1 _)
    refine seqR (by kernel_rfl) ?_
    refine seqR (by kernel_rfl) ?_
    refine regionR 1 (by kernel_rfl) (by kernel_rfl) ?_
    refine (run0 (z := 0) 1 [0, 1, 4, 5, 6] [(0, .slice s.a s.l.length s.c), (1, .int .u8 f), (4, .bool false), (5, .pointer (some ⟨b, 0, none⟩)), (6, .int .i64 0)] (fun _ => by kernel_rfl) (endR ?_) : RT _ _ _ _ _ _ 1 _)
    refine blockR 0 (by kernel_rfl) (by kernel_rfl) ?_
    refine PT.keep (L' := [(0, .slice s.a s.l.length s.c), (1, .int .u8 f), (4, .bool false), (5, .pointer (some ⟨b, 0, none⟩)), (6, .int .i64 0)]) [0, 1, 4, 5, 6] rfl ?_
    refine loopG (fun (x : List (Int × Int) × Nat) => [(0, .slice s.a s.l.length s.c), (1, .int .u8 f), (4, .bool false), (5, .pointer (some ⟨b, 0, none⟩)), (6, .int .i64 (x.2 : Int))]) (fun (x : List (Int × Int) × Nat) => (idxS b 9 x.1 :: H)) (fun k (x : List (Int × Int) × Nat) => k + x.2 = 8 ∧ x.1 = rk x.2) 8 ([], 0) (by kernel_rfl) ⟨rfl, rfl⟩ ?_
    rintro k ⟨xs, u⟩ ⟨hku, hxs⟩
    dsimp only at hku hxs ⊢
    subst hxs
    refine seqR (by kernel_rfl) ?_
    refine seqR (by kernel_rfl) ?_
    refine regionR 2 (by kernel_rfl) (by kernel_rfl) ?_
    refine (run0 (z := 0) 2 [0, 1, 4, 5, 6, 22] [(0, .slice s.a s.l.length s.c), (1, .int .u8 f), (4, .bool false), (5, .pointer (some ⟨b, 0, none⟩)), (6, .int .i64 (u : Int)), (22, .bool (decide ((u : Int) < 8)))] (fun _ => by kernel_rfl) (endR ?_) : RT _ _ _ _ _ _ 2 _)
    refine condR (b := decide ((u : Int) < 8)) (by kernel_rfl) (fun _ => by kernel_rfl) (fun h1 => ?_) (fun h1 => ?_)
    · skip
      have hu : u < 8 := by have := of_decide_eq_true h1; omega
      refine skipR (by kernel_rfl) ?_
      refine seqR (by kernel_rfl) ?_
      refine blockR 1 (by kernel_rfl) (by kernel_rfl) ?_
      refine seqR (by kernel_rfl) ?_
      refine regionR 6 (by kernel_rfl) (by kernel_rfl) ?_
      refine (run0 (z := 2) 4 [0, 1, 4, 5, 6, 25, 27, 28] [(0, .slice s.a s.l.length s.c), (1, .int .u8 f), (4, .bool false), (5, .pointer (some ⟨b, 0, none⟩)), (6, .int .i64 (u : Int)), (25, .pointer (some ⟨b, 0, none⟩)), (27, .int .i64 (IntKind.i64.wrap (1000 * (u : Int)))), (28, .int .i64 (u : Int))] (fun _ => by kernel_rfl) ?_ : RT _ _ _ _ _ _ 6 _)
      rw [show IntKind.i64.wrap (1000 * (u : Int)) = (1000 * (u : Int)) by rw [IntKind.wrap_i64]; omega]
      refine (stepR (z := 1) (callS 9 [.pointer (some ⟨b, 0, none⟩), .int .i64 (1000 * (u : Int)), .int .i64 (u : Int)] (some 29) (fun _ => .nilIface) (fun _ => (idxS b 9 (rk (u + 1)) :: H)) (fun _ => by kernel_rfl) (put_ok (l' := rk (u + 1)) (by rw [putE_ok (by omega) (by omega) (fun e he => by obtain ⟨i, h0, h1, rfl⟩ := rk_mem.1 he; simp only; omega) (by rw [rk_len]; omega), rk_ins]) (rk_srt u) (by rw [rk_len]; omega) _ b)) (fun _ => ?_) : RT _ _ _ _ _ _ 2 _)
      refine (run0 (z := 0) 1 [0, 1, 4, 5, 6, 30] [(0, .slice s.a s.l.length s.c), (1, .int .u8 f), (4, .bool false), (5, .pointer (some ⟨b, 0, none⟩)), (6, .int .i64 (u : Int)), (30, .bool false)] (fun _ => by kernel_rfl) (endR ?_) : RT _ _ _ _ _ _ 1 _)
      refine condR (b := false) (by kernel_rfl) (fun _ => by kernel_rfl) (fun h => by cases h) (fun _ => ?_)
      refine skipR (by kernel_rfl) ?_
      refine regionR 3 (by kernel_rfl) (by kernel_rfl) ?_
      refine (run0 (z := 0) 3 [0, 1, 4, 5, 6] [(0, .slice s.a s.l.length s.c), (1, .int .u8 f), (4, .bool false), (5, .pointer (some ⟨b, 0, none⟩)), (6, .int .i64 (IntKind.i64.wrap ((u : Int) + 1)))] (fun _ => by kernel_rfl) (endR ?_) : RT _ _ _ _ _ _ 3 _)
      rw [show IntKind.i64.wrap ((u : Int) + 1) = ((u + 1 : Nat) : Int) by rw [IntKind.wrap_i64]; omega]
      refine PT.keep (L' := [(0, .slice s.a s.l.length s.c), (1, .int .u8 f), (4, .bool false), (5, .pointer (some ⟨b, 0, none⟩)), (6, .int .i64 ((u + 1 : Nat) : Int))]) [0, 1, 4, 5, 6] rfl ?_
      exact againG (k - 1) (rk (u + 1), u + 1) rfl rfl (by omega) ⟨by simp only; omega, rfl⟩
    · skip
      have hu : u = 8 := by have := of_decide_eq_false h1; omega
      subst hu
      refine exitR 0 (by kernel_rfl) (by kernel_rfl) ?_
      refine thenX ?_
      refine thenX ?_
      refine leaveR ?_
      refine seqR (by kernel_rfl) ?_
      refine regionR 4 (by kernel_rfl) (by kernel_rfl) ?_
      refine (run0 (z := 0) 4 [0, 4, 5, 7] [(0, .slice s.a s.l.length s.c), (4, .bool false), (5, .pointer (some ⟨b, 0, none⟩)), (7, .int .i64 (IntKind.i64.wrap (Int.tmod f 8)))] (fun _ => by kernel_rfl) (endR ?_) : RT _ _ _ _ _ _ 4 _)
      refine seqR (by kernel_rfl) ?_
      refine seqR (by kernel_rfl) ?_
      refine regionR 1 (by kernel_rfl) (by kernel_rfl) ?_
      refine (run0 (z := 0) 1 [0, 4, 5, 7, 8] [(0, .slice s.a s.l.length s.c), (4, .bool false), (5, .pointer (some ⟨b, 0, none⟩)), (7, .int .i64 (IntKind.i64.wrap (Int.tmod f 8))), (8, .int .i64 0)] (fun _ => by kernel_rfl) (endR ?_) : RT _ _ _ _ _ _ 1 _)
      refine blockR 2 (by kernel_rfl) (by kernel_rfl) ?_
      obtain ⟨kk, hkk, hk0, hk1⟩ : ∃ kk, IntKind.i64.wrap (f.tmod 8) = kk ∧ 0 ≤ kk ∧ kk < 8 := by
        have e := Int.tmod_eq_emod_of_nonneg (b := 8) hf.1
        refine ⟨_, rfl, ?_⟩
        rw [e, IntKind.wrap_i64]; omega
      rw [hkk]
      have hrk := rk_RK (kk := kk) ⟨hk0, hk1⟩
      refine PT.keep (L' := [(0, .slice s.a s.l.length s.c), (4, .bool false), (5, .pointer (some ⟨b, 0, none⟩)), (7, .int .i64 kk), (8, .int .i64 0)]) [0, 4, 5, 7, 8] rfl ?_
      refine loopG (fun (x : List (Int × Int) × Int × Nat) => [(0, .slice s.a s.l.length s.c), (4, .bool false), (5, .pointer (some ⟨b, 0, none⟩)), (7, .int .i64 kk), (8, .int .i64 (x.2.2 : Int))]) (fun (x : List (Int × Int) × Int × Nat) => (idxS b 9 x.1 :: H)) (fun k (x : List (Int × Int) × Int × Nat) => k + x.2.2 = s.l.length ∧ RK x.1 kk x.2.1) s.l.length (rk 8, 1000 * kk, 0) (by kernel_rfl) ⟨by simp, hrk⟩ ?_
      rintro k2 ⟨xs, P, v⟩ ⟨hkv, hR⟩
      dsimp only at hkv hR ⊢
      refine seqR (by kernel_rfl) ?_
      refine seqR (by kernel_rfl) ?_
      refine regionR 4 (by kernel_rfl) (by kernel_rfl) ?_
      refine (run0 (z := 0) 4 [0, 4, 5, 7, 8, 37] [(0, .slice s.a s.l.length s.c), (4, .bool false), (5, .pointer (some ⟨b, 0, none⟩)), (7, .int .i64 kk), (8, .int .i64 (v : Int)), (37, .bool (decide ((v : Int) < (s.l.length : Int))))] (fun _ => by kernel_rfl) (endR ?_) : RT _ _ _ _ _ _ 4 _)
      refine condR (b := decide ((v : Int) < (s.l.length : Int))) (by kernel_rfl) (fun _ => by kernel_rfl) (fun h2 => ?_) (fun h2 => ?_)
      · skip
        have hv : v < s.l.length := by have := of_decide_eq_true h2; omega
        obtain ⟨y, hy⟩ : ∃ y, s.l[v]? = some y := ⟨_, by simp [hv]; rfl⟩
        have hyb := hw16 y (List.mem_of_getElem? hy)
        obtain ⟨ys, hrek, hR2⟩ := hR.rekey (Q := y) hyb
        have hyl := hR2.2.1
        refine PT.know ((hk).up.isSome (List.ne_nil_of_length_pos (by omega))) ?_
        rintro ⟨sb, so, hA⟩
        try rw [hA]
        refine skipR (by kernel_rfl) ?_
        refine seqR (by kernel_rfl) ?_
        refine blockR 3 (by kernel_rfl) (by kernel_rfl) ?_
        refine seqR (by kernel_rfl) ?_
        refine seqR (by kernel_rfl) ?_
        refine regionR 9 (by kernel_rfl) (by kernel_rfl) ?_
        refine (run0 (z := 5) 4 [0, 4, 5, 7, 8, 40, 41, 42, 43] [(0, .slice (some ⟨sb, so, none⟩) s.l.length s.c), (4, .bool false), (5, .pointer (some ⟨b, 0, none⟩)), (7, .int .i64 kk), (8, .int .i64 (v : Int)), (40, .pointer (some ⟨b, 0, none⟩)), (41, .int .i64 kk), (42, .slice (some ⟨sb, so, none⟩) s.l.length s.c), (43, .int .i64 (v : Int))] (fun _ => by kernel_rfl) ?_ : RT _ _ _ _ _ _ 9 _)
        refine (stepR (z := 4) (yldS (idxY 22 (.tmp 42) (.tmp 43) sb so s.l.length s.c v 1 29 (v : Int) .i64 (some 44) (fun _ => by kernel_rfl) (by kernel_rfl) (by kernel_rfl) (fun _ => by kernel_rfl) (fun _ => by kernel_rfl) Try.underlying22 (by kernel_rfl) (by first | rfl | assumption | simp) (by first | omega | (simp; done) | (simp; omega) | (simp at *; omega)))) (fun _ => ?_) : RT _ _ _ _ _ _ 5 _)
        refine (runR (H := (idxS b 9 xs :: H)) (z := 2) 2 [0, 4, 5, 7, 8, 40, 41, 46] [(0, .slice (some ⟨sb, so, none⟩) s.l.length s.c), (4, .bool false), (5, .pointer (some ⟨b, 0, none⟩)), (7, .int .i64 kk), (8, .int .i64 (v : Int)), (40, .pointer (some ⟨b, 0, none⟩)), (41, .int .i64 kk), (46, .int .i64 (IntKind.i64.wrap y))] [(⟨sb, so + v * 1, none⟩, .int .u16 y)] (hasC (up (hk.cell hA (i := v) (x := y) hy (j := 0) rfl)) has0) (fun _ => by kernel_rfl) ?_ : RT _ _ _ _ _ _ 4 _)
        rw [show IntKind.i64.wrap y = y by rw [IntKind.wrap_i64]; omega]
        refine (stepR (z := 1) (callS 16 [.pointer (some ⟨b, 0, none⟩), .int .i64 kk, .int .i64 y] (some 47) (fun _ => .nilIface) (fun _ => (idxS b 9 ys :: H)) (fun _ => by kernel_rfl) (rekey_ok hrek hR.1 (by have := hR.2.1; omega) _ b)) (fun _ => ?_) : RT _ _ _ _ _ _ 2 _)
        refine (run0 (z := 0) 1 [0, 4, 5, 7, 8, 48] [(0, .slice (some ⟨sb, so, none⟩) s.l.length s.c), (4, .bool false), (5, .pointer (some ⟨b, 0, none⟩)), (7, .int .i64 kk), (8, .int .i64 (v : Int)), (48, .bool false)] (fun _ => by kernel_rfl) (endR ?_) : RT _ _ _ _ _ _ 1 _)
        refine condR (b := false) (by kernel_rfl) (fun _ => by kernel_rfl) (fun h => by cases h) (fun _ => ?_)
        refine skipR (by kernel_rfl) ?_
        refine seqR (by kernel_rfl) ?_
        refine regionR 8 (by kernel_rfl) (by kernel_rfl) ?_
        refine (run0 (z := 6) 2 [0, 4, 5, 7, 8, 50, 51] [(0, .slice (some ⟨sb, so, none⟩) s.l.length s.c), (4, .bool false), (5, .pointer (some ⟨b, 0, none⟩)), (7, .int .i64 kk), (8, .int .i64 (v : Int)), (50, .pointer (some ⟨b, 0, none⟩)), (51, .int .i64 kk)] (fun _ => by kernel_rfl) ?_ : RT _ _ _ _ _ _ 8 _)
        refine (stepR (z := 5) (callS 17 [.pointer (some ⟨b, 0, none⟩), .int .i64 kk] (some 52) (fun _ => .tuple #[.int .i64 (passI ys kk).1, .bool (passI ys kk).2]) (fun _ => (idxS b 9 ys :: H)) (fun _ => by kernel_rfl) (pass_idx _ b 9 ys kk (by omega))) (fun _ => ?_) : RT _ _ _ _ _ _ 6 _)
        rw [hR2.pass]
        refine (run0 (z := 0) 5 [0, 4, 5, 7, 8, 9, 10] [(0, .slice (some ⟨sb, so, none⟩) s.l.length s.c), (4, .bool false), (5, .pointer (some ⟨b, 0, none⟩)), (7, .int .i64 kk), (8, .int .i64 (v : Int)), (9, .int .i64 y), (10, .bool true)] (fun _ => by kernel_rfl) (endR ?_) : RT _ _ _ _ _ _ 5 _)
        refine seqR (by kernel_rfl) ?_
        refine regionR 8 (by kernel_rfl) (by kernel_rfl) ?_
        refine (run0 (z := 7) 1 [0, 4, 5, 7, 8, 9, 10, 56] [(0, .slice (some ⟨sb, so, none⟩) s.l.length s.c), (4, .bool false), (5, .pointer (some ⟨b, 0, none⟩)), (7, .int .i64 kk), (8, .int .i64 (v : Int)), (9, .int .i64 y), (10, .bool true), (56, .pointer (some ⟨b, 0, none⟩))] (fun _ => by kernel_rfl) ?_ : RT _ _ _ _ _ _ 8 _)
        refine (stepR (z := 6) (callS 10 [.pointer (some ⟨b, 0, none⟩)] (some 57) (fun _ => .tuple #[.agg #[.int .i64 (minE ys).1.1, .int .i64 (minE ys).1.2], .bool (minE ys).2]) (fun _ => (idxS b 9 ys :: H)) (fun _ => by kernel_rfl) (min_idx _ b 9 ys)) (fun _ => ?_) : RT _ _ _ _ _ _ 7 _)
        rw [show (minE ys).2 = true by exact hR2.min2]
        refine (run0 (z := 3) 3 [0, 4, 5, 7, 8, 9, 10, 58, 59] [(0, .slice (some ⟨sb, so, none⟩) s.l.length s.c), (4, .bool false), (5, .pointer (some ⟨b, 0, none⟩)), (7, .int .i64 kk), (8, .int .i64 (v : Int)), (9, .int .i64 y), (10, .bool true), (58, .agg #[.int .i64 ((minE ys).1.1), .int .i64 ((minE ys).1.2)]), (59, .bool true)] (fun _ => by kernel_rfl) ?_ : RT _ _ _ _ _ _ 6 _)
        refine (stepR (z := 2) (newS 31 [.int .i64 0, .int .i64 0] (some 11) (fun b => .pointer (some ⟨b, 0, none⟩)) (fun _ _ => by kernel_rfl)) (fun b1 => ?_) : RT _ _ _ _ _ _ 3 _)
        refine (stepR (z := 1) (storeS [(0, .int .i64 ((minE ys).1.1)), (1, .int .i64 ((minE ys).1.2))] [.int .i64 ((minE ys).1.1), .int .i64 ((minE ys).1.2)] (fun _ => by kernel_rfl) (by kernel_rfl) (by kernel_rfl)) (fun _ => ?_) : RT _ _ _ _ _ _ 2 _)
        refine (run0 (z := 0) 1 [11, 0, 4, 5, 7, 8, 9, 10, 12] [(11, .pointer (some ⟨b1, 0, none⟩)), (0, .slice (some ⟨sb, so, none⟩) s.l.length s.c), (4, .bool false), (5, .pointer (some ⟨b, 0, none⟩)), (7, .int .i64 kk), (8, .int .i64 (v : Int)), (9, .int .i64 y), (10, .bool true), (12, .bool true)] (fun _ => by kernel_rfl) (endR ?_) : RT _ _ _ _ _ _ 1 _)
        refine seqR (by kernel_rfl) ?_
        refine regionR 9 (by kernel_rfl) (by kernel_rfl) ?_
        refine (run0 (z := 7) 2 [11, 0, 4, 5, 7, 8, 9, 10, 12, 60, 61] [(11, .pointer (some ⟨b1, 0, none⟩)), (0, .slice (some ⟨sb, so, none⟩) s.l.length s.c), (4, .bool false), (5, .pointer (some ⟨b, 0, none⟩)), (7, .int .i64 kk), (8, .int .i64 (v : Int)), (9, .int .i64 y), (10, .bool true), (12, .bool true), (60, .slice (some ⟨sb, so, none⟩) s.l.length s.c), (61, .int .i64 (v : Int))] (fun _ => by kernel_rfl) ?_ : RT _ _ _ _ _ _ 9 _)
        refine (stepR (z := 6) (yldS (idxY 22 (.tmp 60) (.tmp 61) sb so s.l.length s.c v 1 29 (v : Int) .i64 (some 62) (fun _ => by kernel_rfl) (by kernel_rfl) (by kernel_rfl) (fun _ => by kernel_rfl) (fun _ => by kernel_rfl) Try.underlying22 (by kernel_rfl) (by first | rfl | assumption | simp) (by first | omega | (simp; done) | (simp; omega) | (simp at *; omega)))) (fun _ => ?_) : RT _ _ _ _ _ _ 7 _)
        refine (runR (H := (blk b1 31 [.int .i64 ((minE ys).1.1), .int .i64 ((minE ys).1.2)] :: idxS b 9 ys :: H)) (z := 2) 4 [11, 0, 4, 5, 7, 8, 9, 10, 12, 66] [(11, .pointer (some ⟨b1, 0, none⟩)), (0, .slice (some ⟨sb, so, none⟩) s.l.length s.c), (4, .bool false), (5, .pointer (some ⟨b, 0, none⟩)), (7, .int .i64 kk), (8, .int .i64 (v : Int)), (9, .int .i64 y), (10, .bool true), (12, .bool true), (66, .agg #[.int .i64 (IntKind.i64.wrap y), .int .i64 kk])] [(⟨sb, so + v * 1, none⟩, .int .u16 y)] (hasC (up (up (hk.cell hA (i := v) (x := y) hy (j := 0) rfl))) has0) (fun _ => by kernel_rfl) ?_ : RT _ _ _ _ _ _ 6 _)
        refine (stepR (z := 1) (newS 31 [.int .i64 0, .int .i64 0] (some 13) (fun b => .pointer (some ⟨b, 0, none⟩)) (fun _ _ => by kernel_rfl)) (fun b2 => ?_) : RT _ _ _ _ _ _ 2 _)
        refine (stepR (z := 0) (storeS [(0, .int .i64 (IntKind.i64.wrap y)), (1, .int .i64 kk)] [.int .i64 (IntKind.i64.wrap y), .int .i64 kk] (fun _ => by kernel_rfl) (by kernel_rfl) (by kernel_rfl)) (fun _ => ?_) : RT _ _ _ _ _ _ 1 _)
        refine endR ?_
        refine seqR (by kernel_rfl) ?_
        refine seqR (by kernel_rfl) ?_
        refine regionR 1 (by kernel_rfl) (by kernel_rfl) ?_
        refine (run0 (z := 0) 1 [13, 11, 0, 4, 5, 7, 8, 9, 10, 12, 14] [(13, .pointer (some ⟨b2, 0, none⟩)), (11, .pointer (some ⟨b1, 0, none⟩)), (0, .slice (some ⟨sb, so, none⟩) s.l.length s.c), (4, .bool false), (5, .pointer (some ⟨b, 0, none⟩)), (7, .int .i64 kk), (8, .int .i64 (v : Int)), (9, .int .i64 y), (10, .bool true), (12, .bool true), (14, .int .i64 7)] (fun _ => by kernel_rfl) (endR ?_) : RT _ _ _ _ _ _ 1 _)
        refine blockR 4 (by kernel_rfl) (by kernel_rfl) ?_
        rw [show IntKind.i64.wrap y = y by rw [IntKind.wrap_i64]; omega]
        refine PT.keep (L' := [(0, .slice (some ⟨sb, so, none⟩) s.l.length s.c), (4, .bool false), (5, .pointer (some ⟨b, 0, none⟩)), (7, .int .i64 kk), (8, .int .i64 (v : Int)), (9, .int .i64 y), (10, .bool true), (11, .pointer (some ⟨b1, 0, none⟩)), (12, .bool true), (13, .pointer (some ⟨b2, 0, none⟩)), (14, .int .i64 7)]) [0, 4, 5, 7, 8, 9, 10, 11, 12, 13, 14] rfl ?_
        refine loopG (fun (x : (Int × Int) × Int) => [(0, .slice (some ⟨sb, so, none⟩) s.l.length s.c), (4, .bool false), (5, .pointer (some ⟨b, 0, none⟩)), (7, .int .i64 kk), (8, .int .i64 (v : Int)), (9, .int .i64 y), (10, .bool true), (11, .pointer (some ⟨b1, 0, none⟩)), (12, .bool true), (13, .pointer (some ⟨b2, 0, none⟩)), (14, .int .i64 x.2)]) (fun (x : (Int × Int) × Int) => (blk b2 31 [.int .i64 x.1.1, .int .i64 x.1.2] :: blk b1 31 [.int .i64 ((minE ys).1.1), .int .i64 ((minE ys).1.2)] :: idxS b 9 ys :: H)) (fun k (x : (Int × Int) × Int) => k = (x.2 + 1).toNat ∧ -1 ≤ x.2 ∧ x.2 ≤ 7 ∧ x.1 ∈ ys ∧ ¬ eLt (y, kk) x.1 ∧ ∀ j : Int, x.2 < j → j < 8 → j ≠ kk → ¬ eLt (1000 * j, j) x.1) 8 ((y, kk), 7) (by kernel_rfl) ⟨rfl, by simp only; omega, by simp only; omega, (hR2.2.2 _).2 (.inl rfl), eLt_irrefl _, fun j h1 h2 => by simp only at h1; omega⟩ ?_
        rintro k3 ⟨⟨La, Lb⟩, jj⟩ ⟨hkj, hj0, hj1, hLm, hL1, hL2⟩
        dsimp only at hkj hj0 hj1 hLm hL1 hL2 ⊢
        refine seqR (by kernel_rfl) ?_
        refine seqR (by kernel_rfl) ?_
        refine regionR 2 (by kernel_rfl) (by kernel_rfl) ?_
        refine (run0 (z := 0) 2 [0, 4, 5, 7, 8, 9, 10, 11, 12, 13, 14, 68] [(0, .slice (some ⟨sb, so, none⟩) s.l.length s.c), (4, .bool false), (5, .pointer (some ⟨b, 0, none⟩)), (7, .int .i64 kk), (8, .int .i64 (v : Int)), (9, .int .i64 y), (10, .bool true), (11, .pointer (some ⟨b1, 0, none⟩)), (12, .bool true), (13, .pointer (some ⟨b2, 0, none⟩)), (14, .int .i64 jj), (68, .bool (decide (jj ≥ 0)))] (fun _ => by kernel_rfl) (endR ?_) : RT _ _ _ _ _ _ 2 _)
        refine condR (b := decide (jj ≥ 0)) (by kernel_rfl) (fun _ => by kernel_rfl) (fun h3 => ?_) (fun h3 => ?_)
        · skip
          have hj3 : 0 ≤ jj := by have := of_decide_eq_true h3; omega
          refine skipR (by kernel_rfl) ?_
          refine seqR (by kernel_rfl) ?_
          refine blockR 5 (by kernel_rfl) (by kernel_rfl) ?_
          refine seqR (by kernel_rfl) ?_
          refine regionR 23 (by kernel_rfl) (by kernel_rfl) ?_
          refine (run0 (z := 19) 4 [0, 4, 5, 7, 8, 9, 10, 11, 12, 13, 14, 74] [(0, .slice (some ⟨sb, so, none⟩) s.l.length s.c), (4, .bool false), (5, .pointer (some ⟨b, 0, none⟩)), (7, .int .i64 kk), (8, .int .i64 (v : Int)), (9, .int .i64 y), (10, .bool true), (11, .pointer (some ⟨b1, 0, none⟩)), (12, .bool true), (13, .pointer (some ⟨b2, 0, none⟩)), (14, .int .i64 jj), (74, .bool (jj != kk))] (fun _ => by kernel_rfl) ?_ : RT _ _ _ _ _ _ 23 _)
          refine (segR (ι := Unit) (z := 0) 19 (fun _ => [(0, .slice (some ⟨sb, so, none⟩) s.l.length s.c), (4, .bool false), (5, .pointer (some ⟨b, 0, none⟩)), (7, .int .i64 kk), (8, .int .i64 (v : Int)), (9, .int .i64 y), (10, .bool true), (11, .pointer (some ⟨b1, 0, none⟩)), (12, .bool true), (13, .pointer (some ⟨b2, 0, none⟩)), (14, .int .i64 jj), (93, .bool ((jj != kk) && ((decide ((IntKind.i64.wrap (1000 * jj)) < La)) || (((IntKind.i64.wrap (1000 * jj)) == La) && (decide (jj < Lb))))))]) (fun _ => (blk b2 31 [.int .i64 La, .int .i64 Lb] :: blk b1 31 [.int .i64 ((minE ys).1.1), .int .i64 ((minE ys).1.2)] :: idxS b 9 ys :: H)) ?_ (fun _ => ?_) : RT _ _ _ _ _ _ 19 _)
          · cases hg4 : (jj != kk) with
            | true =>
              refine (runR (H := (blk b2 31 [.int .i64 La, .int .i64 Lb] :: blk b1 31 [.int .i64 ((minE ys).1.1), .int .i64 ((minE ys).1.2)] :: idxS b 9 ys :: H)) (z := 13) 6 [0, 4, 5, 7, 8, 9, 10, 11, 12, 13, 14, 74, 80] [(0, .slice (some ⟨sb, so, none⟩) s.l.length s.c), (4, .bool false), (5, .pointer (some ⟨b, 0, none⟩)), (7, .int .i64 kk), (8, .int .i64 (v : Int)), (9, .int .i64 y), (10, .bool true), (11, .pointer (some ⟨b1, 0, none⟩)), (12, .bool true), (13, .pointer (some ⟨b2, 0, none⟩)), (14, .int .i64 jj), (74, .bool true), (80, .bool (decide ((IntKind.i64.wrap (1000 * jj)) < La)))] [(⟨b2, 0, none⟩, .int .i64 La)] (hasC (blkAt (T := 31) (cs := [.int .i64 La, .int .i64 Lb]) 0 rfl rfl) has0) (fun _ => by kernel_rfl) ?_ : RT _ _ _ _ _ _ 19 _)
              refine (segR (ι := Unit) (z := 1) 12 (fun _ => [(0, .slice (some ⟨sb, so, none⟩) s.l.length s.c), (4, .bool false), (5, .pointer (some ⟨b, 0, none⟩)), (7, .int .i64 kk), (8, .int .i64 (v : Int)), (9, .int .i64 y), (10, .bool true), (11, .pointer (some ⟨b1, 0, none⟩)), (12, .bool true), (13, .pointer (some ⟨b2, 0, none⟩)), (14, .int .i64 jj), (74, .bool true), (92, .bool ((decide ((IntKind.i64.wrap (1000 * jj)) < La)) || (((IntKind.i64.wrap (1000 * jj)) == La) && (decide (jj < Lb)))))]) (fun _ => (blk b2 31 [.int .i64 La, .int .i64 Lb] :: blk b1 31 [.int .i64 ((minE ys).1.1), .int .i64 ((minE ys).1.2)] :: idxS b 9 ys :: H)) ?_ (fun _ => ?_) : RT _ _ _ _ _ _ 13 _)
              · cases hg10 : (decide ((IntKind.i64.wrap (1000 * jj)) < La)) with
                | true =>
                  refine (run0 (z := 0) 12 [0, 4, 5, 7, 8, 9, 10, 11, 12, 13, 14, 74, 92] [(0, .slice (some ⟨sb, so, none⟩) s.l.length s.c), (4, .bool false), (5, .pointer (some ⟨b, 0, none⟩)), (7, .int .i64 kk), (8, .int .i64 (v : Int)), (9, .int .i64 y), (10, .bool true), (11, .pointer (some ⟨b1, 0, none⟩)), (12, .bool true), (13, .pointer (some ⟨b2, 0, none⟩)), (14, .int .i64 jj), (74, .bool true), (92, .bool true)] (fun _ => by kernel_rfl) (endR ?_) : RT _ _ _ _ _ _ 12 _)
                  refine PT.keep (L' := [(0, .slice (some ⟨sb, so, none⟩) s.l.length s.c), (4, .bool false), (5, .pointer (some ⟨b, 0, none⟩)), (7, .int .i64 kk), (8, .int .i64 (v : Int)), (9, .int .i64 y), (10, .bool true), (11, .pointer (some ⟨b1, 0, none⟩)), (12, .bool true), (13, .pointer (some ⟨b2, 0, none⟩)), (14, .int .i64 jj), (74, .bool true), (92, .bool (true || (((IntKind.i64.wrap (1000 * jj)) == La) && (decide (jj < Lb)))))]) [0, 4, 5, 7, 8, 9, 10, 11, 12, 13, 14, 74, 92] rfl ?_
                  exact midR () rfl rfl
                | false =>
                  refine (runR (H := (blk b2 31 [.int .i64 La, .int .i64 Lb] :: blk b1 31 [.int .i64 ((minE ys).1.1), .int .i64 ((minE ys).1.2)] :: idxS b 9 ys :: H)) (z := 6) 6 [0, 4, 5, 7, 8, 9, 10, 11, 12, 13, 14, 74, 80, 86] [(0, .slice (some ⟨sb, so, none⟩) s.l.length s.c), (4, .bool false), (5, .pointer (some ⟨b, 0, none⟩)), (7, .int .i64 kk), (8, .int .i64 (v : Int)), (9, .int .i64 y), (10, .bool true), (11, .pointer (some ⟨b1, 0, none⟩)), (12, .bool true), (13, .pointer (some ⟨b2, 0, none⟩)), (14, .int .i64 jj), (74, .bool true), (80, .bool false), (86, .bool ((IntKind.i64.wrap (1000 * jj)) == La))] [(⟨b2, 0, none⟩, .int .i64 La)] (hasC (blkAt (T := 31) (cs := [.int .i64 La, .int .i64 Lb]) 0 rfl rfl) has0) (fun _ => by kernel_rfl) ?_ : RT _ _ _ _ _ _ 12 _)
                  refine (segR (ι := Unit) (z := 1) 5 (fun _ => [(0, .slice (some ⟨sb, so, none⟩) s.l.length s.c), (4, .bool false), (5, .pointer (some ⟨b, 0, none⟩)), (7, .int .i64 kk), (8, .int .i64 (v : Int)), (9, .int .i64 y), (10, .bool true), (11, .pointer (some ⟨b1, 0, none⟩)), (12, .bool true), (13, .pointer (some ⟨b2, 0, none⟩)), (14, .int .i64 jj), (74, .bool true), (80, .bool false), (91, .bool (((IntKind.i64.wrap (1000 * jj)) == La) && (decide (jj < Lb))))]) (fun _ => (blk b2 31 [.int .i64 La, .int .i64 Lb] :: blk b1 31 [.int .i64 ((minE ys).1.1), .int .i64 ((minE ys).1.2)] :: idxS b 9 ys :: H)) ?_ (fun _ => ?_) : RT _ _ _ _ _ _ 6 _)
                  · cases hg16 : ((IntKind.i64.wrap (1000 * jj)) == La) with
                    | true =>
                      refine (runR (H := (blk b2 31 [.int .i64 La, .int .i64 Lb] :: blk b1 31 [.int .i64 ((minE ys).1.1), .int .i64 ((minE ys).1.2)] :: idxS b 9 ys :: H)) (z := 0) 5 [0, 4, 5, 7, 8, 9, 10, 11, 12, 13, 14, 74, 80, 91] [(0, .slice (some ⟨sb, so, none⟩) s.l.length s.c), (4, .bool false), (5, .pointer (some ⟨b, 0, none⟩)), (7, .int .i64 kk), (8, .int .i64 (v : Int)), (9, .int .i64 y), (10, .bool true), (11, .pointer (some ⟨b1, 0, none⟩)), (12, .bool true), (13, .pointer (some ⟨b2, 0, none⟩)), (14, .int .i64 jj), (74, .bool true), (80, .bool false), (91, .bool (decide (jj < Lb)))] [(⟨b2, 1, none⟩, .int .i64 Lb)] (hasC (blkAt (T := 31) (cs := [.int .i64 La, .int .i64 Lb]) 0 rfl rfl) has0) (fun _ => by kernel_rfl) (endR ?_) : RT _ _ _ _ _ _ 5 _)
                      refine PT.keep (L' := [(0, .slice (some ⟨sb, so, none⟩) s.l.length s.c), (4, .bool false), (5, .pointer (some ⟨b, 0, none⟩)), (7, .int .i64 kk), (8, .int .i64 (v : Int)), (9, .int .i64 y), (10, .bool true), (11, .pointer (some ⟨b1, 0, none⟩)), (12, .bool true), (13, .pointer (some ⟨b2, 0, none⟩)), (14, .int .i64 jj), (74, .bool true), (80, .bool false), (91, .bool (true && (decide (jj < Lb))))]) [0, 4, 5, 7, 8, 9, 10, 11, 12, 13, 14, 74, 80, 91] rfl ?_
                      exact midR () rfl rfl
                    | false =>
                      refine (run0 (z := 0) 5 [0, 4, 5, 7, 8, 9, 10, 11, 12, 13, 14, 74, 80, 91] [(0, .slice (some ⟨sb, so, none⟩) s.l.length s.c), (4, .bool false), (5, .pointer (some ⟨b, 0, none⟩)), (7, .int .i64 kk), (8, .int .i64 (v : Int)), (9, .int .i64 y), (10, .bool true), (11, .pointer (some ⟨b1, 0, none⟩)), (12, .bool true), (13, .pointer (some ⟨b2, 0, none⟩)), (14, .int .i64 jj), (74, .bool true), (80, .bool false), (91, .bool false)] (fun _ => by kernel_rfl) (endR ?_) : RT _ _ _ _ _ _ 5 _)
                      refine PT.keep (L' := [(0, .slice (some ⟨sb, so, none⟩) s.l.length s.c), (4, .bool false), (5, .pointer (some ⟨b, 0, none⟩)), (7, .int .i64 kk), (8, .int .i64 (v : Int)), (9, .int .i64 y), (10, .bool true), (11, .pointer (some ⟨b1, 0, none⟩)), (12, .bool true), (13, .pointer (some ⟨b2, 0, none⟩)), (14, .int .i64 jj), (74, .bool true), (80, .bool false), (91, .bool (false && (decide (jj < Lb))))]) [0, 4, 5, 7, 8, 9, 10, 11, 12, 13, 14, 74, 80, 91] rfl ?_
                      exact midR () rfl rfl
                  refine (run0 (z := 0) 1 [0, 4, 5, 7, 8, 9, 10, 11, 12, 13, 14, 74, 92] [(0, .slice (some ⟨sb, so, none⟩) s.l.length s.c), (4, .bool false), (5, .pointer (some ⟨b, 0, none⟩)), (7, .int .i64 kk), (8, .int .i64 (v : Int)), (9, .int .i64 y), (10, .bool true), (11, .pointer (some ⟨b1, 0, none⟩)), (12, .bool true), (13, .pointer (some ⟨b2, 0, none⟩)), (14, .int .i64 jj), (74, .bool true), (92, .bool (((IntKind.i64.wrap (1000 * jj)) == La) && (decide (jj < Lb))))] (fun _ => by kernel_rfl) (endR ?_) : RT _ _ _ _ _ _ 1 _)
                  refine PT.keep (L' := [(0, .slice (some ⟨sb, so, none⟩) s.l.length s.c), (4, .bool false), (5, .pointer (some ⟨b, 0, none⟩)), (7, .int .i64 kk), (8, .int .i64 (v : Int)), (9, .int .i64 y), (10, .bool true), (11, .pointer (some ⟨b1, 0, none⟩)), (12, .bool true), (13, .pointer (some ⟨b2, 0, none⟩)), (14, .int .i64 jj), (74, .bool true), (92, .bool (false || (((IntKind.i64.wrap (1000 * jj)) == La) && (decide (jj < Lb)))))]) [0, 4, 5, 7, 8, 9, 10, 11, 12, 13, 14, 74, 92] rfl ?_
                  exact midR () rfl rfl
              refine (run0 (z := 0) 1 [0, 4, 5, 7, 8, 9, 10, 11, 12, 13, 14, 93] [(0, .slice (some ⟨sb, so, none⟩) s.l.length s.c), (4, .bool false), (5, .pointer (some ⟨b, 0, none⟩)), (7, .int .i64 kk), (8, .int .i64 (v : Int)), (9, .int .i64 y), (10, .bool true), (11, .pointer (some ⟨b1, 0, none⟩)), (12, .bool true), (13, .pointer (some ⟨b2, 0, none⟩)), (14, .int .i64 jj), (93, .bool ((decide ((IntKind.i64.wrap (1000 * jj)) < La)) || (((IntKind.i64.wrap (1000 * jj)) == La) && (decide (jj < Lb)))))] (fun _ => by kernel_rfl) (endR ?_) : RT _ _ _ _ _ _ 1 _)
              refine PT.keep (L' := [(0, .slice (some ⟨sb, so, none⟩) s.l.length s.c), (4, .bool false), (5, .pointer (some ⟨b, 0, none⟩)), (7, .int .i64 kk), (8, .int .i64 (v : Int)), (9, .int .i64 y), (10, .bool true), (11, .pointer (some ⟨b1, 0, none⟩)), (12, .bool true), (13, .pointer (some ⟨b2, 0, none⟩)), (14, .int .i64 jj), (93, .bool (true && ((decide ((IntKind.i64.wrap (1000 * jj)) < La)) || (((IntKind.i64.wrap (1000 * jj)) == La) && (decide (jj < Lb))))))]) [0, 4, 5, 7, 8, 9, 10, 11, 12, 13, 14, 93] rfl ?_
              exact midR () rfl rfl
            | false =>
              refine (run0 (z := 0) 19 [0, 4, 5, 7, 8, 9, 10, 11, 12, 13, 14, 93] [(0, .slice (some ⟨sb, so, none⟩) s.l.length s.c), (4, .bool false), (5, .pointer (some ⟨b, 0, none⟩)), (7, .int .i64 kk), (8, .int .i64 (v : Int)), (9, .int .i64 y), (10, .bool true), (11, .pointer (some ⟨b1, 0, none⟩)), (12, .bool true), (13, .pointer (some ⟨b2, 0, none⟩)), (14, .int .i64 jj), (93, .bool false)] (fun _ => by kernel_rfl) (endR ?_) : RT _ _ _ _ _ _ 19 _)
              refine PT.keep (L' := [(0, .slice (some ⟨sb, so, none⟩) s.l.length s.c), (4, .bool false), (5, .pointer (some ⟨b, 0, none⟩)), (7, .int .i64 kk), (8, .int .i64 (v : Int)), (9, .int .i64 y), (10, .bool true), (11, .pointer (some ⟨b1, 0, none⟩)), (12, .bool true), (13, .pointer (some ⟨b2, 0, none⟩)), (14, .int .i64 jj), (93, .bool (false && ((decide ((IntKind.i64.wrap (1000 * jj)) < La)) || (((IntKind.i64.wrap (1000 * jj)) == La) && (decide (jj < Lb))))))]) [0, 4, 5, 7, 8, 9, 10, 11, 12, 13, 14, 93] rfl ?_
              exact midR () rfl rfl
          refine endR ?_
          rw [show IntKind.i64.wrap (1000 * jj) = (1000 * jj) by rw [IntKind.wrap_i64]; omega]
          have hiff : ((jj != kk) && ((decide ((1000 * jj) < La)) || (((1000 * jj) == La) && (decide (jj < Lb))))) = true ↔ jj ≠ kk ∧ eLt (1000 * jj, jj) (La, Lb) := by simp [eLt]
          refine condR (b := (jj != kk) && ((decide ((1000 * jj) < La)) || (((1000 * jj) == La) && (decide (jj < Lb))))) (by kernel_rfl) (fun _ => by kernel_rfl) (fun h4 => ?_) (fun h4 => ?_)
          · skip
            obtain ⟨hne, hlt⟩ := hiff.1 h4
            have hL1' : ¬ eLt (y, kk) (1000 * jj, jj) := fun h => hL1 (eLt_trans h hlt)
            have hL2' : ∀ j : Int, jj - 1 < j → j < 8 → j ≠ kk → ¬ eLt (1000 * j, j) (1000 * jj, jj) := by
              intro j h1 h2 h3
              by_cases c : j = jj
              · subst c; exact eLt_irrefl _
              · exact fun h => hL2 j (by omega) h2 h3 (eLt_trans h hlt)
            refine regionR 5 (by kernel_rfl) (by kernel_rfl) ?_
            refine (run0 (z := 1) 4 [0, 4, 5, 7, 8, 9, 10, 11, 12, 13, 14, 97] [(0, .slice (some ⟨sb, so, none⟩) s.l.length s.c), (4, .bool false), (5, .pointer (some ⟨b, 0, none⟩)), (7, .int .i64 kk), (8, .int .i64 (v : Int)), (9, .int .i64 y), (10, .bool true), (11, .pointer (some ⟨b1, 0, none⟩)), (12, .bool true), (13, .pointer (some ⟨b2, 0, none⟩)), (14, .int .i64 jj), (97, .agg #[.int .i64 (IntKind.i64.wrap (1000 * jj)), .int .i64 jj])] (fun _ => by kernel_rfl) ?_ : RT _ _ _ _ _ _ 5 _)
            refine (stepR (z := 0) (storeS [(0, .int .i64 (IntKind.i64.wrap (1000 * jj))), (1, .int .i64 jj)] [.int .i64 (IntKind.i64.wrap (1000 * jj)), .int .i64 jj] (fun _ => by kernel_rfl) (by kernel_rfl) (by kernel_rfl)) (fun _ => ?_) : RT _ _ _ _ _ _ 1 _)
            refine endR ?_
            refine regionR 3 (by kernel_rfl) (by kernel_rfl) ?_
            refine (run0 (z := 0) 3 [0, 4, 5, 7, 8, 9, 10, 11, 12, 13, 14] [(0, .slice (some ⟨sb, so, none⟩) s.l.length s.c), (4, .bool false), (5, .pointer (some ⟨b, 0, none⟩)), (7, .int .i64 kk), (8, .int .i64 (v : Int)), (9, .int .i64 y), (10, .bool true), (11, .pointer (some ⟨b1, 0, none⟩)), (12, .bool true), (13, .pointer (some ⟨b2, 0, none⟩)), (14, .int .i64 (IntKind.i64.wrap (jj - 1)))] (fun _ => by kernel_rfl) (endR ?_) : RT _ _ _ _ _ _ 3 _)
            rw [show IntKind.i64.wrap (1000 * jj) = (1000 * jj) by rw [IntKind.wrap_i64]; omega]
            rw [show IntKind.i64.wrap (jj - 1) = (jj - 1) by rw [IntKind.wrap_i64]; omega]
            refine PT.keep (L' := [(0, .slice (some ⟨sb, so, none⟩) s.l.length s.c), (4, .bool false), (5, .pointer (some ⟨b, 0, none⟩)), (7, .int .i64 kk), (8, .int .i64 (v : Int)), (9, .int .i64 y), (10, .bool true), (11, .pointer (some ⟨b1, 0, none⟩)), (12, .bool true), (13, .pointer (some ⟨b2, 0, none⟩)), (14, .int .i64 (jj - 1))]) [0, 4, 5, 7, 8, 9, 10, 11, 12, 13, 14] rfl ?_
            exact againG (k3 - 1) ((1000 * jj, jj), jj - 1) rfl rfl (by omega) ⟨by simp only; omega, by simp only; omega, by simp only; omega, (hR2.2.2 _).2 (.inr ⟨jj, hj3, by omega, hne, rfl⟩), hL1', hL2'⟩
          · skip
            have hL2' : ∀ j : Int, jj - 1 < j → j < 8 → j ≠ kk → ¬ eLt (1000 * j, j) (La, Lb) := by
              intro j q1 q2 q3 q
              by_cases c : j = jj
              · subst c
                have h5 := hiff.2 ⟨q3, q⟩
                have h6 : ((j != kk) && ((decide ((1000 * j) < La)) || (((1000 * j) == La) && (decide (j < Lb))))) = false := h4
                rw [h5] at h6
                cases h6
              · exact hL2 j (by omega) q2 q3 q
            refine skipR (by kernel_rfl) ?_
            refine regionR 3 (by kernel_rfl) (by kernel_rfl) ?_
            refine (run0 (z := 0) 3 [0, 4, 5, 7, 8, 9, 10, 11, 12, 13, 14] [(0, .slice (some ⟨sb, so, none⟩) s.l.length s.c), (4, .bool false), (5, .pointer (some ⟨b, 0, none⟩)), (7, .int .i64 kk), (8, .int .i64 (v : Int)), (9, .int .i64 y), (10, .bool true), (11, .pointer (some ⟨b1, 0, none⟩)), (12, .bool true), (13, .pointer (some ⟨b2, 0, none⟩)), (14, .int .i64 (IntKind.i64.wrap (jj - 1)))] (fun _ => by kernel_rfl) (endR ?_) : RT _ _ _ _ _ _ 3 _)
            rw [show IntKind.i64.wrap (jj - 1) = (jj - 1) by rw [IntKind.wrap_i64]; omega]
            refine PT.keep (L' := [(0, .slice (some ⟨sb, so, none⟩) s.l.length s.c), (4, .bool false), (5, .pointer (some ⟨b, 0, none⟩)), (7, .int .i64 kk), (8, .int .i64 (v : Int)), (9, .int .i64 y), (10, .bool true), (11, .pointer (some ⟨b1, 0, none⟩)), (12, .bool true), (13, .pointer (some ⟨b2, 0, none⟩)), (14, .int .i64 (jj - 1))]) [0, 4, 5, 7, 8, 9, 10, 11, 12, 13, 14] rfl ?_
            exact againG (k3 - 1) ((La, Lb), jj - 1) rfl rfl (by omega) ⟨by simp only; omega, by simp only; omega, by simp only; omega, hLm, hL1, hL2'⟩
        · skip
          have hj3 : jj < 0 := by have := of_decide_eq_false h3; omega
          have hmin := hR2.least hLm hL1 (fun j h1 h2 h3 => hL2 j (by omega) h2 h3)
          refine exitR 4 (by kernel_rfl) (by kernel_rfl) ?_
          refine thenX ?_
          refine thenX ?_
          refine leaveR ?_
          refine seqR (by kernel_rfl) ?_
          refine regionR 25 (by kernel_rfl) (by kernel_rfl) ?_
          refine (run0 (z := 19) 6 [0, 4, 5, 7, 8, 11, 12, 13, 100, 101, 102, 103] [(0, .slice (some ⟨sb, so, none⟩) s.l.length s.c), (4, .bool false), (5, .pointer (some ⟨b, 0, none⟩)), (7, .int .i64 kk), (8, .int .i64 (v : Int)), (11, .pointer (some ⟨b1, 0, none⟩)), (12, .bool true), (13, .pointer (some ⟨b2, 0, none⟩)), (100, .bool false), (101, .int .i64 y), (102, .slice (some ⟨sb, so, none⟩) s.l.length s.c), (103, .int .i64 (v : Int))] (fun _ => by kernel_rfl) ?_ : RT _ _ _ _ _ _ 25 _)
          refine (stepR (z := 18) (yldS (idxY 22 (.tmp 102) (.tmp 103) sb so s.l.length s.c v 1 29 (v : Int) .i64 (some 104) (fun _ => by kernel_rfl) (by kernel_rfl) (by kernel_rfl) (fun _ => by kernel_rfl) (fun _ => by kernel_rfl) Try.underlying22 (by kernel_rfl) (by first | rfl | assumption | simp) (by first | omega | (simp; done) | (simp; omega) | (simp at *; omega)))) (fun _ => ?_) : RT _ _ _ _ _ _ 19 _)
          refine (runR (H := (blk b2 31 [.int .i64 La, .int .i64 Lb] :: blk b1 31 [.int .i64 ((minE ys).1.1), .int .i64 ((minE ys).1.2)] :: idxS b 9 ys :: H)) (z := 13) 5 [0, 4, 5, 7, 8, 11, 12, 13, 109] [(0, .slice (some ⟨sb, so, none⟩) s.l.length s.c), (4, .bool false), (5, .pointer (some ⟨b, 0, none⟩)), (7, .int .i64 kk), (8, .int .i64 (v : Int)), (11, .pointer (some ⟨b1, 0, none⟩)), (12, .bool true), (13, .pointer (some ⟨b2, 0, none⟩)), (109, .bool (y != (IntKind.i64.wrap y)))] [(⟨sb, so + v * 1, none⟩, .int .u16 y)] (hasC (up (up (up (hk.cell hA (i := v) (x := y) hy (j := 0) rfl)))) has0) (fun _ => by kernel_rfl) ?_ : RT _ _ _ _ _ _ 18 _)
          refine (segR (ι := Unit) (z := 10) 3 (fun _ => [(0, .slice (some ⟨sb, so, none⟩) s.l.length s.c), (4, .bool false), (5, .pointer (some ⟨b, 0, none⟩)), (7, .int .i64 kk), (8, .int .i64 (v : Int)), (11, .pointer (some ⟨b1, 0, none⟩)), (13, .pointer (some ⟨b2, 0, none⟩)), (112, .bool ((y != (IntKind.i64.wrap y)) || false))]) (fun _ => (blk b2 31 [.int .i64 La, .int .i64 Lb] :: blk b1 31 [.int .i64 ((minE ys).1.1), .int .i64 ((minE ys).1.2)] :: idxS b 9 ys :: H)) ?_ (fun _ => ?_) : RT _ _ _ _ _ _ 13 _)
          · cases hg12 : (y != (IntKind.i64.wrap y)) with
            | true =>
              refine (run0 (z := 0) 3 [0, 4, 5, 7, 8, 11, 13, 112] [(0, .slice (some ⟨sb, so, none⟩) s.l.length s.c), (4, .bool false), (5, .pointer (some ⟨b, 0, none⟩)), (7, .int .i64 kk), (8, .int .i64 (v : Int)), (11, .pointer (some ⟨b1, 0, none⟩)), (13, .pointer (some ⟨b2, 0, none⟩)), (112, .bool true)] (fun _ => by kernel_rfl) (endR ?_) : RT _ _ _ _ _ _ 3 _)
              refine PT.keep (L' := [(0, .slice (some ⟨sb, so, none⟩) s.l.length s.c), (4, .bool false), (5, .pointer (some ⟨b, 0, none⟩)), (7, .int .i64 kk), (8, .int .i64 (v : Int)), (11, .pointer (some ⟨b1, 0, none⟩)), (13, .pointer (some ⟨b2, 0, none⟩)), (112, .bool (true || false))]) [0, 4, 5, 7, 8, 11, 13, 112] rfl ?_
              exact midR () rfl rfl
            | false =>
              refine (run0 (z := 0) 3 [0, 4, 5, 7, 8, 11, 13, 112] [(0, .slice (some ⟨sb, so, none⟩) s.l.length s.c), (4, .bool false), (5, .pointer (some ⟨b, 0, none⟩)), (7, .int .i64 kk), (8, .int .i64 (v : Int)), (11, .pointer (some ⟨b1, 0, none⟩)), (13, .pointer (some ⟨b2, 0, none⟩)), (112, .bool false)] (fun _ => by kernel_rfl) (endR ?_) : RT _ _ _ _ _ _ 3 _)
              refine PT.keep (L' := [(0, .slice (some ⟨sb, so, none⟩) s.l.length s.c), (4, .bool false), (5, .pointer (some ⟨b, 0, none⟩)), (7, .int .i64 kk), (8, .int .i64 (v : Int)), (11, .pointer (some ⟨b1, 0, none⟩)), (13, .pointer (some ⟨b2, 0, none⟩)), (112, .bool (false || false))]) [0, 4, 5, 7, 8, 11, 13, 112] rfl ?_
              exact midR () rfl rfl
          refine (run0 (z := 9) 1 [0, 4, 5, 7, 8, 11, 13, 113] [(0, .slice (some ⟨sb, so, none⟩) s.l.length s.c), (4, .bool false), (5, .pointer (some ⟨b, 0, none⟩)), (7, .int .i64 kk), (8, .int .i64 (v : Int)), (11, .pointer (some ⟨b1, 0, none⟩)), (13, .pointer (some ⟨b2, 0, none⟩)), (113, .bool ((y != (IntKind.i64.wrap y)) || false))] (fun _ => by kernel_rfl) ?_ : RT _ _ _ _ _ _ 10 _)
          refine (segR (ι := Unit) (z := 5) 4 (fun _ => [(0, .slice (some ⟨sb, so, none⟩) s.l.length s.c), (4, .bool false), (5, .pointer (some ⟨b, 0, none⟩)), (7, .int .i64 kk), (8, .int .i64 (v : Int)), (117, .bool (((y != (IntKind.i64.wrap y)) || false) || (!entEq ((minE ys).1.1, (minE ys).1.2) (La, Lb))))]) (fun _ => (blk b2 31 [.int .i64 La, .int .i64 Lb] :: blk b1 31 [.int .i64 ((minE ys).1.1), .int .i64 ((minE ys).1.2)] :: idxS b 9 ys :: H)) ?_ (fun _ => ?_) : RT _ _ _ _ _ _ 9 _)
          · cases hg16 : ((y != (IntKind.i64.wrap y)) || false) with
            | true =>
              refine (run0 (z := 0) 4 [0, 4, 5, 7, 8, 117] [(0, .slice (some ⟨sb, so, none⟩) s.l.length s.c), (4, .bool false), (5, .pointer (some ⟨b, 0, none⟩)), (7, .int .i64 kk), (8, .int .i64 (v : Int)), (117, .bool true)] (fun _ => by kernel_rfl) (endR ?_) : RT _ _ _ _ _ _ 4 _)
              refine PT.keep (L' := [(0, .slice (some ⟨sb, so, none⟩) s.l.length s.c), (4, .bool false), (5, .pointer (some ⟨b, 0, none⟩)), (7, .int .i64 kk), (8, .int .i64 (v : Int)), (117, .bool (true || (!entEq ((minE ys).1.1, (minE ys).1.2) (La, Lb))))]) [0, 4, 5, 7, 8, 117] rfl ?_
              exact midR () rfl rfl
            | false =>
              refine (runR (H := (blk b2 31 [.int .i64 La, .int .i64 Lb] :: blk b1 31 [.int .i64 ((minE ys).1.1), .int .i64 ((minE ys).1.2)] :: idxS b 9 ys :: H)) (z := 2) 2 [0, 4, 5, 7, 8, 113, 114, 115] [(0, .slice (some ⟨sb, so, none⟩) s.l.length s.c), (4, .bool false), (5, .pointer (some ⟨b, 0, none⟩)), (7, .int .i64 kk), (8, .int .i64 (v : Int)), (113, .bool false), (114, .agg #[.int .i64 ((minE ys).1.1), .int .i64 ((minE ys).1.2)]), (115, .agg #[.int .i64 La, .int .i64 Lb])] [(⟨b1, 0, none⟩, .int .i64 ((minE ys).1.1)), (⟨b1, 1, none⟩, .int .i64 ((minE ys).1.2)), (⟨b2, 0, none⟩, .int .i64 La), (⟨b2, 1, none⟩, .int .i64 Lb)] (hasC (blkAt (T := 31) (cs := [.int .i64 ((minE ys).1.1), .int .i64 ((minE ys).1.2)]) 1 rfl rfl) (hasC (blkAt (T := 31) (cs := [.int .i64 ((minE ys).1.1), .int .i64 ((minE ys).1.2)]) 1 rfl rfl) (hasC (blkAt (T := 31) (cs := [.int .i64 La, .int .i64 Lb]) 0 rfl rfl) (hasC (blkAt (T := 31) (cs := [.int .i64 La, .int .i64 Lb]) 0 rfl rfl) has0)))) (fun _ => by kernel_rfl) ?_ : RT _ _ _ _ _ _ 4 _)
              refine (stepR (z := 1) (yldS (binY .neq 31 31 (.tmp 114) (.tmp 115) (.agg #[.int .i64 ((minE ys).1.1), .int .i64 ((minE ys).1.2)]) (.agg #[.int .i64 La, .int .i64 Lb]) (.bool (!entEq ((minE ys).1.1, (minE ys).1.2) (La, Lb))) (some 116) (fun _ => by kernel_rfl) (by kernel_rfl) (by kernel_rfl) (fun _ => by kernel_rfl) (fun _ => by kernel_rfl) (ent_neq ((minE ys).1.1, (minE ys).1.2) (La, Lb) _ _))) (fun _ => ?_) : RT _ _ _ _ _ _ 2 _)
              refine (run0 (z := 0) 1 [0, 4, 5, 7, 8, 117] [(0, .slice (some ⟨sb, so, none⟩) s.l.length s.c), (4, .bool false), (5, .pointer (some ⟨b, 0, none⟩)), (7, .int .i64 kk), (8, .int .i64 (v : Int)), (117, .bool (!entEq ((minE ys).1.1, (minE ys).1.2) (La, Lb)))] (fun _ => by kernel_rfl) (endR ?_) : RT _ _ _ _ _ _ 1 _)
              refine PT.keep (L' := [(0, .slice (some ⟨sb, so, none⟩) s.l.length s.c), (4, .bool false), (5, .pointer (some ⟨b, 0, none⟩)), (7, .int .i64 kk), (8, .int .i64 (v : Int)), (117, .bool (false || (!entEq ((minE ys).1.1, (minE ys).1.2) (La, Lb))))]) [0, 4, 5, 7, 8, 117] rfl ?_
              exact midR () rfl rfl
          refine (run0 (z := 4) 1 [0, 4, 5, 7, 8, 118] [(0, .slice (some ⟨sb, so, none⟩) s.l.length s.c), (4, .bool false), (5, .pointer (some ⟨b, 0, none⟩)), (7, .int .i64 kk), (8, .int .i64 (v : Int)), (118, .bool (((y != (IntKind.i64.wrap y)) || false) || (!entEq ((minE ys).1.1, (minE ys).1.2) (La, Lb))))] (fun _ => by kernel_rfl) ?_ : RT _ _ _ _ _ _ 5 _)
          rw [show (((y != (IntKind.i64.wrap y)) || false) || (!entEq ((minE ys).1.1, (minE ys).1.2) (La, Lb))) = false by rw [hmin, show IntKind.i64.wrap y = y by rw [IntKind.wrap_i64]; omega]; simp [entEq]]
          refine (run0 (z := 3) 1 [0, 4, 5, 7, 8, 118, 119] [(0, .slice (some ⟨sb, so, none⟩) s.l.length s.c), (4, .bool false), (5, .pointer (some ⟨b, 0, none⟩)), (7, .int .i64 kk), (8, .int .i64 (v : Int)), (118, .bool false), (119, .pointer (some ⟨b, 0, none⟩))] (fun _ => by kernel_rfl) ?_ : RT _ _ _ _ _ _ 4 _)
          refine (stepR (z := 2) (callS 12 [.pointer (some ⟨b, 0, none⟩)] (some 120) (fun _ => .int .i64 (ys.length : Int)) (fun _ => (blk b2 31 [.int .i64 La, .int .i64 Lb] :: blk b1 31 [.int .i64 ((minE ys).1.1), .int .i64 ((minE ys).1.2)] :: idxS b 9 ys :: H)) (fun _ => by kernel_rfl) (same_at 2 rfl (len_idx _ b 9 ys))) (fun _ => ?_) : RT _ _ _ _ _ _ 3 _)
          rw [show (ys.length : Int) = 8 by rw [hyl]; rfl]
          refine (run0 (z := 0) 2 [0, 4, 5, 7, 8, 122] [(0, .slice (some ⟨sb, so, none⟩) s.l.length s.c), (4, .bool false), (5, .pointer (some ⟨b, 0, none⟩)), (7, .int .i64 kk), (8, .int .i64 (v : Int)), (122, .bool false)] (fun _ => by kernel_rfl) (endR ?_) : RT _ _ _ _ _ _ 2 _)
          refine condR (b := false) (by kernel_rfl) (fun _ => by kernel_rfl) (fun h => by cases h) (fun _ => ?_)
          refine skipR (by kernel_rfl) ?_
          refine regionR 3 (by kernel_rfl) (by kernel_rfl) ?_
          refine (run0 (z := 0) 3 [0, 4, 5, 7, 8] [(0, .slice (some ⟨sb, so, none⟩) s.l.length s.c), (4, .bool false), (5, .pointer (some ⟨b, 0, none⟩)), (7, .int .i64 kk), (8, .int .i64 (IntKind.i64.wrap ((v : Int) + 1)))] (fun _ => by kernel_rfl) (endR ?_) : RT _ _ _ _ _ _ 3 _)
          try rw [← hA]
          rw [show IntKind.i64.wrap ((v : Int) + 1) = ((v + 1 : Nat) : Int) by rw [IntKind.wrap_i64]; omega]
          refine PT.drop ?_
          refine PT.drop ?_
          refine PT.keep (L' := [(0, .slice s.a s.l.length s.c), (4, .bool false), (5, .pointer (some ⟨b, 0, none⟩)), (7, .int .i64 kk), (8, .int .i64 ((v + 1 : Nat) : Int))]) [0, 4, 5, 7, 8] rfl ?_
          exact againG (k2 - 1) (ys, y, v + 1) rfl rfl (by omega) ⟨by simp only; omega, hR2⟩
      · skip
        refine exitR 2 (by kernel_rfl) (by kernel_rfl) ?_
        refine thenX ?_
        refine thenX ?_
        refine leaveR ?_
        refine seqR (by kernel_rfl) ?_
        refine regionR 1 (by kernel_rfl) (by kernel_rfl) ?_
        refine (run0 (z := 0) 1 [4] [(4, .bool true)] (fun _ => by kernel_rfl) (endR ?_) : RT _ _ _ _ _ _ 1 _)
        refine retR (by kernel_rfl) ?_
        refine done0 (.bool true) (fun _ => by kernel_rfl) (fun w hs => ?_) .ret (.inr rfl)
        exact ⟨(), rfl, hs.tail⟩
theorem rekeys_row (W : World) (ao : Option Addr) (c : Nat) (l : List Int) (f : Int) (hrd : Rd (kE .u16) W (.slice ao l.length c) l) (hl : ∀ x ∈ l, (Lit.int .u16 x).wf = true) (hf : (Lit.int .u8 f).wf = true) : Calls Try.prog 6 #[.slice ao l.length c, .int .u8 f] W (LawPost W) :=
  lawPost (fun _ _ h => h) (rekeys_walk [old W] ⟨ao, c, l⟩ f (KR.old hrd 0 rfl) (fun x hx => u16_wf (hl x hx)) (u8_wf hf) W (Sat.start W))
end Go.Proofs.Ytpojhpmhcjiidaa
