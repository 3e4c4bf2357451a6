/- PassqRoom: its walk. Conditions: none. -/
import Derived.Test.YtpojhpmhcjiidaaPq6
import Derived.Test.YtpojhpmhcjiidaaOpq
set_option linter.unusedVariables false
set_option linter.unusedSimpArgs false
namespace Go.Proofs.Ytpojhpmhcjiidaa
open Go.RowKit G
theorem mem_insE {e : Int × Int} : ∀ {l : List (Int × Int)} {x : Int × Int}, x ∈ insE e l ↔ x = e ∨ x ∈ l
  | [], x => by simp [insE]
  | y :: r, x => by
    unfold insE
    split
    · rw [List.mem_cons, mem_insE, List.mem_cons]
      constructor
      · rintro (h | h | h)
        · exact .inr (.inl h)
        · exact .inl h
        · exact .inr (.inr h)
      · rintro (h | h | h)
        · exact .inr (.inl h)
        · exact .inl h
        · exact .inr (.inr h)
    · simp
theorem insE_len (e : Int × Int) : ∀ (l : List (Int × Int)), (insE e l).length = l.length + 1
  | [] => rfl
  | y :: r => by
    unfold insE
    split
    · simp [insE_len e r]
    · simp
theorem SrtE.ins {e : Int × Int} : ∀ {l : List (Int × Int)}, SrtE l → (∀ x ∈ l, x ≠ e) → SrtE (insE e l)
  | [], _, _ => by simp [insE, SrtE]
  | y :: r, h, hn => by
    have h' := List.pairwise_cons.1 h
    unfold insE
    split
    · rename_i hlt
      refine List.pairwise_cons.2 ⟨fun z hz => ?_, SrtE.ins (l := r) h'.2 (fun x hx => hn x (by simp [hx]))⟩
      rcases mem_insE.1 hz with rfl | hz
      · exact hlt
      · exact h'.1 z hz
    · rename_i hlt
      have hey : eLt e y := by
        rcases eLt_total hlt with h | h
        · exact absurd h (hn y (by simp))
        · exact h
      refine List.pairwise_cons.2 ⟨fun z hz => ?_, h⟩
      rcases List.mem_cons.1 hz with rfl | hz
      · exact hey
      · exact eLt_trans hey (h'.1 z hz)
theorem findI_no {l : List (Int × Int)} {id : Int} (h : ∀ e ∈ l, e.2 ≠ id) : ¬ findI l id ≥ 0 := by rw [find_none h]; decide
theorem findI_yes {l : List (Int × Int)} {id : Int} {e : Int × Int} (he : e ∈ l) (h : e.2 = id) : findI l id ≥ 0 := by
  rcases findI_cases l id with ⟨_, hn⟩ | ⟨i, _, hi, _⟩
  · exact absurd h (hn e he)
  · omega
/-- An entry is put. -/
theorem putE_ok {room : Int} {l : List (Int × Int)} {p id : Int} (hp : 0 ≤ p ∧ p ≤ 1099511627776) (hid : 0 ≤ id) (hn : ∀ e ∈ l, e.2 ≠ id) (hr : (l.length : Int) < room) : putE room l p id = (0, insE (p, id) l) := by
  have h1 : isPassB p = true := by simp only [isPassB, Bool.and_eq_true, decide_eq_true_eq]; omega
  rw [putE, if_neg (by rw [h1]; simp; omega), if_neg (findI_no hn), if_neg (by omega)]
theorem putE_full {room : Int} {l : List (Int × Int)} {p id : Int} (hp : 0 ≤ p ∧ p ≤ 1099511627776) (hid : 0 ≤ id) (hn : ∀ e ∈ l, e.2 ≠ id) (hr : room ≤ (l.length : Int)) : putE room l p id = (14, l) := by
  have h1 : isPassB p = true := by simp only [isPassB, Bool.and_eq_true, decide_eq_true_eq]; omega
  rw [putE, if_neg (by rw [h1]; simp; omega), if_neg (findI_no hn), if_pos (by omega)]
theorem putE_clash {room : Int} {l : List (Int × Int)} {p id : Int} {e : Int × Int} (hp : 0 ≤ p ∧ p ≤ 1099511627776) (hid : 0 ≤ id) (he : e ∈ l) (h : e.2 = id) : putE room l p id = (20, l) := by
  have h1 : isPassB p = true := by simp only [isPassB, Bool.and_eq_true, decide_eq_true_eq]; omega
  rw [putE, if_neg (by rw [h1]; simp; omega), if_pos (findI_yes he h)]
theorem dropE_yes {l : List (Int × Int)} {id : Int} {e : Int × Int} (he : e ∈ l) (h : e.2 = id) : (dropE l id).1 = 0 ∧ (dropE l id).2.length + 1 = l.length ∧ ∀ x ∈ (dropE l id).2, x ∈ l := by
  have hf := findI_yes he h
  rcases findI_cases l id with ⟨hi, _⟩ | ⟨i, e', hi, he', _⟩
  · omega
  · have hil := (List.getElem?_eq_some_iff.1 he').1
    rw [dropE, if_neg (by omega), hi, Int.toNat_natCast]
    refine ⟨rfl, ?_, fun x hx => ?_⟩
    · simp only [List.length_append, List.length_take, List.length_drop]; omega
    · rcases List.mem_append.1 hx with hx | hx
      · exact List.mem_of_mem_take hx
      · exact List.mem_of_mem_drop hx
def lk : Nat → List (Int × Int) | 0 => [] | m + 1 => (70 - (m : Int), (m : Int)) :: lk m
theorem lk_mem {x : Int × Int} : ∀ {m : Nat}, x ∈ lk m ↔ ∃ i : Nat, i < m ∧ x = (70 - (i : Int), (i : Int))
  | 0 => by simp [lk]
  | m + 1 => by
    rw [lk, List.mem_cons, lk_mem]
    constructor
    · rintro (h | ⟨i, hi, h⟩)
      · exact ⟨m, by omega, h⟩
      · exact ⟨i, by omega, h⟩
    · rintro ⟨i, hi, h⟩
      by_cases c : i = m
      · subst c; exact .inl h
      · exact .inr ⟨i, by omega, h⟩
theorem lk_len : ∀ m, (lk m).length = m | 0 => rfl | m + 1 => by rw [lk, List.length_cons, lk_len m]
theorem lk_srt : ∀ m, SrtE (lk m)
  | 0 => List.Pairwise.nil
  | m + 1 => List.pairwise_cons.2 ⟨fun z hz => by obtain ⟨i, hi, rfl⟩ := lk_mem.1 hz; left; simp only; omega, lk_srt m⟩
theorem lk_ins : ∀ m : Nat, insE (70 - (m : Int), (m : Int)) (lk m) = lk (m + 1)
  | 0 => rfl
  | m + 1 => by
    rw [lk, insE, if_neg (by unfold eLt; simp only; omega)]; rfl
set_option maxHeartbeats 1000000 in
set_option maxRecDepth 100000 in
theorem room_walk (H : List SP) (room n : Int) (hn : 0 ≤ n ∧ n < 256) : ∀ w, Sat w H → Calls Try.prog 5 #[.int .i64 room, .int .u8 n] w (Ret (ι := {H' : List SP // ∀ w, Sat w H' → Sat w H}) (fun _ => .bool true) fun p => p.1) := by
  obtain ⟨K, hK⟩ : ∃ K : Nat, (K : Int) = roomOf room := ⟨(roomOf room).toNat, by unfold roomOf mnI mxI; (repeat' split) <;> omega⟩
  have hK64 : K ≤ 64 := by unfold roomOf mnI mxI at hK; (repeat' split at hK) <;> omega
  have hK2 : mxI 0 (mnI room 64) = (K : Int) := by rw [hK]; unfold roomOf mnI mxI; (repeat' split) <;> omega
  refine enterG (fn := Try.f5) 79 [.int .i64 room, .int .u8 n] Try.func5 (by kernel_rfl) (by kernel_rfl) (by kernel_rfl) ?_
  refine seqR (by kernel_rfl) ?_
  refine regionR 1 (by kernel_rfl) (by kernel_rfl) ?_
  refine (run0 (z := 0) 1 [0, 1, 4] [(0, .int .i64 room), (1, .int .u8 n), (4, .bool false)] (fun _ => by kernel_rfl) (endR ?_) : RT _ _ _ _ _ _ 1 _)
  refine seqR (by kernel_rfl) ?_
  refine seqR (by kernel_rfl) ?_
  refine regionR 2 (by kernel_rfl) (by kernel_rfl) ?_
  refine (stepR (z := 1) (callS 7 [] (some 10) (fun _ => .bool true) (fun (_ : Unit) => (H)) (fun _ => by kernel_rfl) (known_true _)) (fun _ => ?_) : RT _ _ _ _ _ _ 2 _)
  refine (run0 (z := 0) 1 [0, 1, 4, 11] [(0, .int .i64 room), (1, .int .u8 n), (4, .bool false), (11, .bool false)] (fun _ => by kernel_rfl) (endR ?_) : RT _ _ _ _ _ _ 1 _)
  refine condR (b := false) (by kernel_rfl) (fun _ => by kernel_rfl) (fun h => by cases h) (fun _ => ?_)
  refine skipR (by kernel_rfl) ?_
  refine seqR (by kernel_rfl) ?_
  refine regionR 3 (by kernel_rfl) (by kernel_rfl) ?_
  refine (run0 (z := 2) 1 [0, 1, 4, 12] [(0, .int .i64 room), (1, .int .u8 n), (4, .bool false), (12, .int .i64 room)] (fun _ => by kernel_rfl) ?_ : RT _ _ _ _ _ _ 3 _)
  refine (stepR (z := 1) (callS 8 [.int .i64 room] (some 13) (fun (b : Nat) => .pointer (some ⟨b, 0, none⟩)) (fun (b : Nat) => idxS b (roomOf room) ([] : List (Int × Int)) :: H) (fun _ => by kernel_rfl) (new_walk _ room)) (fun (b : Nat) => ?_) : RT _ _ _ _ _ _ 2 _)
  refine (run0 (z := 0) 1 [0, 1, 4, 5] [(0, .int .i64 room), (1, .int .u8 n), (4, .bool false), (5, .pointer (some ⟨b, 0, none⟩))] (fun _ => by kernel_rfl) (endR ?_) : RT _ _ _ _ _ _ 1 _)
  refine seqR (by kernel_rfl) ?_
  refine regionR 4 (by kernel_rfl) (by kernel_rfl) ?_
  refine (run0 (z := 0) 4 [1, 4, 5, 6] [(1, .int .u8 n), (4, .bool false), (5, .pointer (some ⟨b, 0, none⟩)), (6, .int .i64 (mxI 0 (mnI room 64)))] (fun _ => by kernel_rfl) (endR ?_) : RT _ _ _ _ _ _ 4 _)
  refine seqR (by kernel_rfl) ?_
  refine seqR (by kernel_rfl) ?_
  refine regionR 1 (by kernel_rfl) (by kernel_rfl) ?_
  refine (run0 (z := 0) 1 [1, 4, 5, 6, 7] [(1, .int .u8 n), (4, .bool false), (5, .pointer (some ⟨b, 0, none⟩)), (6, .int .i64 (mxI 0 (mnI room 64))), (7, .int .i64 0)] (fun _ => by kernel_rfl) (endR ?_) : RT _ _ _ _ _ _ 1 _)
  refine blockR 0 (by kernel_rfl) (by kernel_rfl) ?_
  rw [← hK, hK2]
  refine PT.keep (L' := [(1, .int .u8 n), (4, .bool false), (5, .pointer (some ⟨b, 0, none⟩)), (6, .int .i64 (K : Int)), (7, .int .i64 0)]) [1, 4, 5, 6, 7] rfl ?_
  refine loopG (fun (x : List (Int × Int) × Nat) => [(1, .int .u8 n), (4, .bool false), (5, .pointer (some ⟨b, 0, none⟩)), (6, .int .i64 (K : Int)), (7, .int .i64 (x.2 : Int))]) (fun (x : List (Int × Int) × Nat) => (idxS b (K : Int) x.1 :: H)) (fun k (x : List (Int × Int) × Nat) => k + x.2 = 70 ∧ x.1 = lk (min x.2 K)) 70 ([], 0) (by kernel_rfl) ⟨by simp, by simp [lk]⟩ ?_
  rintro k ⟨xs, u⟩ ⟨hku, hxs⟩
  dsimp only at hku hxs ⊢
  refine seqR (by kernel_rfl) ?_
  refine seqR (by kernel_rfl) ?_
  refine regionR 2 (by kernel_rfl) (by kernel_rfl) ?_
  refine (run0 (z := 0) 2 [1, 4, 5, 6, 7, 18] [(1, .int .u8 n), (4, .bool false), (5, .pointer (some ⟨b, 0, none⟩)), (6, .int .i64 (K : Int)), (7, .int .i64 (u : Int)), (18, .bool (decide ((u : Int) < 70)))] (fun _ => by kernel_rfl) (endR ?_) : RT _ _ _ _ _ _ 2 _)
  refine condR (b := decide ((u : Int) < 70)) (by kernel_rfl) (fun _ => by kernel_rfl) (fun h1 => ?_) (fun h1 => ?_)
  · skip
    have hu : u < 70 := by have := of_decide_eq_true h1; omega
    refine skipR (by kernel_rfl) ?_
    refine seqR (by kernel_rfl) ?_
    refine blockR 1 (by kernel_rfl) (by kernel_rfl) ?_
    refine seqR (by kernel_rfl) ?_
    refine regionR 6 (by kernel_rfl) (by kernel_rfl) ?_
    refine (run0 (z := 2) 4 [1, 4, 5, 6, 7, 21, 23, 24] [(1, .int .u8 n), (4, .bool false), (5, .pointer (some ⟨b, 0, none⟩)), (6, .int .i64 (K : Int)), (7, .int .i64 (u : Int)), (21, .pointer (some ⟨b, 0, none⟩)), (23, .int .i64 (IntKind.i64.wrap (70 - (u : Int)))), (24, .int .i64 (u : Int))] (fun _ => by kernel_rfl) ?_ : RT _ _ _ _ _ _ 6 _)
    rw [show IntKind.i64.wrap (70 - (u : Int)) = (70 - (u : Int)) by rw [IntKind.wrap_i64]; omega]
    rcases Nat.lt_or_ge u K with hc | hc
    · skip
      have hx2 : xs = lk u := by rw [hxs, Nat.min_eq_left (by omega)]
      subst hx2
      refine (stepR (z := 1) (callS 9 [.pointer (some ⟨b, 0, none⟩), .int .i64 (70 - (u : Int)), .int .i64 (u : Int)] (some 25) (fun _ => .nilIface) (fun _ => (idxS b (K : Int) (lk (u + 1)) :: H)) (fun _ => by kernel_rfl) (put_ok (l' := lk (u + 1)) (by rw [putE_ok (by omega) (by omega) (fun e he => by obtain ⟨i, hi, rfl⟩ := lk_mem.1 he; simp only; omega) (by rw [lk_len]; omega), lk_ins]) (lk_srt u) (by rw [lk_len]; omega) _ b)) (fun _ => ?_) : RT _ _ _ _ _ _ 2 _)
      refine (run0 (z := 0) 1 [1, 4, 5, 6, 7, 8] [(1, .int .u8 n), (4, .bool false), (5, .pointer (some ⟨b, 0, none⟩)), (6, .int .i64 (K : Int)), (7, .int .i64 (u : Int)), (8, .nilIface)] (fun _ => by kernel_rfl) (endR ?_) : RT _ _ _ _ _ _ 1 _)
      refine seqR (by kernel_rfl) ?_
      refine regionR 16 (by kernel_rfl) (by kernel_rfl) ?_
      refine (run0 (z := 9) 7 [1, 4, 5, 6, 7, 8, 32] [(1, .int .u8 n), (4, .bool false), (5, .pointer (some ⟨b, 0, none⟩)), (6, .int .i64 (K : Int)), (7, .int .i64 (u : Int)), (8, .nilIface), (32, .bool (true != (decide ((u : Int) < (K : Int)))))] (fun _ => by kernel_rfl) ?_ : RT _ _ _ _ _ _ 16 _)
      refine (segR (ι := Unit) (z := 0) 9 (fun _ => [(1, .int .u8 n), (4, .bool false), (5, .pointer (some ⟨b, 0, none⟩)), (6, .int .i64 (K : Int)), (7, .int .i64 (u : Int)), (41, .bool ((true != (decide ((u : Int) < (K : Int)))) || false))]) (fun _ => (idxS b (K : Int) (lk (u + 1)) :: H)) ?_ (fun _ => ?_) : RT _ _ _ _ _ _ 9 _)
      · cases hg7 : (true != (decide ((u : Int) < (K : Int)))) with
        | true =>
          refine (run0 (z := 0) 9 [1, 4, 5, 6, 7, 41] [(1, .int .u8 n), (4, .bool false), (5, .pointer (some ⟨b, 0, none⟩)), (6, .int .i64 (K : Int)), (7, .int .i64 (u : Int)), (41, .bool true)] (fun _ => by kernel_rfl) (endR ?_) : RT _ _ _ _ _ _ 9 _)
          refine PT.keep (L' := [(1, .int .u8 n), (4, .bool false), (5, .pointer (some ⟨b, 0, none⟩)), (6, .int .i64 (K : Int)), (7, .int .i64 (u : Int)), (41, .bool (true || false))]) [1, 4, 5, 6, 7, 41] rfl ?_
          exact midR () rfl rfl
        | false =>
          refine (run0 (z := 0) 9 [1, 4, 5, 6, 7, 41] [(1, .int .u8 n), (4, .bool false), (5, .pointer (some ⟨b, 0, none⟩)), (6, .int .i64 (K : Int)), (7, .int .i64 (u : Int)), (41, .bool false)] (fun _ => by kernel_rfl) (endR ?_) : RT _ _ _ _ _ _ 9 _)
          refine PT.keep (L' := [(1, .int .u8 n), (4, .bool false), (5, .pointer (some ⟨b, 0, none⟩)), (6, .int .i64 (K : Int)), (7, .int .i64 (u : Int)), (41, .bool (false || false))]) [1, 4, 5, 6, 7, 41] rfl ?_
          exact midR () rfl rfl
      refine endR ?_
      rw [show ((true != (decide ((u : Int) < (K : Int)))) || false) = false by rw [decide_eq_true (by omega)]; rfl]
      refine condR (b := false) (by kernel_rfl) (fun _ => by kernel_rfl) (fun h => by cases h) (fun _ => ?_)
      refine skipR (by kernel_rfl) ?_
      refine regionR 3 (by kernel_rfl) (by kernel_rfl) ?_
      refine (run0 (z := 0) 3 [1, 4, 5, 6, 7] [(1, .int .u8 n), (4, .bool false), (5, .pointer (some ⟨b, 0, none⟩)), (6, .int .i64 (K : Int)), (7, .int .i64 (IntKind.i64.wrap ((u : Int) + 1)))] (fun _ => by kernel_rfl) (endR ?_) : RT _ _ _ _ _ _ 3 _)
      rw [show IntKind.i64.wrap ((u : Int) + 1) = ((u + 1 : Nat) : Int) by rw [IntKind.wrap_i64]; omega]
      refine PT.keep (L' := [(1, .int .u8 n), (4, .bool false), (5, .pointer (some ⟨b, 0, none⟩)), (6, .int .i64 (K : Int)), (7, .int .i64 ((u + 1 : Nat) : Int))]) [1, 4, 5, 6, 7] rfl ?_
      exact againG (k - 1) (lk (u + 1), u + 1) rfl rfl (by omega) ⟨by simp only; omega, by simp only; rw [Nat.min_eq_left (by omega)]⟩
    · skip
      have hx2 : xs = lk K := by rw [hxs, Nat.min_eq_right (by omega)]
      subst hx2
      refine (stepR (z := 1) (callS 9 [.pointer (some ⟨b, 0, none⟩), .int .i64 (70 - (u : Int)), .int .i64 (u : Int)] (some 25) (fun _ => .iface 42 (.int .i64 14)) (fun _ => (idxS b (K : Int) (lk K) :: H)) (fun _ => by kernel_rfl) (put_no (e := 14) (putE_full (by omega) (by omega) (fun e he => by obtain ⟨i, hi, rfl⟩ := lk_mem.1 he; simp only; omega) (by rw [lk_len]; omega)) (by decide) (lk_srt K) (by rw [lk_len]; omega) _ b)) (fun _ => ?_) : RT _ _ _ _ _ _ 2 _)
      refine (run0 (z := 0) 1 [1, 4, 5, 6, 7, 8] [(1, .int .u8 n), (4, .bool false), (5, .pointer (some ⟨b, 0, none⟩)), (6, .int .i64 (K : Int)), (7, .int .i64 (u : Int)), (8, .iface 42 (.int .i64 14))] (fun _ => by kernel_rfl) (endR ?_) : RT _ _ _ _ _ _ 1 _)
      refine seqR (by kernel_rfl) ?_
      refine regionR 16 (by kernel_rfl) (by kernel_rfl) ?_
      refine (run0 (z := 9) 7 [1, 4, 5, 6, 7, 8, 32] [(1, .int .u8 n), (4, .bool false), (5, .pointer (some ⟨b, 0, none⟩)), (6, .int .i64 (K : Int)), (7, .int .i64 (u : Int)), (8, .iface 42 (.int .i64 14)), (32, .bool (false != (decide ((u : Int) < (K : Int)))))] (fun _ => by kernel_rfl) ?_ : RT _ _ _ _ _ _ 16 _)
      refine (segR (ι := Unit) (z := 0) 9 (fun _ => [(1, .int .u8 n), (4, .bool false), (5, .pointer (some ⟨b, 0, none⟩)), (6, .int .i64 (K : Int)), (7, .int .i64 (u : Int)), (41, .bool ((false != (decide ((u : Int) < (K : Int)))) || false))]) (fun _ => (idxS b (K : Int) (lk K) :: H)) ?_ (fun _ => ?_) : RT _ _ _ _ _ _ 9 _)
      · cases hg7 : (false != (decide ((u : Int) < (K : Int)))) with
        | true =>
          refine (run0 (z := 0) 9 [1, 4, 5, 6, 7, 41] [(1, .int .u8 n), (4, .bool false), (5, .pointer (some ⟨b, 0, none⟩)), (6, .int .i64 (K : Int)), (7, .int .i64 (u : Int)), (41, .bool true)] (fun _ => by kernel_rfl) (endR ?_) : RT _ _ _ _ _ _ 9 _)
          refine PT.keep (L' := [(1, .int .u8 n), (4, .bool false), (5, .pointer (some ⟨b, 0, none⟩)), (6, .int .i64 (K : Int)), (7, .int .i64 (u : Int)), (41, .bool (true || false))]) [1, 4, 5, 6, 7, 41] rfl ?_
          exact midR () rfl rfl
        | false =>
          refine (run0 (z := 4) 5 [1, 4, 5, 6, 7, 32, 35, 36, 37] [(1, .int .u8 n), (4, .bool false), (5, .pointer (some ⟨b, 0, none⟩)), (6, .int .i64 (K : Int)), (7, .int .i64 (u : Int)), (32, .bool false), (35, .bool true), (36, .iface 42 (.int .i64 14)), (37, .iface 42 (.int .i64 14))] (fun _ => by kernel_rfl) ?_ : RT _ _ _ _ _ _ 9 _)
          refine (stepR (z := 3) (callS 15 [.iface 42 (.int .i64 14), .iface 42 (.int .i64 14)] (some 38) (fun _ => .bool (14 == 14)) (fun (_ : Unit) => (idxS b (K : Int) (lk K) :: H)) (fun _ => by kernel_rfl) (isErr_walk _ 14 14)) (fun _ => ?_) : RT _ _ _ _ _ _ 4 _)
          refine (run0 (z := 0) 3 [1, 4, 5, 6, 7, 41] [(1, .int .u8 n), (4, .bool false), (5, .pointer (some ⟨b, 0, none⟩)), (6, .int .i64 (K : Int)), (7, .int .i64 (u : Int)), (41, .bool false)] (fun _ => by kernel_rfl) (endR ?_) : RT _ _ _ _ _ _ 3 _)
          refine PT.keep (L' := [(1, .int .u8 n), (4, .bool false), (5, .pointer (some ⟨b, 0, none⟩)), (6, .int .i64 (K : Int)), (7, .int .i64 (u : Int)), (41, .bool (false || false))]) [1, 4, 5, 6, 7, 41] rfl ?_
          exact midR () rfl rfl
      refine endR ?_
      rw [show ((false != (decide ((u : Int) < (K : Int)))) || false) = false by rw [decide_eq_false (by omega)]; rfl]
      refine condR (b := false) (by kernel_rfl) (fun _ => by kernel_rfl) (fun h => by cases h) (fun _ => ?_)
      refine skipR (by kernel_rfl) ?_
      refine regionR 3 (by kernel_rfl) (by kernel_rfl) ?_
      refine (run0 (z := 0) 3 [1, 4, 5, 6, 7] [(1, .int .u8 n), (4, .bool false), (5, .pointer (some ⟨b, 0, none⟩)), (6, .int .i64 (K : Int)), (7, .int .i64 (IntKind.i64.wrap ((u : Int) + 1)))] (fun _ => by kernel_rfl) (endR ?_) : RT _ _ _ _ _ _ 3 _)
      rw [show IntKind.i64.wrap ((u : Int) + 1) = ((u + 1 : Nat) : Int) by rw [IntKind.wrap_i64]; omega]
      refine PT.keep (L' := [(1, .int .u8 n), (4, .bool false), (5, .pointer (some ⟨b, 0, none⟩)), (6, .int .i64 (K : Int)), (7, .int .i64 ((u + 1 : Nat) : Int))]) [1, 4, 5, 6, 7] rfl ?_
      exact againG (k - 1) (lk K, u + 1) rfl rfl (by omega) ⟨by simp only; omega, by simp only; rw [Nat.min_eq_right (by omega)]⟩
  · skip
    have hu : u = 70 := by have := of_decide_eq_false h1; omega
    have hx2 : xs = lk K := by rw [hxs, Nat.min_eq_right (by omega)]
    subst hx2
    refine exitR 0 (by kernel_rfl) (by kernel_rfl) ?_
    refine thenX ?_
    refine thenX ?_
    refine leaveR ?_
    refine seqR (by kernel_rfl) ?_
    refine seqR (by kernel_rfl) ?_
    refine regionR 8 (by kernel_rfl) (by kernel_rfl) ?_
    refine (run0 (z := 7) 1 [1, 4, 5, 6, 42] [(1, .int .u8 n), (4, .bool false), (5, .pointer (some ⟨b, 0, none⟩)), (6, .int .i64 (K : Int)), (42, .pointer (some ⟨b, 0, none⟩))] (fun _ => by kernel_rfl) ?_ : RT _ _ _ _ _ _ 8 _)
    refine (stepR (z := 6) (callS 12 [.pointer (some ⟨b, 0, none⟩)] (some 43) (fun _ => .int .i64 ((lk K).length : Int)) (fun _ => (idxS b (K : Int) (lk K) :: H)) (fun _ => by kernel_rfl) (len_idx _ b (K : Int) (lk K))) (fun _ => ?_) : RT _ _ _ _ _ _ 7 _)
    refine (run0 (z := 3) 3 [1, 4, 5, 6, 46] [(1, .int .u8 n), (4, .bool false), (5, .pointer (some ⟨b, 0, none⟩)), (6, .int .i64 (K : Int)), (46, .bool (((lk K).length : Int) != (K : Int)))] (fun _ => by kernel_rfl) ?_ : RT _ _ _ _ _ _ 6 _)
    refine (segR (ι := Unit) (z := 0) 3 (fun _ => [(1, .int .u8 n), (4, .bool false), (5, .pointer (some ⟨b, 0, none⟩)), (6, .int .i64 (K : Int)), (49, .bool ((((lk K).length : Int) != (K : Int)) || ((K : Int) == 0)))]) (fun _ => (idxS b (K : Int) (lk K) :: H)) ?_ (fun _ => ?_) : RT _ _ _ _ _ _ 3 _)
    · cases hg5 : (((lk K).length : Int) != (K : Int)) with
      | true =>
        refine (run0 (z := 0) 3 [1, 4, 5, 6, 49] [(1, .int .u8 n), (4, .bool false), (5, .pointer (some ⟨b, 0, none⟩)), (6, .int .i64 (K : Int)), (49, .bool true)] (fun _ => by kernel_rfl) (endR ?_) : RT _ _ _ _ _ _ 3 _)
        refine PT.keep (L' := [(1, .int .u8 n), (4, .bool false), (5, .pointer (some ⟨b, 0, none⟩)), (6, .int .i64 (K : Int)), (49, .bool (true || ((K : Int) == 0)))]) [1, 4, 5, 6, 49] rfl ?_
        exact midR () rfl rfl
      | false =>
        refine (run0 (z := 0) 3 [1, 4, 5, 6, 49] [(1, .int .u8 n), (4, .bool false), (5, .pointer (some ⟨b, 0, none⟩)), (6, .int .i64 (K : Int)), (49, .bool ((K : Int) == 0))] (fun _ => by kernel_rfl) (endR ?_) : RT _ _ _ _ _ _ 3 _)
        refine PT.keep (L' := [(1, .int .u8 n), (4, .bool false), (5, .pointer (some ⟨b, 0, none⟩)), (6, .int .i64 (K : Int)), (49, .bool (false || ((K : Int) == 0)))]) [1, 4, 5, 6, 49] rfl ?_
        exact midR () rfl rfl
    refine endR ?_
    rw [show (((lk K).length : Int) != (K : Int)) = false by rw [lk_len]; simp]
    rcases Nat.eq_zero_or_pos K with hk0 | hk0
    · rw [show (false || ((K : Int) == 0)) = true by rw [hk0]; rfl]
      refine condR (b := true) (by kernel_rfl) (fun _ => by kernel_rfl) (fun _ => ?_) (fun h => by cases h)
      refine seqR (by kernel_rfl) ?_
      refine regionR 5 (by kernel_rfl) (by kernel_rfl) ?_
      refine (run0 (z := 4) 1 [1, 4, 5, 6, 50] [(1, .int .u8 n), (4, .bool false), (5, .pointer (some ⟨b, 0, none⟩)), (6, .int .i64 (K : Int)), (50, .pointer (some ⟨b, 0, none⟩))] (fun _ => by kernel_rfl) ?_ : RT _ _ _ _ _ _ 5 _)
      refine (stepR (z := 3) (callS 12 [.pointer (some ⟨b, 0, none⟩)] (some 51) (fun _ => .int .i64 ((lk K).length : Int)) (fun _ => (idxS b (K : Int) (lk K) :: H)) (fun _ => by kernel_rfl) (len_idx _ b (K : Int) (lk K))) (fun _ => ?_) : RT _ _ _ _ _ _ 4 _)
      refine (run0 (z := 0) 3 [1, 4, 5, 6] [(1, .int .u8 n), (4, .bool (((lk K).length : Int) == (K : Int))), (5, .pointer (some ⟨b, 0, none⟩)), (6, .int .i64 (K : Int))] (fun _ => by kernel_rfl) (endR ?_) : RT _ _ _ _ _ _ 3 _)
      refine retR (by kernel_rfl) ?_
      refine thenV ?_
      refine done0 (.bool (((lk K).length : Int) == (K : Int))) (fun _ => by kernel_rfl) (fun w hs => ?_) .ret (.inr rfl)
      exact ⟨⟨H, fun _ h => h⟩, by rw [lk_len]; simp, hs.tail⟩
    · rw [show (false || ((K : Int) == 0)) = false by simp; omega]
      refine condR (b := false) (by kernel_rfl) (fun _ => by kernel_rfl) (fun h => by cases h) (fun _ => ?_)
      refine skipR (by kernel_rfl) ?_
      refine seqR (by kernel_rfl) ?_
      refine regionR 5 (by kernel_rfl) (by kernel_rfl) ?_
      refine (run0 (z := 2) 3 [4, 5, 55, 56] [(4, .bool false), (5, .pointer (some ⟨b, 0, none⟩)), (55, .int .i64 (IntKind.i64.wrap n)), (56, .int .i64 (K : Int))] (fun _ => by kernel_rfl) ?_ : RT _ _ _ _ _ _ 5 _)
      rw [show IntKind.i64.wrap n = n by rw [IntKind.wrap_i64]; omega]
      refine (stepR (z := 1) (yldS (binY .rem 3 3 (.tmp 55) (.tmp 56) (.int .i64 n) (.int .i64 (K : Int)) (.int .i64 ((n : Int).tmod (K : Int))) (some 57) (fun _ => by kernel_rfl) (by kernel_rfl) (by kernel_rfl) (fun _ => by kernel_rfl) (fun _ => by kernel_rfl) (remR (t' := 0) (by omega)))) (fun _ => ?_) : RT _ _ _ _ _ _ 2 _)
      obtain ⟨j, hj, hjK⟩ : ∃ j : Nat, n.tmod (K : Int) = (j : Int) ∧ j < K := by
        have e := Int.tmod_eq_emod_of_nonneg (b := (K : Int)) hn.1
        have h1 := Int.emod_nonneg n (show (K : Int) ≠ 0 by omega)
        have h2 := Int.emod_lt_of_pos n (show 0 < (K : Int) by omega)
        exact ⟨(n.tmod (K : Int)).toNat, by omega, by omega⟩
      rw [hj]
      have hmem : (70 - (j : Int), (j : Int)) ∈ lk K := lk_mem.2 ⟨j, hjK, rfl⟩
      obtain ⟨d1, d2, d3⟩ := dropE_yes (id := (j : Int)) hmem rfl
      have s1 := (lk_srt K).drop (j : Int)
      obtain ⟨l1, hl1⟩ : ∃ l1, l1 = (dropE (lk K) (j : Int)).2 := ⟨_, rfl⟩
      have hd : dropE (lk K) (j : Int) = (0, l1) := Prod.ext d1 hl1.symm
      rw [← hl1] at d2 d3 s1
      rw [lk_len] at d2
      have hid : ∀ e ∈ l1, e.2 < 100 := fun e he => by obtain ⟨i, hi, rfl⟩ := lk_mem.1 (d3 e he); simp only; omega
      have s2 : SrtE (insE (5, 100) l1) := s1.ins (fun x hx h => by have := hid x hx; rw [h] at this; simp at this)
      have e2 := insE_len (5, 100) l1
      have hid2 : ∀ e ∈ insE (5, 100) l1, e.2 ≠ 101 := fun e he => by
        rcases mem_insE.1 he with rfl | he
        · simp
        · have := hid e he; omega
      refine (run0 (z := 0) 1 [4, 5, 9] [(4, .bool false), (5, .pointer (some ⟨b, 0, none⟩)), (9, .int .i64 (j : Int))] (fun _ => by kernel_rfl) (endR ?_) : RT _ _ _ _ _ _ 1 _)
      refine seqR (by kernel_rfl) ?_
      refine regionR 22 (by kernel_rfl) (by kernel_rfl) ?_
      refine (run0 (z := 20) 2 [4, 5, 58, 59] [(4, .bool false), (5, .pointer (some ⟨b, 0, none⟩)), (58, .pointer (some ⟨b, 0, none⟩)), (59, .int .i64 (j : Int))] (fun _ => by kernel_rfl) ?_ : RT _ _ _ _ _ _ 22 _)
      refine (stepR (z := 19) (callS 11 [.pointer (some ⟨b, 0, none⟩), .int .i64 (j : Int)] (some 60) (fun _ => .nilIface) (fun _ => (idxS b (K : Int) l1 :: H)) (fun _ => by kernel_rfl) (drop_ok hd (by rw [lk_len]; omega) _ b)) (fun _ => ?_) : RT _ _ _ _ _ _ 20 _)
      refine (run0 (z := 16) 3 [4, 5, 62, 63] [(4, .bool false), (5, .pointer (some ⟨b, 0, none⟩)), (62, .bool true), (63, .pointer (some ⟨b, 0, none⟩))] (fun _ => by kernel_rfl) ?_ : RT _ _ _ _ _ _ 19 _)
      refine (stepR (z := 15) (callS 9 [.pointer (some ⟨b, 0, none⟩), .int .i64 5, .int .i64 100] (some 64) (fun _ => .nilIface) (fun _ => (idxS b (K : Int) (insE (5, 100) l1) :: H)) (fun _ => by kernel_rfl) (put_ok (l' := insE (5, 100) l1) (putE_ok (by omega) (by omega) (fun e he => by have := hid e he; omega) (by omega)) s1 (by omega) _ b)) (fun _ => ?_) : RT _ _ _ _ _ _ 16 _)
      refine (run0 (z := 11) 4 [4, 5, 67, 68] [(4, .bool false), (5, .pointer (some ⟨b, 0, none⟩)), (67, .bool true), (68, .pointer (some ⟨b, 0, none⟩))] (fun _ => by kernel_rfl) ?_ : RT _ _ _ _ _ _ 15 _)
      refine (stepR (z := 10) (callS 9 [.pointer (some ⟨b, 0, none⟩), .int .i64 5, .int .i64 101] (some 69) (fun _ => .iface 42 (.int .i64 14)) (fun _ => (idxS b (K : Int) (insE (5, 100) l1) :: H)) (fun _ => by kernel_rfl) (put_no (e := 14) (putE_full (by omega) (by omega) hid2 (by omega)) (by decide) s2 (by omega) _ b)) (fun _ => ?_) : RT _ _ _ _ _ _ 11 _)
      refine (run0 (z := 9) 1 [69, 4, 5, 67, 70] [(69, .iface 42 (.int .i64 14)), (4, .bool false), (5, .pointer (some ⟨b, 0, none⟩)), (67, .bool true), (70, .iface 42 (.int .i64 14))] (fun _ => by kernel_rfl) ?_ : RT _ _ _ _ _ _ 10 _)
      refine (stepR (z := 8) (callS 15 [.iface 42 (.int .i64 14), .iface 42 (.int .i64 14)] (some 71) (fun _ => .bool (14 == 14)) (fun (_ : Unit) => (idxS b (K : Int) (insE (5, 100) l1) :: H)) (fun _ => by kernel_rfl) (isErr_walk _ 14 14)) (fun _ => ?_) : RT _ _ _ _ _ _ 9 _)
      refine (run0 (z := 5) 3 [4, 73, 74] [(4, .bool false), (73, .bool true), (74, .pointer (some ⟨b, 0, none⟩))] (fun _ => by kernel_rfl) ?_ : RT _ _ _ _ _ _ 8 _)
      refine (stepR (z := 4) (callS 9 [.pointer (some ⟨b, 0, none⟩), .int .i64 5, .int .i64 100] (some 75) (fun _ => .iface 42 (.int .i64 20)) (fun _ => (idxS b (K : Int) (insE (5, 100) l1) :: H)) (fun _ => by kernel_rfl) (put_no (e := 20) (putE_clash (e := (5, 100)) (by omega) (by omega) (mem_insE.2 (.inl rfl)) rfl) (by decide) s2 (by omega) _ b)) (fun _ => ?_) : RT _ _ _ _ _ _ 5 _)
      refine (run0 (z := 3) 1 [75, 4, 73, 76] [(75, .iface 42 (.int .i64 20)), (4, .bool false), (73, .bool true), (76, .iface 42 (.int .i64 20))] (fun _ => by kernel_rfl) ?_ : RT _ _ _ _ _ _ 4 _)
      refine (stepR (z := 2) (callS 15 [.iface 42 (.int .i64 20), .iface 42 (.int .i64 20)] (some 77) (fun _ => .bool (20 == 20)) (fun (_ : Unit) => (idxS b (K : Int) (insE (5, 100) l1) :: H)) (fun _ => by kernel_rfl) (isErr_walk _ 20 20)) (fun _ => ?_) : RT _ _ _ _ _ _ 3 _)
      refine (run0 (z := 0) 2 [4] [(4, .bool true)] (fun _ => by kernel_rfl) (endR ?_) : RT _ _ _ _ _ _ 2 _)
      refine retR (by kernel_rfl) ?_
      refine done0 (.bool true) (fun _ => by kernel_rfl) (fun w hs => ?_) .ret (.inr rfl)
      exact ⟨⟨H, fun _ h => h⟩, rfl, hs.tail⟩
theorem room_row (W : World) (room n : Int) (_ : (Lit.int .i64 room).wf = true) (hn : (Lit.int .u8 n).wf = true) : Calls Try.prog 5 #[.int .i64 room, .int .u8 n] W (LawPost W) :=
  lawPost (fun x => x.2) (room_walk [old W] room n (u8_wf hn) W (Sat.start W))
end Go.Proofs.Ytpojhpmhcjiidaa
