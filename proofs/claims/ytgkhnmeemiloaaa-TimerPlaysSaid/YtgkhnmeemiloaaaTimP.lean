/- The law TimerPlays: its walk. Conditions: none. -/
import Derived.Test.YtgkhnmeemiloaaaTimR3
import Derived.Test.YtgkhnmeemiloaaaTimS
import Derived.Test.YtgkhnmeemiloaaaTimL
set_option linter.unusedVariables false
set_option linter.unusedSimpArgs false
namespace Go.Proofs.Ytgkhnmeemiloaaa
open Go.RowKit

theorem drop_same (id : Int) : ∀ (l : List (Int × Int)), Srt l → tmDrop id l = rtDrop id l ∧ (tmPlace id l).2 = decide ((rtDrop id l).length < l.length)
  | [], _ => ⟨rfl, rfl⟩
  | x :: r, h => by
    have h1 := List.pairwise_cons.1 h
    obtain ⟨e1, e2⟩ := drop_same id r h1.2
    have hlen : (rtDrop id r).length ≤ r.length := List.length_filter_le _ _
    by_cases hlt : id < x.1
    · have hall : rtDrop id (x :: r) = x :: r := by
        unfold rtDrop
        rw [List.filter_eq_self]
        intro y hy
        rcases List.mem_cons.1 hy with rfl | hy
        · simp; omega
        · have := h1.1 y hy; simp; omega
      exact ⟨by rw [tmDrop, if_pos hlt, hall], by rw [tmPlace, if_pos hlt, hall]; simp⟩
    · by_cases he : x.1 = id
      · have hall : rtDrop id (x :: r) = r := by
          unfold rtDrop
          rw [List.filter_cons_of_neg (by simp [he]), List.filter_eq_self]
          intro y hy
          have := h1.1 y hy; simp; omega
        exact ⟨by rw [tmDrop, if_neg hlt, if_pos he, hall], by rw [tmPlace, if_neg hlt, if_pos he, hall]; simp⟩
      · have hall : rtDrop id (x :: r) = x :: rtDrop id r := by
          unfold rtDrop
          rw [List.filter_cons_of_pos (by simp [he])]
        exact ⟨by rw [tmDrop, if_neg hlt, if_neg he, hall, e1], by rw [tmPlace, if_neg hlt, if_neg he, hall]; simp [e2]⟩
theorem set_same (id u : Int) : ∀ (l : List (Int × Int)), Srt l → tmSet id u l = rtSet id u l
  | [], _ => rfl
  | x :: r, h => by
    have h1 := List.pairwise_cons.1 h
    have ih := set_same id u r h1.2
    unfold rtSet at ih ⊢
    by_cases hlt : id < x.1
    · have hall : rtDrop id (x :: r) = x :: r := by
        unfold rtDrop
        rw [List.filter_eq_self]
        intro y hy
        rcases List.mem_cons.1 hy with rfl | hy
        · simp; omega
        · have := h1.1 y hy; simp; omega
      have hd : decide (x.1 < id) = false := by simp; omega
      rw [tmSet, if_pos hlt, hall, List.takeWhile_cons_of_neg (by simp [hd]), List.dropWhile_cons_of_neg (by simp [hd])]
      rfl
    · by_cases he : x.1 = id
      · have hall : rtDrop id (x :: r) = r := by
          unfold rtDrop
          rw [List.filter_cons_of_neg (by simp [he]), List.filter_eq_self]
          intro y hy
          have := h1.1 y hy; simp; omega
        rw [tmSet, if_neg hlt, if_pos he, hall]
        cases r with
        | nil => rfl
        | cons y s =>
          have := h1.1 y (by simp)
          have hd : decide (y.1 < id) = false := by simp; omega
          rw [List.takeWhile_cons_of_neg (by simp [hd]), List.dropWhile_cons_of_neg (by simp [hd])]
          rfl
      · have hall : rtDrop id (x :: r) = x :: rtDrop id r := by
          unfold rtDrop
          rw [List.filter_cons_of_pos (by simp [he])]
        have hd : decide (x.1 < id) = true := by simp; omega
        rw [tmSet, if_neg hlt, if_neg he, hall, List.takeWhile_cons_of_pos (p := fun p : Int × Int => decide (p.1 < id)) hd, List.dropWhile_cons_of_pos (p := fun p : Int × Int => decide (p.1 < id)) hd, ih]
        rfl

/-- Both rows of timers, a block beside them, all newer than w0. -/
def TK2 (w0 w : World) (p q : Value) (l m : List (Int × Int)) (sb : Nat) (cs : List Value) : Prop :=
  ∃ F G, TmAt w F p l ∧ RtAt w G q m ∧ Blk w sb 31 cs ∧ (∀ b, F b → w0.heap.size ≤ b) ∧ (∀ b, G b → w0.heap.size ≤ b) ∧ (∀ b, F b → ¬ G b) ∧ ¬ F sb ∧ ¬ G sb ∧ Upd NoB w0 w
def TK3 (w0 w : World) (p q : Value) (l m : List (Int × Int)) (sb : Nat) (cs : List Value) (v : Value) (r : List Int) : Prop :=
  ∃ F G H, TmAt w F p l ∧ RtAt w G q m ∧ Blk w sb 31 cs ∧ (∀ b, F b → w0.heap.size ≤ b) ∧ (∀ b, G b → w0.heap.size ≤ b) ∧ (∀ b, F b → ¬ G b) ∧ ¬ F sb ∧ ¬ G sb ∧ Upd NoB w0 w ∧ Row intE 3 w H v r ∧ ∀ b, H b → ¬ F b ∧ ¬ G b
section
variable {w0 w : World} {p q : Value} {l m : List (Int × Int)} {sb : Nat} {cs : List Value}
theorem RtAt.lt {F : Nat → Prop} (h : RtAt w F q m) : ∀ b, F b → b < w.heap.size := PsAt.lt h
theorem TK2.upd {w' : World} (h : TK2 w0 w p q l m sb cs) (u : Upd NoB w w') : TK2 w0 w' p q l m sb cs := by
  obtain ⟨F, G, h1, h2, h3, h4, h5, h6, h7, h8, h9⟩ := h
  exact ⟨F, G, h1.upd u (fun _ _ h => h), PsAt.upd h2 u (fun _ _ h => h), h3.upd u (fun h => h), h4, h5, h6, h7, h8, h9.trans u⟩
theorem tk_left {w' : World} {F G : Nat → Prop} {F' : Nat → Prop} {l' : List (Int × Int)} (h1 : TmAt w F p l) (h2 : RtAt w G q m) (h3 : Blk w sb 31 cs) (h4 : ∀ b, F b → w0.heap.size ≤ b) (h5 : ∀ b, G b → w0.heap.size ≤ b) (h6 : ∀ b, F b → ¬ G b) (h7 : ¬ F sb) (h8 : ¬ G sb) (h9 : Upd NoB w0 w)
    (g1 : TmAt w' F' p l') (g2 : Upd F w w') (g3 : ∀ b, F' b → F b ∨ w.heap.size ≤ b) :
    RtAt w' G q m ∧ Blk w' sb 31 cs ∧ (∀ b, F' b → w0.heap.size ≤ b) ∧ (∀ b, F' b → ¬ G b) ∧ ¬ F' sb ∧ Upd NoB w0 w' := by
  refine ⟨PsAt.upd h2 g2 (fun b hg hf => h6 b hf hg), h3.upd g2 h7, fun b hb => (g3 b hb).elim (h4 b) (fun h => Nat.le_trans h9.size h), fun b hf hg => ?_, fun hf => ?_, h9.newer g2 h4⟩
  · rcases g3 b hf with h | h
    · exact h6 b h hg
    · have := RtAt.lt h2 b hg; omega
  · rcases g3 sb hf with h | h
    · exact h7 h
    · have := h3.lt; omega
theorem tk_right {w' : World} {F G : Nat → Prop} {G' : Nat → Prop} {m' : List (Int × Int)} (h1 : TmAt w F p l) (h2 : RtAt w G q m) (h3 : Blk w sb 31 cs) (h4 : ∀ b, F b → w0.heap.size ≤ b) (h5 : ∀ b, G b → w0.heap.size ≤ b) (h6 : ∀ b, F b → ¬ G b) (h7 : ¬ F sb) (h8 : ¬ G sb) (h9 : Upd NoB w0 w)
    (g1 : RtAt w' G' q m') (g2 : Upd G w w') (g3 : ∀ b, G' b → G b ∨ w.heap.size ≤ b) :
    TmAt w' F p l ∧ Blk w' sb 31 cs ∧ (∀ b, G' b → w0.heap.size ≤ b) ∧ (∀ b, F b → ¬ G' b) ∧ ¬ G' sb ∧ Upd NoB w0 w' := by
  refine ⟨h1.upd g2 (fun b hf hg => h6 b hf hg), h3.upd g2 h8, fun b hb => (g3 b hb).elim (h5 b) (fun h => Nat.le_trans h9.size h), fun b hf hg => ?_, fun hf => ?_, h9.newer g2 h5⟩
  · rcases g3 b hg with h | h
    · exact h6 b hf h
    · have := h1.lt b hf; omega
  · rcases g3 sb hf with h | h
    · exact h8 h
    · have := h3.lt; omega
theorem tk_setL (h : TK2 w0 w p q l m sb cs) (id u : Int) (hn : l.length ≤ 1000000000) :
    Calls Try.prog 14 #[p, .int .i64 id, .int .i64 u] w fun e w' => e = .returned (.tuple #[]) ∧ TK2 w0 w' p q (tmSet id u l) m sb cs := by
  obtain ⟨F, G, h1, h2, h3, h4, h5, h6, h7, h8, h9⟩ := h
  refine (tm_set w F p l id u h1 hn).mono ?_
  rintro e w' ⟨F', rfl, g1, g2, g3⟩
  obtain ⟨k1, k2, k3, k4, k5, k6⟩ := tk_left h1 h2 h3 h4 h5 h6 h7 h8 h9 g1 g2 g3
  exact ⟨rfl, F', G, g1, k1, k2, k3, h5, k4, k5, h8, k6⟩
theorem tk_setR (h : TK2 w0 w p q l m sb cs) (id u : Int) (hn : m.length ≤ 1000000000) :
    Calls Try.prog 15 #[q, .int .i64 id, .int .i64 u] w fun e w' => e = .returned (.tuple #[]) ∧ TK2 w0 w' p q l (rtSet id u m) sb cs := by
  obtain ⟨F, G, h1, h2, h3, h4, h5, h6, h7, h8, h9⟩ := h
  refine (rt_set w G q m id u h2 hn).mono ?_
  rintro e w' ⟨G', rfl, g1, g2, g3⟩
  obtain ⟨k1, k2, k3, k4, k5, k6⟩ := tk_right h1 h2 h3 h4 h5 h6 h7 h8 h9 g1 g2 g3
  exact ⟨rfl, F, G', k1, g1, k2, h4, k3, k4, h7, k5, k6⟩
theorem tk_dropL (h : TK2 w0 w p q l m sb cs) (id : Int) (hn : l.length ≤ 1000000000) :
    Calls Try.prog 16 #[p, .int .i64 id] w fun e w' => e = .returned (.bool (tmPlace id l).2) ∧ TK2 w0 w' p q (tmDrop id l) m sb cs := by
  obtain ⟨F, G, h1, h2, h3, h4, h5, h6, h7, h8, h9⟩ := h
  refine (tm_drop w F p l id h1 hn).mono ?_
  rintro e w' ⟨F', rfl, g1, g2, g3⟩
  obtain ⟨k1, k2, k3, k4, k5, k6⟩ := tk_left h1 h2 h3 h4 h5 h6 h7 h8 h9 g1 g2 g3
  exact ⟨rfl, F', G, g1, k1, k2, k3, h5, k4, k5, h8, k6⟩
theorem tk_dropR (h : TK2 w0 w p q l m sb cs) (id : Int) (hn : m.length ≤ 1000000000) :
    Calls Try.prog 17 #[q, .int .i64 id] w fun e w' => e = .returned (.bool (decide ((rtDrop id m).length < m.length))) ∧ TK2 w0 w' p q l (rtDrop id m) sb cs := by
  obtain ⟨F, G, h1, h2, h3, h4, h5, h6, h7, h8, h9⟩ := h
  refine (rt_drop w G q m id h2 hn).mono ?_
  rintro e w' ⟨G', rfl, g1, g2, g3⟩
  obtain ⟨k1, k2, k3, k4, k5, k6⟩ := tk_right h1 h2 h3 h4 h5 h6 h7 h8 h9 g1 g2 g3
  exact ⟨rfl, F, G', k1, g1, k2, h4, k3, k4, h7, k5, k6⟩
theorem tk_dueL (h : TK2 w0 w p q l m sb cs) (t : Int) (hn : l.length ≤ 1000000000) :
    Calls Try.prog 19 #[p, .int .i64 t] w fun e w' => ∃ v, e = .returned v ∧ TK3 w0 w' p q (restOf t l) m sb cs v (dueOf t l) := by
  obtain ⟨F, G, h1, h2, h3, h4, h5, h6, h7, h8, h9⟩ := h
  refine (tm_due w F p l t h1 hn).mono ?_
  rintro e w' ⟨v, F', H, rfl, g1, g2, g3, g4, g5⟩
  obtain ⟨k1, k2, k3, k4, k5, k6⟩ := tk_left h1 h2 h3 h4 h5 h6 h7 h8 h9 g1 g2 g3
  exact ⟨v, rfl, F', G, H, g1, k1, k2, k3, h5, k4, k5, h8, k6, g4, fun b hb => ⟨(g5 b hb).2, fun hg => by have := RtAt.lt h2 b hg; have := (g5 b hb).1; omega⟩⟩
theorem TK3.two {v : Value} {r : List Int} (h : TK3 w0 w p q l m sb cs v r) : TK2 w0 w p q l m sb cs := by
  obtain ⟨F, G, H, h1, h2, h3, h4, h5, h6, h7, h8, h9, _⟩ := h
  exact ⟨F, G, h1, h2, h3, h4, h5, h6, h7, h8, h9⟩
theorem tk_dueR {v : Value} {r : List Int} (h : TK3 w0 w p q l m sb cs v r) (t : Int) (hn : m.length ≤ 1000000000) :
    Calls Try.prog 20 #[q, .int .i64 t] w fun e w' => ∃ v', e = .returned v' ∧ TK2 w0 w' p q l (restOf t m) sb cs ∧ Rd intE w' v r ∧ Rd intE w' v' (dueOf t m) := by
  obtain ⟨F, G, H, h1, h2, h3, h4, h5, h6, h7, h8, h9, h10, h11⟩ := h
  refine (rt_due w G q m t h2 hn).mono ?_
  rintro e w' ⟨v', G', I, rfl, g1, g2, g3, g4, g5⟩
  obtain ⟨k1, k2, k3, k4, k5, k6⟩ := tk_right h1 h2 h3 h4 h5 h6 h7 h8 h9 g1 g2 g3
  exact ⟨v', rfl, ⟨F, G', k1, g1, k2, h4, k3, k4, h7, k5, k6⟩, (h10.upd g2 (fun b hb => (h11 b hb).2)).rd, g4.rd⟩
theorem tk_nextL (h : TK2 w0 w p q l m sb cs) (hn : l.length ≤ 1000000000) :
    Calls Try.prog 21 #[p] w fun e w' => e = .returned (.tuple #[.int .i64 (tmNextOf l).1, .bool (tmNextOf l).2]) ∧ TK2 w0 w' p q l m sb cs := by
  have h' := h
  obtain ⟨F, G, h1, h2, h3, h4, h5, h6, h7, h8, h9⟩ := h
  refine (tm_next w F p l h1 hn).mono ?_
  rintro e w' ⟨rfl, g⟩
  exact ⟨rfl, h'.upd g⟩
theorem tk_nextR (h : TK2 w0 w p q l m sb cs) (hn : m.length ≤ 1000000000) :
    Calls Try.prog 22 #[q] w fun e w' => e = .returned (.tuple #[.int .i64 (tmNextOf m).1, .bool (tmNextOf m).2]) ∧ TK2 w0 w' p q l m sb cs := by
  have h' := h
  obtain ⟨F, G, h1, h2, h3, h4, h5, h6, h7, h8, h9⟩ := h
  refine (rt_next w G q m h2 hn).mono ?_
  rintro e w' ⟨rfl, g⟩
  exact ⟨rfl, h'.upd g⟩
theorem tk_lenL (h : TK2 w0 w p q l m sb cs) : Calls Try.prog 23 #[p] w fun e w' => e = .returned (.int .i64 l.length) ∧ w' = w := by
  obtain ⟨F, G, h1, h2, h3, h4, h5, h6, h7, h8, h9⟩ := h
  refine (tm_len w F p l h1).mono ?_
  rintro e w' ⟨rfl, rfl⟩
  exact ⟨rfl, rfl⟩
theorem TK2.cell (h : TK2 w0 w p q l m sb cs) (j : Nat) : w.cell? ⟨sb, j, none⟩ = cs[j]? := by
  obtain ⟨F, G, h1, h2, h3, _⟩ := h
  exact h3.cell j
theorem TK2.ref (h : TK2 w0 w p q l m sb cs) : ∃ b ao c, q = .pointer (some ⟨b, 0, none⟩) ∧ w.cell? ⟨b, 0, none⟩ = some (.slice ao m.length c) := by
  obtain ⟨F, G, h1, ⟨b, sv, G', rfl, hb, hr, _⟩, _⟩ := h
  obtain ⟨ao, c, rfl, _⟩ := row_form hr
  exact ⟨b, ao, c, rfl, hb.cell 0⟩
theorem TK2.newer (h : TK2 w0 w p q l m sb cs) : Upd NoB w0 w := by
  obtain ⟨F, G, h1, h2, h3, h4, h5, h6, h7, h8, h9⟩ := h
  exact h9
/-- Both rows of timers alone. -/
def TK1 (w0 w : World) (p q : Value) (l : List (Int × Int)) : Prop :=
  Srt l ∧ ∃ F G, TmAt w F p l ∧ RtAt w G q l ∧ (∀ b, F b → w0.heap.size ≤ b) ∧ (∀ b, G b → w0.heap.size ≤ b) ∧ (∀ b, F b → ¬ G b) ∧ Upd NoB w0 w
theorem TK1.new (h : TK1 w0 w p q l) (cs : List Value) : TK2 w0 (w.alloc (.cells cs.toArray 31)) p q l l w.heap.size cs := by
  obtain ⟨_, F, G, h1, h2, h3, h4, h5, h6⟩ := h
  exact ⟨F, G, h1.upd (Upd.alloc NoB _ _) (fun _ _ h => h), PsAt.upd h2 (Upd.alloc NoB _ _) (fun _ _ h => h), Blk.new _ _ _, h3, h4, h5, fun h => by have := h1.lt _ h; omega, fun h => by have := RtAt.lt h2 _ h; omega, h6.trans (Upd.alloc _ _ _)⟩
theorem TK2.one (h : TK2 w0 w p q l l sb cs) (hs : Srt l) : TK1 w0 w p q l := by
  obtain ⟨F, G, h1, h2, h3, h4, h5, h6, h7, h8, h9⟩ := h
  exact ⟨hs, F, G, h1, h2, h4, h5, h6, h9⟩
end

def stE : Enc (Int × Int × Int) := prE (kE .i64) (prE (kE .i64) (kE .i64))

set_option maxHeartbeats 4000000 in
set_option maxRecDepth 100000 in
theorem law_plays (w : World) (ao : Option Addr) (c : Nat) (l : List (Int × Int × Int)) (hrd : Rd stE w (.slice ao l.length c) l) (hmaxl : l.length ≤ 9223372036854775807) :
    Calls Try.prog 3 #[.slice ao l.length c] w fun e w' => e = .returned (.bool true) ∧ Upd NoB w w' := by
  have HRD := Lib.hid hrd
  clear hrd
  by_cases h20 : 80 < l.length
  · have h20' : decide ((80 : Int) < (l.length : Int)) = true := by simp; omega
    go_enter Try.func3, Try.ntmps3
    go_wp2_with (go_at_call 12; refine (tm_known w).mono ?_; rintro e w1 ⟨rfl, h1⟩; have H1 := Lib.hid h1; clear h1)
    go_ret
    exact ⟨rfl, H1.out⟩
  have h20' : decide ((80 : Int) < (l.length : Int)) = false := by simp; omega
  go_enter Try.func3, Try.ntmps3
  go_wp2_with (go_at_call 12; refine (tm_known w).mono ?_; rintro e w1 ⟨rfl, h1⟩; have H1 := Lib.hid h1; clear h1)
  refine (ts_new w1).mono ?_
  rintro e w2 ⟨b, rfl, h2⟩
  have hT : TS w w2 (.pointer (some ⟨b, 0, none⟩)) [] := by obtain ⟨F, g1, g2, g3⟩ := h2; exact ⟨F, g1, fun b hb => Nat.le_trans H1.out.size (g2 b hb), H1.out.trans g3⟩
  have hT1 : TK1 w (w2.alloc (.cells #[.slice none 0 0] 29 (0, 0))) (.pointer (some ⟨b, 0, none⟩)) (.pointer (some ⟨w2.heap.size, 0, none⟩)) [] := by
    obtain ⟨F, g1, g2, g3⟩ := hT
    refine ⟨Srt.nil, F, OrB (OneB w2.heap.size) NoB, g1.upd (Upd.alloc NoB _ _) (fun _ _ h => h), ⟨w2.heap.size, _, NoB, rfl, Blk.new w2 _ [_], Row.nil _ _ _, fun h => h, rfl⟩, g2, ?_, ?_, g3.trans (Upd.alloc _ _ _)⟩
    · rintro x (rfl | h)
      · exact g3.size
      · exact h.elim
    · rintro x hx (rfl | h)
      · have := g1.lt _ hx; omega
      · exact h.elim
  have HT := Lib.hid hT1
  clear hT hT1 h2 H1
  go_wp2
  generalize w2.heap.size = b2 at HT ⊢
  generalize w2.alloc (.cells #[.slice none 0 0] 29 (0, 0)) = w3 at HT ⊢
  go_loopw [5] (fun i wr => ∃ k : Nat, k ≤ l.length ∧ i = .int .i64 k ∧ Hid (∃ L, L.length ≤ k ∧ TK1 w wr (.pointer (some ⟨b, 0, none⟩)) (.pointer (some ⟨b2, 0, none⟩)) L)) (fun i _ => l.length - (intOf i).toNat)
  case atStart => exact ⟨0, Nat.zero_le _, rfl, [], Nat.le_refl _, HT.out⟩
  case round =>
    clear HT
    obtain ⟨k, hk, rfl, hH⟩ := hrel
    obtain ⟨L, hL, hT⟩ := hH.out
    have hU : Upd NoB w wr := by obtain ⟨_, _, _, _, _, _, _, _, hu⟩ := hT; exact hu
    clear hH
    by_cases hlt : k < l.length
    · obtain ⟨x, hx⟩ : ∃ x, l[k]? = some x := ⟨l[k], by simp [hlt]⟩
      obtain ⟨a, i, n⟩ := x
      obtain ⟨ab, o, c', hv, _, _, hcell⟩ := (rd_cell HRD.out hU).at hlt
      cases hv
      have g0 : wr.cell? ⟨ab, o + k * 3, none⟩ = some (.int .i64 a) := hcell k 0 _ _ hx rfl
      have g1 : wr.cell? ⟨ab, o + k * 3 + 1, none⟩ = some (.int .i64 i) := hcell k 1 _ _ hx rfl
      have g2 : wr.cell? ⟨ab, o + k * 3 + 2, none⟩ = some (.int .i64 n) := hcell k 2 _ _ hx rfl
      have h2 := hT.new [.int .i64 a, .int .i64 i, .int .i64 n]
      have hs := hT.1
      have HS := Lib.hid hs
      have H2 := Lib.hid h2
      have q0 := h2.cell 0
      have q1 := h2.cell 1
      have q2 := h2.cell 2
      simp only [List.getElem?_cons_zero, List.getElem?_cons_succ] at q0 q1 q2
      clear hcell hx hU hT hs h2
      by_cases ha : a ≤ 2
      · have ha' : decide (a ≤ 2) = true := by simpa using ha
        go_wp2_with fail
        refine (tk_setL H2.out i n (by omega)).mono ?_
        clear H2 q0 q1 q2 g0 g1 g2
        generalize wr.heap.size = sb
        rintro e w4 ⟨rfl, h4⟩
        have q1 := h4.cell 1
        have q2 := h4.cell 2
        simp only [List.getElem?_cons_zero, List.getElem?_cons_succ] at q1 q2
        have H4 := Lib.hid h4
        clear h4
        go_wp2_with fail
        refine (tk_setR H4.out i n (by omega)).mono ?_
        clear H4 q1 q2
        rintro e w5 ⟨rfl, h5⟩
        rw [← set_same i n L HS.out] at h5
        have hs' := HS.out.set i n
        have hl' := tmSet_len i n L
        generalize tmSet i n L = L' at h5 hs' hl'
        have hL' : L'.length ≤ k + 1 := by omega
        clear hl'
        have H5 := Lib.hid h5
        clear h5
        obtain ⟨nx, hnx⟩ : ∃ nx, nx = tmNextOf L' := ⟨_, rfl⟩
        have c1 := tk_nextL H5.out (by omega)
        rw [← hnx] at c1
        have C1 := Lib.hid c1
        clear c1
        go_wp2_with fail
        refine C1.out.mono ?_
        clear C1 H5
        rintro e w6 ⟨rfl, h6⟩
        have c2 := tk_nextR h6 (by omega)
        rw [← hnx] at c2
        have C2 := Lib.hid c2
        clear c2 h6 hnx
        go_wp2_with fail
        refine C2.out.mono ?_
        clear C2
        rintro e w7 ⟨rfl, h7⟩
        obtain ⟨b', ao', c', hq, g7⟩ := h7.ref
        cases hq
        have HX := Lib.hid h7
        have HSX := Lib.hid hs'
        clear h7 hs'
        have n1 : (nx.1 != nx.1) = false := by simp
        have n2 : (nx.2 != nx.2) = false := by simp
        have n3 : ((L'.length : Int) != (L'.length : Int)) = false := by simp
        go_wp2_with fail
        go_quiet ((go_at_call 23; refine Calls.quiet_of_same (tk_lenL (HX.out.upd (Upd.drewN _ _ _)))))
        go_wp2
        exact ⟨⟨k + 1, hlt, by go_num, ⟨L', hL', (HX.out.upd (Upd.drewN _ _ _)).one HSX.out⟩⟩, by simp [intOf]; omega⟩
      have ha' : decide (a ≤ 2) = false := by simpa using ha
      by_cases ha3 : a = 3
      · subst ha3
        go_wp2_with fail
        refine wp_region_noPanic ?_
        have hS : (fun wx : World => wx.cell? ⟨wr.heap.size, 1, none⟩ = some (.int .i64 i)) (wr.alloc (.cells [.int .i64 3, .int .i64 i, .int .i64 n].toArray 31 (0, 0))).drew := q1
        refine wp_region_N 8 (fun wx => wx.cell? ⟨wr.heap.size, 1, none⟩ = some (.int .i64 i)) (by kernel_rfl) hS ?_
        clear hS
        intro hS
        (refine wpAnyN_take 0 (oi := ?oi1) (v := ?v1) ?hi1 (by kernel_rfl) (fun _ _ _ h => h) (by assumption) ?hy1 ?hk1; (case hi1 => (simp only [List.getElem?_toArray, List.getElem?_cons_zero, List.getElem?_cons_succ]; try rfl)); (case hy1 => (refine Or.inl ⟨by rfl, ?_⟩; intro wq hSw; (try dsimp only at hSw); go_split_ands; (try go_simp); (try with_reducible rfl))); simp only [Act.put, List.setIfInBounds_toArray, List.set_cons_zero, List.set_cons_succ]); (refine wpAnyN_take 1 (oi := ?oi2) (v := ?v2) ?hi2 (by kernel_rfl) (fun _ _ _ h => h) (by assumption) ?hy2 ?hk2; (case hi2 => (simp only [List.getElem?_toArray, List.getElem?_cons_zero, List.getElem?_cons_succ]; try rfl)); (case hy2 => (refine Or.inl ⟨by rfl, ?_⟩; intro wq hSw; (try dsimp only at hSw); go_split_ands; (try go_simp); (try with_reducible rfl))); simp only [Act.put, List.setIfInBounds_toArray, List.set_cons_zero, List.set_cons_succ]); (refine wpAnyN_take 2 (oi := ?oi3) (v := ?v3) ?hi3 (by kernel_rfl) (fun _ _ _ h => h) (by assumption) ?hy3 ?hk3; (case hi3 => (simp only [List.getElem?_toArray, List.getElem?_cons_zero, List.getElem?_cons_succ]; try rfl)); (case hy3 => (refine Or.inl ⟨by rfl, ?_⟩; intro wq hSw; (try dsimp only at hSw); go_split_ands; (try go_simp); (try with_reducible rfl))); simp only [Act.put, List.setIfInBounds_toArray, List.set_cons_zero, List.set_cons_succ]); (refine wpAnyN_take 4 (oi := ?oi4) (v := ?v4) ?hi4 (by kernel_rfl) (fun _ _ _ h => h) (by assumption) ?hy4 ?hk4; (case hi4 => (simp only [List.getElem?_toArray, List.getElem?_cons_zero, List.getElem?_cons_succ]; try rfl)); (case hy4 => (refine Or.inl ⟨by rfl, ?_⟩; intro wq hSw; (try dsimp only at hSw); go_split_ands; (try go_simp); (try with_reducible rfl))); simp only [Act.put, List.setIfInBounds_toArray, List.set_cons_zero, List.set_cons_succ]); (refine wpAnyN_take 5 (oi := ?oi5) (v := ?v5) ?hi5 (by kernel_rfl) (fun _ _ _ h => h) (by assumption) ?hy5 ?hk5; (case hi5 => (simp only [List.getElem?_toArray, List.getElem?_cons_zero, List.getElem?_cons_succ]; try rfl)); (case hy5 => (refine Or.inl ⟨by rfl, ?_⟩; intro wq hSw; (try dsimp only at hSw); go_split_ands; (try go_simp); (try with_reducible rfl))); simp only [Act.put, List.setIfInBounds_toArray, List.set_cons_zero, List.set_cons_succ]); (refine wpAnyN_take 6 (oi := ?oi6) (v := ?v6) ?hi6 (by kernel_rfl) (fun _ _ _ h => h) (by assumption) ?hy6 ?hk6; (case hi6 => (simp only [List.getElem?_toArray, List.getElem?_cons_zero, List.getElem?_cons_succ]; try rfl)); (case hy6 => (refine Or.inl ⟨by rfl, ?_⟩; intro wq hSw; (try dsimp only at hSw); go_split_ands; (try go_simp); (try with_reducible rfl))); simp only [Act.put, List.setIfInBounds_toArray, List.set_cons_zero, List.set_cons_succ])
        (refine wpAnyN_all [3] (by kernel_rfl) ?_; refine AllN.cons (by simp only [List.getElem?_toArray, List.getElem?_cons_zero, List.getElem?_cons_succ]; try rfl) (fun K hK => ?_) AllN.nil)
        go_simp
        refine (tk_dropL (H2.out.upd (Upd.drew _ _)) i (by omega)).mono ?_
        generalize wr.heap.size = sb at *
        rintro e w4 ⟨rfl, h4⟩
        refine hK.out _ _ (fun _ => h4.cell 1) ?_
        clear hK K hS H2 q0 q1 q2 g0 g1 g2
        (try simp only [Act.put, List.setIfInBounds_toArray, List.set_cons_zero, List.set_cons_succ])
        have hS : (fun wx : World => wx.cell? ⟨sb, 1, none⟩ = some (.int .i64 i)) w4 := h4.cell 1
        (refine wpAnyN_all [7] (by kernel_rfl) ?_; refine AllN.cons (by simp only [List.getElem?_toArray, List.getElem?_cons_zero, List.getElem?_cons_succ]; try rfl) (fun K hK => ?_) AllN.nil)
        go_simp
        refine (tk_dropR h4 i (by omega)).mono ?_
        clear h4 hS
        rintro e w5 ⟨rfl, h5⟩
        refine hK.out _ _ (fun _ => h5.cell 1) ?_
        clear hK K
        (try simp only [Act.put, List.setIfInBounds_toArray, List.set_cons_zero, List.set_cons_succ])
        obtain ⟨e1, e2⟩ := drop_same i L HS.out
        rw [e2]
        have hs' := (show Srt (rtDrop i L) from List.Pairwise.filter _ HS.out)
        have hl' : (rtDrop i L).length ≤ L.length := List.length_filter_le _ _
        rw [e1] at h5
        generalize decide ((rtDrop i L).length < L.length) = bd
        generalize rtDrop i L = L' at h5 hs' hl'
        have hL' : L'.length ≤ k + 1 := by omega
        have hbd : (bd != bd) = false := by simp
        clear hl' e1 e2
        (refine wpAnyN_all [8] (by kernel_rfl) ?_; refine AllN.cons (by simp only [List.getElem?_toArray, List.getElem?_cons_zero, List.getElem?_cons_succ]; try rfl) (fun K hK => ?_) AllN.nil)
        go_simp
        refine hK.out _ _ (fun h => absurd rfl h) ?_
        clear hK K
        (try simp only [Act.put, List.setIfInBounds_toArray, List.set_cons_zero, List.set_cons_succ])
        refine wpAnyN_done (by kernel_rfl) ?_
        refine NoPanic.normal ?_
        have H5 := Lib.hid h5
        clear h5
        obtain ⟨nx, hnx⟩ : ∃ nx, nx = tmNextOf L' := ⟨_, rfl⟩
        have c1 := tk_nextL H5.out (by omega)
        rw [← hnx] at c1
        have C1 := Lib.hid c1
        clear c1
        go_wp2_with fail
        refine C1.out.mono ?_
        clear C1 H5
        rintro e w6 ⟨rfl, h6⟩
        have c2 := tk_nextR h6 (by omega)
        rw [← hnx] at c2
        have C2 := Lib.hid c2
        clear c2 h6 hnx
        go_wp2_with fail
        refine C2.out.mono ?_
        clear C2
        rintro e w7 ⟨rfl, h7⟩
        obtain ⟨b', ao', c', hq, g7⟩ := h7.ref
        cases hq
        have HX := Lib.hid h7
        have HSX := Lib.hid hs'
        clear h7 hs'
        have n1 : (nx.1 != nx.1) = false := by simp
        have n2 : (nx.2 != nx.2) = false := by simp
        have n3 : ((L'.length : Int) != (L'.length : Int)) = false := by simp
        go_wp2_with fail
        go_quiet ((go_at_call 23; refine Calls.quiet_of_same (tk_lenL (HX.out.upd (Upd.drewN _ _ _)))))
        go_wp2
        exact ⟨⟨k + 1, hlt, by go_num, ⟨L', hL', (HX.out.upd (Upd.drewN _ _ _)).one HSX.out⟩⟩, by simp [intOf]; omega⟩
      · have ha3' : (a == 3) = false := by simpa using ha3
        go_wp2_with fail
        refine wp_region_noPanic ?_
        have hS : (fun wx : World => wx.cell? ⟨wr.heap.size, 2, none⟩ = some (.int .i64 n)) (wr.alloc (.cells [.int .i64 a, .int .i64 i, .int .i64 n].toArray 31 (0, 0))).drew := q2
        refine wp_region_N 9 (fun wx => wx.cell? ⟨wr.heap.size, 2, none⟩ = some (.int .i64 n)) (by kernel_rfl) hS ?_
        clear hS
        intro hS
        (refine wpAnyN_take 0 (oi := ?oi7) (v := ?v7) ?hi7 (by kernel_rfl) (fun _ _ _ h => h) (by assumption) ?hy7 ?hk7; (case hi7 => (simp only [List.getElem?_toArray, List.getElem?_cons_zero, List.getElem?_cons_succ]; try rfl)); (case hy7 => (refine Or.inl ⟨by rfl, ?_⟩; intro wq hSw; (try dsimp only at hSw); go_split_ands; (try go_simp); (try with_reducible rfl))); simp only [Act.put, List.setIfInBounds_toArray, List.set_cons_zero, List.set_cons_succ]); (refine wpAnyN_take 1 (oi := ?oi8) (v := ?v8) ?hi8 (by kernel_rfl) (fun _ _ _ h => h) (by assumption) ?hy8 ?hk8; (case hi8 => (simp only [List.getElem?_toArray, List.getElem?_cons_zero, List.getElem?_cons_succ]; try rfl)); (case hy8 => (refine Or.inl ⟨by rfl, ?_⟩; intro wq hSw; (try dsimp only at hSw); go_split_ands; (try go_simp); (try with_reducible rfl))); simp only [Act.put, List.setIfInBounds_toArray, List.set_cons_zero, List.set_cons_succ]); (refine wpAnyN_take 2 (oi := ?oi9) (v := ?v9) ?hi9 (by kernel_rfl) (fun _ _ _ h => h) (by assumption) ?hy9 ?hk9; (case hi9 => (simp only [List.getElem?_toArray, List.getElem?_cons_zero, List.getElem?_cons_succ]; try rfl)); (case hy9 => (refine Or.inl ⟨by rfl, ?_⟩; intro wq hSw; (try dsimp only at hSw); go_split_ands; (try go_simp); (try with_reducible rfl))); simp only [Act.put, List.setIfInBounds_toArray, List.set_cons_zero, List.set_cons_succ]); (refine wpAnyN_take 4 (oi := ?oi10) (v := ?v10) ?hi10 (by kernel_rfl) (fun _ _ _ h => h) (by assumption) ?hy10 ?hk10; (case hi10 => (simp only [List.getElem?_toArray, List.getElem?_cons_zero, List.getElem?_cons_succ]; try rfl)); (case hy10 => (refine Or.inl ⟨by rfl, ?_⟩; intro wq hSw; (try dsimp only at hSw); go_split_ands; (try go_simp); (try with_reducible rfl))); simp only [Act.put, List.setIfInBounds_toArray, List.set_cons_zero, List.set_cons_succ]); (refine wpAnyN_take 5 (oi := ?oi11) (v := ?v11) ?hi11 (by kernel_rfl) (fun _ _ _ h => h) (by assumption) ?hy11 ?hk11; (case hi11 => (simp only [List.getElem?_toArray, List.getElem?_cons_zero, List.getElem?_cons_succ]; try rfl)); (case hy11 => (refine Or.inl ⟨by rfl, ?_⟩; intro wq hSw; (try dsimp only at hSw); go_split_ands; (try go_simp); (try with_reducible rfl))); simp only [Act.put, List.setIfInBounds_toArray, List.set_cons_zero, List.set_cons_succ]); (refine wpAnyN_take 6 (oi := ?oi12) (v := ?v12) ?hi12 (by kernel_rfl) (fun _ _ _ h => h) (by assumption) ?hy12 ?hk12; (case hi12 => (simp only [List.getElem?_toArray, List.getElem?_cons_zero, List.getElem?_cons_succ]; try rfl)); (case hy12 => (refine Or.inl ⟨by rfl, ?_⟩; intro wq hSw; (try dsimp only at hSw); go_split_ands; (try go_simp); (try with_reducible rfl))); simp only [Act.put, List.setIfInBounds_toArray, List.set_cons_zero, List.set_cons_succ])
        (refine wpAnyN_all [3] (by kernel_rfl) ?_; refine AllN.cons (by simp only [List.getElem?_toArray, List.getElem?_cons_zero, List.getElem?_cons_succ]; try rfl) (fun K hK => ?_) AllN.nil)
        go_simp
        refine (tk_dueL (H2.out.upd (Upd.drew _ _)) n (by omega)).mono ?_
        generalize wr.heap.size = sb at *
        rintro e w4 ⟨v4, rfl, h4⟩
        refine hK.out _ _ (fun _ => h4.two.cell 2) ?_
        clear hK K hS H2 q0 q1 q2 g0 g1 g2
        (try simp only [Act.put, List.setIfInBounds_toArray, List.set_cons_zero, List.set_cons_succ])
        have hS : (fun wx : World => wx.cell? ⟨sb, 2, none⟩ = some (.int .i64 n)) w4 := h4.two.cell 2
        (refine wpAnyN_all [7] (by kernel_rfl) ?_; refine AllN.cons (by simp only [List.getElem?_toArray, List.getElem?_cons_zero, List.getElem?_cons_succ]; try rfl) (fun K hK => ?_) AllN.nil)
        go_simp
        refine (tk_dueR h4 n (by omega)).mono ?_
        clear h4 hS
        rintro e w4' ⟨v5, rfl, h5, hr1, hr2⟩
        refine hK.out _ _ (fun _ => h5.cell 2) ?_
        clear hK K
        (try simp only [Act.put, List.setIfInBounds_toArray, List.set_cons_zero, List.set_cons_succ])
        have hs' := HS.out.rest n
        have hdl := due_length n L
        (refine wpAnyN_all [8] (by kernel_rfl) ?_; refine AllN.cons (by simp only [List.getElem?_toArray, List.getElem?_cons_zero, List.getElem?_cons_succ]; try rfl) (fun K hK => ?_) AllN.nil)
        go_simp
        refine (same_ints _ v4 v5 _ _ hr1 hr2 (by omega) (by omega)).mono ?_
        clear hr1 hr2
        rintro e w5 ⟨rfl, h6⟩
        rw [show decide (dueOf n L = dueOf n L) = true by simp]
        have h5' := h5.upd h6
        clear h5 h6
        have h5 := h5'
        clear h5'
        refine hK.out _ _ (fun _ => h5.cell 2) ?_
        clear hK K
        (try simp only [Act.put, List.setIfInBounds_toArray, List.set_cons_zero, List.set_cons_succ])
        have hL' : (restOf n L).length ≤ k + 1 := by omega
        generalize restOf n L = L' at h5 hs' hL'
        clear hdl
        (refine wpAnyN_all [9] (by kernel_rfl) ?_; refine AllN.cons (by simp only [List.getElem?_toArray, List.getElem?_cons_zero, List.getElem?_cons_succ]; try rfl) (fun K hK => ?_) AllN.nil)
        go_simp
        refine hK.out _ _ (fun h => absurd rfl h) ?_
        clear hK K
        (try simp only [Act.put, List.setIfInBounds_toArray, List.set_cons_zero, List.set_cons_succ])
        refine wpAnyN_done (by kernel_rfl) ?_
        refine NoPanic.normal ?_
        have H5 := Lib.hid h5
        clear h5
        obtain ⟨nx, hnx⟩ : ∃ nx, nx = tmNextOf L' := ⟨_, rfl⟩
        have c1 := tk_nextL H5.out (by omega)
        rw [← hnx] at c1
        have C1 := Lib.hid c1
        clear c1
        go_wp2_with fail
        refine C1.out.mono ?_
        clear C1 H5
        rintro e w6 ⟨rfl, h6⟩
        have c2 := tk_nextR h6 (by omega)
        rw [← hnx] at c2
        have C2 := Lib.hid c2
        clear c2 h6 hnx
        go_wp2_with fail
        refine C2.out.mono ?_
        clear C2
        rintro e w7 ⟨rfl, h7⟩
        obtain ⟨b', ao', c', hq, g7⟩ := h7.ref
        cases hq
        have HX := Lib.hid h7
        have HSX := Lib.hid hs'
        clear h7 hs'
        have n1 : (nx.1 != nx.1) = false := by simp
        have n2 : (nx.2 != nx.2) = false := by simp
        have n3 : ((L'.length : Int) != (L'.length : Int)) = false := by simp
        go_wp2_with fail
        go_quiet ((go_at_call 23; refine Calls.quiet_of_same (tk_lenL (HX.out.upd (Upd.drewN _ _ _)))))
        go_wp2
        exact ⟨⟨k + 1, hlt, by go_num, ⟨L', hL', (HX.out.upd (Upd.drewN _ _ _)).one HSX.out⟩⟩, by simp [intOf]; omega⟩
    · have hke : k = l.length := by omega
      subst hke
      clear hT
      have HU := Lib.hid hU
      clear hU
      go_wp2
      go_ret
      exact ⟨rfl, HU.out⟩
theorem step_opens (W : World) : Opens Try.prog W 31 stE (fun _ => True) :=
  (Opens.struct Try.underlying31 (by kernel_rfl) (OpensFs.cons rfl (Opens.int (k := .i64) Try.underlying3 (by kernel_rfl)) (OpensFs.cons rfl (Opens.int (k := .i64) Try.underlying3 (by kernel_rfl)) (OpensFs.one rfl (Opens.int (k := .i64) Try.underlying3 (by kernel_rfl)))))).mono (fun _ _ => trivial)
theorem plays_row (w : World) (ao : Option Addr) (c : Nat) (l : List (Int × Int × Int)) (hrd : Rd stE w (.slice ao l.length c) l) (hl : ∀ x ∈ l, True) :
    Calls Try.prog 3 #[.slice ao l.length c] w fun e w' => e = .returned (.bool true) ∧ Upd NoB w w' :=
  law_plays w ao c l hrd (rd_max hrd)
end Go.Proofs.Ytgkhnmeemiloaaa
