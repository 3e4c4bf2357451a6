/- Gaps: the program's and the reference's are one; what is known of them. Conditions: none. -/
import Derived.Test.YtgkhnmeemiloaaaSpl
set_option linter.unusedVariables false
set_option linter.unusedSimpArgs false
namespace Go.Proofs.Ytgkhnmeemiloaaa
open Go.RowKit Go.Proofs.Ytgkhnmeemiloaaa.PS Go.Proofs.YtgkhnmeemiloaaaW.PrintWords Go.Proofs.YtgkhnmeemiloaaaW.PrintMore

/-- Where d stands. -/
def posOf (d : Int) : Nat → List Int → List Int
  | _, [] => []
  | i, s :: r => if s = d then (i : Int) :: posOf d (i + 1) r else posOf d (i + 1) r
theorem posOf_mem (d : Int) : ∀ (xs : List Int) (i : Nat) (p : Int), p ∈ posOf d i xs → (i : Int) ≤ p ∧ p < ((i + xs.length : Nat) : Int)
  | [], i, p, h => by simp [posOf] at h
  | s :: r, i, p, h => by
    unfold posOf at h
    split at h
    · rcases List.mem_cons.1 h with rfl | h
      · simp only [List.length_cons]; omega
      · have := posOf_mem d r (i + 1) p h; simp only [List.length_cons]; omega
    · have := posOf_mem d r (i + 1) p h; simp only [List.length_cons]; omega
theorem posOf_up (d : Int) : ∀ (xs : List Int) (i : Nat), (posOf d i xs).Pairwise (· < ·)
  | [], i => by simp [posOf]
  | s :: r, i => by
    unfold posOf
    split
    · refine List.pairwise_cons.2 ⟨fun p hp => ?_, posOf_up d r (i + 1)⟩
      have := (posOf_mem d r (i + 1) p hp).1; omega
    · exact posOf_up d r (i + 1)
theorem posOf_length (d : Int) : ∀ (xs : List Int) (i : Nat), (posOf d i xs).length = (xs.filter fun s => s == d).length
  | [], i => by simp [posOf]
  | s :: r, i => by
    unfold posOf
    by_cases c : s = d
    · subst c; simp [posOf_length s r (i + 1)]
    · simp [c, posOf_length d r (i + 1)]
/-- The distances from la on, and round to the first. -/
def gapsL (f n : Int) : Int → List Int → List Int
  | la, [] => [f + n - la]
  | la, p :: ps => (p - la) :: gapsL f n p ps
def lmin : List Int → Int
  | [] => 0
  | g :: r => r.foldl mn g
theorem gapsL_length (f n : Int) : ∀ (la : Int) (ps : List Int), (gapsL f n la ps).length = ps.length + 1
  | la, [] => rfl
  | la, p :: ps => by simp [gapsL, gapsL_length f n p ps]
theorem gapsL_sum (f n : Int) : ∀ (la : Int) (ps : List Int), (gapsL f n la ps).sum = f + n - la
  | la, [] => by simp [gapsL]
  | la, p :: ps => by simp only [gapsL, List.sum_cons, gapsL_sum f n p ps]; omega
theorem gapsL_mem (f n : Int) : ∀ (la : Int) (ps : List Int), (la :: ps).Pairwise (· < ·) → (∀ p ∈ la :: ps, p < f + n) → f ≤ la → ∀ g ∈ gapsL f n la ps, 1 ≤ g ∧ g ≤ n
  | la, [], _, h, hf, g, hg => by
    simp only [gapsL, List.mem_singleton] at hg
    have := h la (by simp); omega
  | la, p :: ps, hp, h, hf, g, hg => by
    simp only [gapsL, List.mem_cons] at hg
    have h1 := (List.pairwise_cons.1 hp).1 p (by simp)
    have h2 := h p (by simp)
    rcases hg with rfl | hg
    · omega
    · exact gapsL_mem f n p ps (List.pairwise_cons.1 hp).2 (fun q hq => h q (by simp only [List.mem_cons] at hq ⊢; exact .inr hq)) (by omega) g hg
theorem gapsL_get (f n : Int) : ∀ (la : Int) (ps : List Int) (i : Nat), i ≤ ps.length → (gapsL f n la ps)[i]? = some ((if i < ps.length then ps.getD i 0 else f + n) - (la :: ps).getD i 0)
  | la, [], i, h => by
    have : i = 0 := by simpa using h
    subst this; simp [gapsL]
  | la, p :: ps, 0, h => by simp [gapsL]
  | la, p :: ps, i + 1, h => by
    have := gapsL_get f n p ps i (by simpa using h)
    simp only [gapsL, List.getElem?_cons_succ, this, List.length_cons, List.getD_cons_succ]
    congr 2
    by_cases c : i < ps.length
    · rw [if_pos c, if_pos (by omega)]
    · rw [if_neg c, if_neg (by omega)]

/-- The program's run over the places behind the first. -/
def grun : Int → Int → Int → List Int → Int × Int × Int
  | la, le, mo, [] => (la, le, mo)
  | la, le, mo, p :: ps => grun p (if le = 0 then p - la else if p - la < le then p - la else le) (mx mo (p - la)) ps
def gfin (f n : Int) : Int × Int × Int → Int × Int
  | (la, le, mo) => if le = 0 then (f + n - la, mx mo (f + n - la)) else (mn le (f + n - la), mx mo (f + n - la))
theorem gfin_run (f n : Int) : ∀ (ps : List Int) (la le mo : Int), (la :: ps).Pairwise (· < ·) → 0 < le → gfin f n (grun la le mo ps) = ((gapsL f n la ps).foldl mn le, (gapsL f n la ps).foldl mx mo)
  | [], la, le, mo, _, h => by
    rw [show grun la le mo [] = (la, le, mo) from rfl]
    simp only [gfin, gapsL, List.foldl_cons, List.foldl_nil]
    rw [if_neg (by omega)]
  | p :: ps, la, le, mo, hp, h => by
    have h1 := (List.pairwise_cons.1 hp).1 p (by simp)
    simp only [grun, gapsL, List.foldl_cons]
    rw [if_neg (by omega), gfin_run f n ps p _ _ (List.pairwise_cons.1 hp).2 (by split <;> omega)]
    rfl
theorem gfin_run0 (f n : Int) (ps : List Int) (la mo : Int) (hp : (la :: ps).Pairwise (· < ·)) : gfin f n (grun la 0 mo ps) = (lmin (gapsL f n la ps), (gapsL f n la ps).foldl mx mo) := by
  cases ps with
  | nil => simp [grun, gfin, gapsL, lmin]
  | cons p ps =>
    have h1 := (List.pairwise_cons.1 hp).1 p (by simp)
    simp only [grun, gapsL, List.foldl_cons, lmin, if_true]
    rw [gfin_run f n ps p _ _ (List.pairwise_cons.1 hp).2 (by omega)]
/-- What both tell. -/
def gapOf (s : List Int) (d : Int) : Int × Int :=
  if s.length > 64 then (0, 0) else match posOf d 0 s with
  | [] => (0, 0)
  | p :: ps => (lmin (gapsL p s.length p ps), (gapsL p s.length p ps).foldl mx 0)

theorem prog_run (s : List Int) (d : Int) (hs : s.length ≤ 64) (f : Int) (hf : 0 ≤ f) (hf2 : f < 64) : ∀ (e i k : Nat) (la le mo : Int), i + e = s.length → e < k → f ≤ la → la < i → 0 ≤ le → le ≤ 64 → 0 ≤ mo →
    spread_Gap.l0 k s d f la le mo s (s.length : Int) (i : Int) = some (gfin f s.length (grun la le mo (posOf d i (s.drop i))))
  | 0, i, k, la, le, mo, h, hk, h1, h2, h3, h4, h5 => by
    obtain ⟨k, rfl⟩ := rounds (show 0 < k by omega)
    simp only [spread_Gap.l0]
    rw [if_neg (by omega), if_neg (by omega), List.drop_of_length_le (by omega), w64 (n := f + (s.length : Int)) (by omega) (by omega), w64 (by omega) (by omega)]
    simp only [posOf, grun, gfin]
    by_cases c : le = 0
    · rw [if_pos c, if_pos c]; simp [mn]
    · rw [if_neg c, if_neg c]
  | e + 1, i, k, la, le, mo, h, hk, h1, h2, h3, h4, h5 => by
    obtain ⟨k, rfl⟩ := rounds (show 0 < k by omega)
    have ha : i < s.length := by omega
    simp only [spread_Gap.l0]
    rw [if_pos (by omega), if_pos (by omega), if_pos (by omega), rd_get ha, w64 (n := (i : Int) + 1) (by omega) (by omega), show (i : Int) + 1 = ((i + 1 : Nat) : Int) by omega, w64 (n := (i : Int) - la) (by omega) (by omega)]
    rw [List.drop_eq_getElem_cons ha]
    unfold posOf
    by_cases c : s[i] = d
    · rw [if_pos c, if_pos c, if_neg (by omega)]
      simp only [grun]
      by_cases c2 : le = 0
      · rw [if_pos c2, if_pos c2, prog_run s d hs f hf hf2 e (i + 1) k i _ _ (by omega) (by omega) (by omega) (by omega) (by omega) (by omega) (by unfold mx; split <;> omega)]
      · rw [if_neg c2, if_neg c2]
        by_cases c3 : (i : Int) - la < le
        · rw [if_pos c3, if_pos c3, prog_run s d hs f hf hf2 e (i + 1) k i _ _ (by omega) (by omega) (by omega) (by omega) (by omega) (by omega) (by unfold mx; split <;> omega)]
        · rw [if_neg c3, if_neg c3, prog_run s d hs f hf hf2 e (i + 1) k i _ _ (by omega) (by omega) (by omega) (by omega) (by omega) (by omega) (by unfold mx; split <;> omega)]
    · rw [if_neg c, if_neg c]
      exact prog_run s d hs f hf hf2 e (i + 1) k la le mo (by omega) (by omega) h1 (by omega) h3 h4 h5
theorem prog_first (s : List Int) (d : Int) (hs : s.length ≤ 64) : ∀ (e i k : Nat), i + e = s.length → e < k →
    spread_Gap.l0 k s d (-1) (-1) 0 0 s (s.length : Int) (i : Int) = some (match posOf d i (s.drop i) with | [] => (0, 0) | p :: ps => gfin p s.length (grun p 0 0 ps))
  | 0, i, k, h, hk => by
    obtain ⟨k, rfl⟩ := rounds (show 0 < k by omega)
    simp only [spread_Gap.l0]
    rw [if_neg (by omega), if_pos (by omega), List.drop_of_length_le (by omega)]
    simp [posOf]
  | e + 1, i, k, h, hk => by
    obtain ⟨k, rfl⟩ := rounds (show 0 < k by omega)
    have ha : i < s.length := by omega
    simp only [spread_Gap.l0]
    rw [if_pos (by omega), if_pos (by omega), if_pos (by omega), rd_get ha, w64 (n := (i : Int) + 1) (by omega) (by omega), show (i : Int) + 1 = ((i + 1 : Nat) : Int) by omega]
    rw [List.drop_eq_getElem_cons ha]
    unfold posOf
    by_cases c : s[i] = d
    · rw [if_pos c, if_pos c, if_pos (by omega)]
      exact prog_run s d hs i (by omega) (by omega) e (i + 1) k i 0 0 (by omega) (by omega) (by omega) (by omega) (by omega) (by omega) (by omega)
    · rw [if_neg c, if_neg c]
      exact prog_first s d hs e (i + 1) k (by omega) (by omega)
theorem gap_tells (s : List Int) (d : Int) (k : Nat) (hk : s.length < k) : spread_Gap.f k s d = some (gapOf s d) := by
  unfold spread_Gap.f gapOf
  by_cases c : s.length > 64
  · rw [if_pos (by omega), if_pos c]
  · rw [if_neg (by omega), if_neg c]
    have := prog_first s d (by omega) s.length 0 k (by omega) hk
    rw [show ((0 : Nat) : Int) = 0 from rfl, List.drop_zero] at this
    rw [this]
    cases h : posOf d 0 s with
    | nil => rfl
    | cons p ps =>
      simp only
      rw [gfin_run0 p s.length ps p 0 (h ▸ posOf_up d s 0)]

/-! the reference's -/
theorem ref_pos (s : List Int) (d : Int) (hs : s.length ≤ 1000000) : ∀ (e i k : Nat) (acc : List Int), i + e = s.length → acc.length ≤ i → e + 2 ≤ k →
    tontineref11_Gap.l0 k s d acc (i : Int) = if acc ++ posOf d i (s.drop i) = [] ∨ s.length > 64 then some (0, 0) else tontineref11_Gap.l1 (k - e - 2) s (acc ++ posOf d i (s.drop i)) ((s.length : Int) + 1) 0 0
  | 0, i, k, acc, h, hk, hkk => by
    obtain ⟨k, rfl⟩ := rounds (show 0 < k by omega)
    obtain ⟨k, rfl⟩ := rounds (show 0 < k by omega)
    simp only [tontineref11_Gap.l0]
    rw [if_neg (by omega), List.drop_of_length_le (by omega)]
    simp only [posOf, List.append_nil, tontineref11_Gap.j1]
    by_cases c : acc = []
    · subst c; simp
    · have : ¬ ((acc.length : Int) = 0) := by
        intro h0; exact c (List.eq_nil_of_length_eq_zero (by omega))
      rw [if_neg this]
      by_cases c2 : s.length > 64
      · rw [if_pos (by simp; omega), if_pos (.inr c2)]
      · rw [if_neg (by simp; omega), if_neg (by simp [c]; omega), w64 (by omega) (by omega)]
        rfl
  | e + 1, i, k, acc, h, hk, hkk => by
    have ha : i < s.length := by omega
    obtain ⟨k, rfl⟩ := rounds (show 0 < k by omega)
    simp only [tontineref11_Gap.l0]
    rw [if_pos (by omega), if_pos (by omega), rd_get ha, w64 (n := (i : Int) + 1) (by omega) (by omega), show (i : Int) + 1 = ((i + 1 : Nat) : Int) by omega]
    rw [List.drop_eq_getElem_cons ha, show k + 1 - (e + 1) - 2 = k - e - 2 by omega]
    unfold posOf
    by_cases c : s[i] = d
    · rw [if_pos c, if_pos c, if_pos (by omega), ref_pos s d hs e (i + 1) k (acc ++ [(i : Int)]) (by omega) (by simp; omega) (by omega)]
      simp only [List.append_assoc, List.singleton_append]
    · rw [if_neg c, if_neg c]
      exact ref_pos s d hs e (i + 1) k acc (by omega) (by omega) (by omega)
theorem ref_run (s : List Int) (p : Int) (ps : List Int) (hs : s.length ≤ 64) (hup : (p :: ps).Pairwise (· < ·)) (hb : ∀ q ∈ p :: ps, 0 ≤ q ∧ q < s.length) (hpl : ps.length < 64) : ∀ (e i k : Nat) (le mo : Int), i + e = ps.length + 1 → e < k →
    tontineref11_Gap.l1 k s (p :: ps) le mo (i : Int) = some (((gapsL p s.length p ps).drop i).foldl mn le, ((gapsL p s.length p ps).drop i).foldl mx mo)
  | 0, i, k, le, mo, h, hk => by
    obtain ⟨k, rfl⟩ := rounds (show 0 < k by omega)
    simp only [tontineref11_Gap.l1, List.length_cons]
    rw [if_neg (by omega), List.drop_of_length_le (by rw [gapsL_length]; omega)]
    rfl
  | e + 1, i, k, le, mo, h, hk => by
    obtain ⟨k, rfl⟩ := rounds (show 0 < k by omega)
    have hg := gapsL_get p s.length p ps i (by omega)
    have hgm := gapsL_mem p s.length p ps hup (fun q hq => by have := hb q hq; have := hb p (by simp); omega) (Int.le_refl _) _ (List.mem_of_getElem? hg)
    have hil : i < (p :: ps).length := by simp; omega
    obtain ⟨q, hq⟩ : ∃ q, (p :: ps)[i]? = some q := ⟨_, List.getElem?_eq_getElem hil⟩
    have hqb := hb q (List.mem_of_getElem? hq)
    have hqd : (p :: ps).getD i 0 = q := by simp only [List.getD, hq, Option.getD_some]
    rw [hqd] at hg hgm
    have hgl : i < (gapsL p s.length p ps).length := by rw [gapsL_length]; omega
    rw [List.drop_eq_getElem_cons hgl]
    have hge : (gapsL p s.length p ps)[i] = (if i < ps.length then ps.getD i 0 else p + s.length) - q := by
      have := List.getElem?_eq_getElem hgl
      rw [hg] at this
      exact (Option.some.inj this).symm
    rw [hge]
    simp only [tontineref11_Gap.l1, List.foldl_cons]
    have hpl' : ((p :: ps).length : Int) = (ps.length : Int) + 1 := by simp
    rw [hpl', if_pos (by omega), if_neg (by omega), w64 (n := (i : Int) + 1) (by omega) (by omega)]
    by_cases c : i < ps.length
    · have e1 : Int.tmod ((i : Int) + 1) ((ps.length : Int) + 1) = ((i + 1 : Nat) : Int) := by
        rw [Int.tmod_eq_emod_of_nonneg (by omega), Int.emod_eq_of_lt (by omega) (by omega)]; omega
      obtain ⟨q2, hq2⟩ : ∃ q2, ps[i]? = some q2 := ⟨_, List.getElem?_eq_getElem c⟩
      have hq2b := hb q2 (by have := List.mem_of_getElem? hq2; simp [this])
      have hr : rd (p :: ps) ((i + 1 : Nat) : Int) = q2 := rd_get? (by simpa using hq2)
      have hgd : ps.getD i 0 = q2 := by simp only [List.getD, hq2, Option.getD_some]
      rw [if_pos c, hgd] at hgm ⊢
      rw [e1, hr, rd_get? hq, if_pos (by omega), if_pos (by omega), if_pos (by omega), w64 (n := q2 - q) (by omega) (by omega), if_neg (by omega), show (i : Int) + 1 = ((i + 1 : Nat) : Int) by omega]
      exact ref_run s p ps hs hup hb hpl e (i + 1) k _ _ (by omega) (by omega)
    · have e0 : i = ps.length := by omega
      have e1 : Int.tmod ((i : Int) + 1) ((ps.length : Int) + 1) = ((0 : Nat) : Int) := by
        rw [e0]; simp
      have hr : rd (p :: ps) ((0 : Nat) : Int) = p := rd_get? (by simp)
      have hpb := hb p (by simp)
      have hpq : p ≤ q := by
        cases i with
        | zero => simp at hq; omega
        | succ i =>
          have := (List.pairwise_cons.1 hup).1 q (List.mem_of_getElem? (by simpa using hq))
          omega
      rw [if_neg c] at hgm ⊢
      rw [e1, hr, rd_get? hq, if_pos (by omega), if_pos (by omega), if_pos (by omega), w64 (n := p - q) (by omega) (by omega), if_pos (by omega), w64 (n := p - q + (s.length : Int)) (by omega) (by omega), show (i : Int) + 1 = ((i + 1 : Nat) : Int) by omega, show p - q + (s.length : Int) = p + s.length - q by omega]
      exact ref_run s p ps hs hup hb hpl e (i + 1) k _ _ (by omega) (by omega)
theorem ref_gap (s : List Int) (d : Int) (k : Nat) (hs : s.length ≤ 1000) (hk : 5000 < k) : tontineref11_Gap.f k s d = some (gapOf s d) := by
  unfold tontineref11_Gap.f gapOf
  have := ref_pos s d (by omega) s.length 0 k [] (by omega) (by simp) (by omega)
  rw [show ((0 : Nat) : Int) = 0 from rfl, List.drop_zero, List.nil_append] at this
  rw [this]
  by_cases c : s.length > 64
  · rw [if_pos (.inr c), if_pos c]
  · rw [if_neg c]
    cases h : posOf d 0 s with
    | nil => simp
    | cons p ps =>
      rw [if_neg (by simp; omega)]
      have hup : (p :: ps).Pairwise (· < ·) := h ▸ posOf_up d s 0
      have hb : ∀ q ∈ p :: ps, 0 ≤ q ∧ q < s.length := fun q hq => by
        have := posOf_mem d s 0 q (h ▸ hq); omega
      have hpl : ps.length < 64 := by
        have h1 := posOf_length d s 0
        have h2 := List.length_filter_le (fun s => s == d) s
        rw [h, List.length_cons] at h1; omega
      have := ref_run s p ps (by omega) hup hb hpl (ps.length + 1) 0 (k - s.length - 2) ((s.length : Int) + 1) 0 (by omega) (by omega)
      rw [show ((0 : Nat) : Int) = 0 from rfl, List.drop_zero] at this
      rw [this]
      have hm := gapsL_mem p s.length p ps hup (fun q hq => by have := hb q hq; have := hb p (by simp); omega) (Int.le_refl _)
      cases hg : gapsL p s.length p ps with
      | nil => have := gapsL_length p s.length p ps; rw [hg] at this; simp at this
      | cons g r =>
        have := hm g (by rw [hg]; simp)
        simp only [hg, lmin, List.foldl_cons]
        rw [show mn ((s.length : Int) + 1) g = g by unfold mn; rw [if_pos (by omega)]]

/-! what is known of the least and the greatest -/
theorem mn_le (a b : Int) : mn a b ≤ a ∧ mn a b ≤ b ∧ (mn a b = a ∨ mn a b = b) := by unfold mn; split <;> omega
theorem mx_ge (a b : Int) : a ≤ mx a b ∧ b ≤ mx a b ∧ (mx a b = a ∨ mx a b = b) := by unfold mx; split <;> omega
theorem foldl_mn : ∀ (r : List Int) (a : Int), r.foldl mn a ≤ a ∧ (∀ g ∈ r, r.foldl mn a ≤ g) ∧ (r.foldl mn a = a ∨ r.foldl mn a ∈ r)
  | [], a => by simp
  | g :: r, a => by
    obtain ⟨h1, h2, h3⟩ := foldl_mn r (mn a g)
    obtain ⟨m1, m2, m3⟩ := mn_le a g
    simp only [List.foldl_cons]
    refine ⟨by omega, fun x hx => ?_, ?_⟩
    · rcases List.mem_cons.1 hx with rfl | hx
      · omega
      · exact h2 x hx
    · rcases h3 with h3 | h3
      · rcases m3 with m3 | m3
        · exact .inl (h3.trans m3)
        · exact .inr (by rw [h3, m3]; simp)
      · exact .inr (List.mem_cons_of_mem _ h3)
theorem foldl_mx : ∀ (r : List Int) (a : Int), a ≤ r.foldl mx a ∧ (∀ g ∈ r, g ≤ r.foldl mx a) ∧ (r.foldl mx a = a ∨ r.foldl mx a ∈ r)
  | [], a => by simp
  | g :: r, a => by
    obtain ⟨h1, h2, h3⟩ := foldl_mx r (mx a g)
    obtain ⟨m1, m2, m3⟩ := mx_ge a g
    simp only [List.foldl_cons]
    refine ⟨by omega, fun x hx => ?_, ?_⟩
    · rcases List.mem_cons.1 hx with rfl | hx
      · omega
      · exact h2 x hx
    · rcases h3 with h3 | h3
      · rcases m3 with m3 | m3
        · exact .inl (h3.trans m3)
        · exact .inr (by rw [h3, m3]; simp)
      · exact .inr (List.mem_cons_of_mem _ h3)
theorem sum_ge (a : Int) : ∀ (r : List Int), (∀ g ∈ r, a ≤ g) → a * (r.length : Int) ≤ r.sum
  | [], _ => by simp
  | g :: r, h => by
    have := sum_ge a r (fun x hx => h x (by simp [hx]))
    have := h g (by simp)
    simp only [List.length_cons, List.sum_cons, Int.natCast_add, Int.mul_add]
    omega
theorem sum_le (a : Int) : ∀ (r : List Int), (∀ g ∈ r, g ≤ a) → r.sum ≤ a * (r.length : Int)
  | [], _ => by simp
  | g :: r, h => by
    have := sum_le a r (fun x hx => h x (by simp [hx]))
    have := h g (by simp)
    simp only [List.length_cons, List.sum_cons, Int.natCast_add, Int.mul_add]
    omega
/-- The gaps of one that has c slots. -/
theorem gapOf_facts (s : List Int) (d : Int) (hs : s.length ≤ 64) (c : Nat) (hc : (s.filter fun x => x == d).length = c) (h0 : 0 < c) :
    1 ≤ (gapOf s d).1 ∧ (gapOf s d).2 ≤ s.length ∧ (gapOf s d).1 * c ≤ s.length ∧ (s.length : Int) ≤ (gapOf s d).2 * c ∧ (c = 1 → (gapOf s d).1 = s.length) ∧ 0 ≤ (gapOf s d).2 ∧ (gapOf s d).1 ≤ s.length := by
  have hl := posOf_length d s 0
  unfold gapOf
  rw [if_neg (by omega)]
  cases h : posOf d 0 s with
  | nil => rw [h, hc] at hl; simp at hl; omega
  | cons p ps =>
    simp only
    rw [h, hc, List.length_cons] at hl
    have hup : (p :: ps).Pairwise (· < ·) := h ▸ posOf_up d s 0
    have hb : ∀ q ∈ p :: ps, 0 ≤ q ∧ q < s.length := fun q hq => by
      have := posOf_mem d s 0 q (h ▸ hq); omega
    have hm := gapsL_mem p s.length p ps hup (fun q hq => by have := hb q hq; have := hb p (by simp); omega) (Int.le_refl _)
    have hsum := gapsL_sum p s.length p ps
    have hlen := gapsL_length p s.length p ps
    cases hg : gapsL p s.length p ps with
    | nil => rw [hg] at hlen; simp at hlen
    | cons g r =>
      rw [hg] at hm hsum hlen
      obtain ⟨a1, a2, a3⟩ := foldl_mn r g
      obtain ⟨b1, b2, b3⟩ := foldl_mx (g :: r) 0
      have hmin : ∀ x ∈ g :: r, lmin (g :: r) ≤ x := fun x hx => by
        rcases List.mem_cons.1 hx with rfl | hx
        · exact a1
        · exact a2 x hx
      have hmem : lmin (g :: r) ∈ g :: r := by
        rcases a3 with a3 | a3
        · show List.foldl mn g r ∈ _; rw [a3]; simp
        · exact List.mem_cons_of_mem _ a3
      have s1 := sum_ge _ _ hmin
      have s2 := sum_le _ _ b2
      have hcc : ((g :: r).length : Int) = c := by omega
      rw [hcc] at s1 s2
      have m1 := hm _ hmem
      have m2 : List.foldl mx 0 (g :: r) ≤ s.length := by
        rcases b3 with b3 | b3
        · rw [b3]; omega
        · exact (hm _ b3).2
      refine ⟨m1.1, m2, by omega, by omega, fun h1 => ?_, by omega, m1.2⟩
      clear s1 s2
      subst h1
      have : r = [] := List.eq_nil_of_length_eq_zero (by simp at hlen; omega)
      subst this
      simp only [List.sum_cons, List.sum_nil] at hsum
      simp only [lmin, List.foldl_nil]; omega
/-- All gaps alike. -/
theorem gapOf_alike (s : List Int) (d a : Int) (hs : s.length ≤ 64) (p : Int) (ps : List Int) (hp : posOf d 0 s = p :: ps) (ha : 0 ≤ a) (h : ∀ g ∈ gapsL p s.length p ps, g = a) : gapOf s d = (a, a) := by
  unfold gapOf
  rw [if_neg (by omega), hp]
  simp only
  cases hg : gapsL p s.length p ps with
  | nil => have := gapsL_length p s.length p ps; rw [hg] at this; simp at this
  | cons g r =>
    rw [hg] at h
    obtain ⟨a1, a2, a3⟩ := foldl_mn r g
    obtain ⟨b1, b2, b3⟩ := foldl_mx (g :: r) 0
    have e1 : lmin (g :: r) = a := by
      rcases a3 with a3 | a3
      · show List.foldl mn g r = a; rw [a3]; exact h g (by simp)
      · exact h _ (List.mem_cons_of_mem _ a3)
    have e2 : List.foldl mx 0 (g :: r) = a := by
      have h1 : a ≤ List.foldl mx 0 (g :: r) := by
        have h1 := b2 g (by simp)
        have h2 := h g (by simp)
        omega
      rcases b3 with b3 | b3
      · omega
      · exact h _ b3
    rw [e1, e2]
theorem gapOf_none (s : List Int) (d : Int) (h : (s.filter fun x => x == d).length = 0) : gapOf s d = (0, 0) := by
  have hl := posOf_length d s 0
  unfold gapOf
  split
  · rfl
  · cases hp : posOf d 0 s with
    | nil => rfl
    | cons p ps => rw [hp, h] at hl; simp at hl
end Go.Proofs.Ytgkhnmeemiloaaa
