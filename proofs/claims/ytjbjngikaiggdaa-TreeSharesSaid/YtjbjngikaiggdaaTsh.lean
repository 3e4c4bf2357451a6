/- TreeShares: its walk. Conditions: none. -/
import Derived.Test.YtjbjngikaiggdaaTwk
import Derived.Test.YtjbjngikaiggdaaTsl
import Derived.Test.YtjbjngikaiggdaaTss
set_option linter.unusedVariables false
set_option linter.unusedSimpArgs false
namespace Go.Proofs.Ytjbjngikaiggdaa
open Go.RowKit G
/-- While the threads come: groups 1, 2, so many threads; nothing has run. -/
structure ShI (x y : Int) (u : Nat) (N : List Nr) : Prop where
  wf : WFN N
  all : ∀ z ∈ N, z.id = 0 ∨ (z.id = 1 ∧ z.par = 0 ∧ z.wt = x ∧ z.thr = false) ∨ (z.id = 2 ∧ z.par = 0 ∧ z.wt = y ∧ z.thr = false) ∨ ∃ j : Nat, j < u ∧ z.id = 10 + (j : Int) ∧ z.par = 1 + ((j % 2 : Nat) : Int) ∧ z.thr = true ∧ z.rdy = true
  one : ∃ z ∈ N, z.id = 1
  two : ∃ z ∈ N, z.id = 2
  has : ∀ j : Nat, j < u → ∃ z ∈ N, z.id = 10 + (j : Int)
  zero : ∀ z ∈ N, z.pass = 0 ∧ z.now = 0
  len : N.length = 3 + u
theorem ShI.add {x y : Int} {u : Nat} {N : List Nr} (h : ShI x y u N) (hu : u < 8) {w : Int} (hw : isW w = true) : ∃ N1 N2, addN N (1 + ((u % 2 : Nat) : Int)) (10 + (u : Int)) w true = (0, N1) ∧ readyN N1 (10 + (u : Int)) true = (0, N2) ∧ (WFN N2 → ShI x y (u + 1) N2) := by
  have hg : ∃ p ∈ N, p.id = 1 + ((u % 2 : Nat) : Int) := by
    have : u % 2 = 0 ∨ u % 2 = 1 := by omega
    rcases this with e | e <;> rw [e]
    · exact h.one
    · exact h.two
  obtain ⟨p, hp, hpi⟩ := hg
  have hpt : p.thr = false := by
    rcases h.all p hp with h1 | h1 | h1 | ⟨j, _, h1, _⟩
    · omega
    · exact h1.2.2.2
    · exact h1.2.2.2
    · omega
  have hno : ∀ z ∈ N, z.id ≠ 10 + (u : Int) := fun z hz e => by
    rcases h.all z hz with h1 | h1 | h1 | ⟨j, hj, h1, _⟩ <;> omega
  have hA := addN_is (N := N) (par := 1 + ((u % 2 : Nat) : Int)) (id := 10 + (u : Int)) (wt := w) (thr := true) (p := p) hw (by omega) (hpi ▸ gt_of h.wf.sk.nd hp) hpt (gt_none.2 hno) (.inl rfl) (by rw [h.len]; omega)
  rw [(h.zero p hp).2] at hA
  have hw1 : WFN (N ++ [⟨10 + (u : Int), 1 + ((u % 2 : Nat) : Int), w, 0, true, false, 0⟩]) := by
    have := add_wf h.wf (1 + ((u % 2 : Nat) : Int)) (10 + (u : Int)) w true
    rw [hA] at this; exact this
  have hm : ∀ z, z ∈ N ++ [⟨10 + (u : Int), 1 + ((u % 2 : Nat) : Int), w, 0, true, false, 0⟩] ↔ z ∈ N ∨ z = ⟨10 + (u : Int), 1 + ((u % 2 : Nat) : Int), w, 0, true, false, 0⟩ := fun z => by simp
  have hgn : gt (N ++ [⟨10 + (u : Int), 1 + ((u % 2 : Nat) : Int), w, 0, true, false, 0⟩]) (10 + (u : Int)) = some ⟨10 + (u : Int), 1 + ((u % 2 : Nat) : Int), w, 0, true, false, 0⟩ := gt_of hw1.sk.nd ((hm _).2 (.inr rfl))
  obtain ⟨g, hk, he, hr⟩ := wake_wk 6 (N ++ [⟨10 + (u : Int), 1 + ((u % 2 : Nat) : Int), w, 0, true, false, 0⟩]) (10 + (u : Int))
  refine ⟨_, _, hA, by rw [readyN, hgn]; simp only [if_true]; rfl, fun hw2 => ?_⟩
  rw [he] at hw2 ⊢
  have hz0 : ∀ z ∈ N ++ [⟨10 + (u : Int), 1 + ((u % 2 : Nat) : Int), w, 0, true, false, 0⟩], z.pass = 0 ∧ z.now = 0 := fun z hz => by
    rcases (hm z).1 hz with hz | rfl
    · exact h.zero z hz
    · exact ⟨rfl, rfl⟩
  refine ⟨hw2, fun z hz => ?_, ?_, ?_, fun j hj => ?_, fun z hz => ?_, by rw [List.length_map, List.length_append, h.len]; simp; omega⟩
  · obtain ⟨v, hv, rfl⟩ := List.mem_map.1 hz
    rw [hk.sk.id, hk.sk.par, hk.sk.thr, (hk.wt v).1]
    rcases (hm v).1 hv with hv' | rfl
    · rcases h.all v hv' with h1 | h1 | h1 | ⟨j, hj, h1, h2, h3, h4⟩
      · exact .inl h1
      · exact .inr (.inl h1)
      · exact .inr (.inr (.inl h1))
      · exact .inr (.inr (.inr ⟨j, by omega, h1, h2, h3, hk.rdy v h4⟩))
    · exact .inr (.inr (.inr ⟨u, by omega, rfl, rfl, rfl, hr (by omega) _ hv hw1.sk.nd rfl⟩))
  · obtain ⟨z, hz, e⟩ := h.one; exact ⟨g z, List.mem_map.2 ⟨z, (hm z).2 (.inl hz), rfl⟩, by rw [hk.sk.id, e]⟩
  · obtain ⟨z, hz, e⟩ := h.two; exact ⟨g z, List.mem_map.2 ⟨z, (hm z).2 (.inl hz), rfl⟩, by rw [hk.sk.id, e]⟩
  · by_cases c : j = u
    · subst c; exact ⟨_, List.mem_map.2 ⟨_, (hm _).2 (.inr rfl), rfl⟩, hk.sk.id _⟩
    · obtain ⟨z, hz, e⟩ := h.has j (by omega)
      exact ⟨g z, List.mem_map.2 ⟨z, (hm z).2 (.inl hz), rfl⟩, by rw [hk.sk.id, e]⟩
  · obtain ⟨v, hv, rfl⟩ := List.mem_map.1 hz
    exact ⟨hk.zero hz0 v hv, by rw [(hk.wt v).2]; exact (hz0 v hv).2⟩
/-- All are there, and ready. -/
structure ShJ (x y : Int) (m : Nat) (S : SR) : Prop where
  all : ∀ s ∈ S, (s.1 = 0 ∧ s.2.1 = -1) ∨ (s.1 = 1 ∧ s.2.1 = 0 ∧ s.2.2.1 = x ∧ s.2.2.2.1 = false) ∨ (s.1 = 2 ∧ s.2.1 = 0 ∧ s.2.2.1 = y ∧ s.2.2.2.1 = false) ∨ ∃ j : Nat, j < m ∧ s.1 = 10 + (j : Int) ∧ s.2.1 = 1 + ((j % 2 : Nat) : Int)
  r0 : (0, -1, 1, false, true) ∈ S ∨ ∃ w, (0, -1, w, false, true) ∈ S
  r1 : (1, 0, x, false, true) ∈ S
  r2 : (2, 0, y, false, true) ∈ S
theorem ShI.done {x y : Int} {m : Nat} {N : List Nr} (h : ShI x y m N) (hm : 2 ≤ m) : ShJ x y m (N.map skr) := by
  obtain ⟨z1, hz1, e1⟩ := h.one
  obtain ⟨z2, hz2, e2⟩ := h.two
  obtain ⟨r, hr, e0⟩ := h.wf.sk.root
  obtain ⟨a, ha, ea⟩ := h.has 0 (by omega)
  obtain ⟨b, hb, eb⟩ := h.has 1 (by omega)
  have f1 : z1.par = 0 ∧ z1.wt = x ∧ z1.thr = false := by rcases h.all z1 hz1 with h1 | h1 | h1 | ⟨j, _, h1, _⟩ <;> first | omega | exact h1.2
  have f2 : z2.par = 0 ∧ z2.wt = y ∧ z2.thr = false := by rcases h.all z2 hz2 with h1 | h1 | h1 | ⟨j, _, h1, _⟩ <;> first | omega | exact h1.2
  have fa : a.par = 1 ∧ a.rdy = true := by
    rcases h.all a ha with h1 | h1 | h1 | ⟨j, _, h1, h2, _, h4⟩
    · omega
    · omega
    · omega
    · have : j = 0 := by omega
      subst this; exact ⟨h2, h4⟩
  have fb : b.par = 2 ∧ b.rdy = true := by
    rcases h.all b hb with h1 | h1 | h1 | ⟨j, _, h1, h2, _, h4⟩
    · omega
    · omega
    · omega
    · have : j = 1 := by omega
      subst this; exact ⟨h2, h4⟩
  have g1 : z1.rdy = true := (h.wf.rd z1 hz1 f1.2.2).2 ⟨a, ha, by rw [fa.1, e1], fa.2⟩
  have g2 : z2.rdy = true := (h.wf.rd z2 hz2 f2.2.2).2 ⟨b, hb, by rw [fb.1, e2], fb.2⟩
  have hrt := h.wf.sk.rt r hr e0
  have g0 : r.rdy = true := (h.wf.rd r hr hrt.2).2 ⟨z1, hz1, by rw [f1.1, e0], g1⟩
  refine ⟨fun s hs => ?_, .inr ⟨r.wt, List.mem_map.2 ⟨r, hr, by simp [skr, e0, hrt.1, hrt.2, g0]⟩⟩, List.mem_map.2 ⟨z1, hz1, by simp [skr, e1, f1.1, f1.2.1, f1.2.2, g1]⟩, List.mem_map.2 ⟨z2, hz2, by simp [skr, e2, f2.1, f2.2.1, f2.2.2, g2]⟩⟩
  obtain ⟨z, hz, rfl⟩ := List.mem_map.1 hs
  rcases h.all z hz with h1 | h1 | h1 | ⟨j, hj, h1, h2, _⟩
  · exact .inl ⟨h1, (h.wf.sk.rt z hz h1).1⟩
  · exact .inr (.inl h1)
  · exact .inr (.inr (.inl h1))
  · exact .inr (.inr (.inr ⟨j, hj, h1, h2⟩))
theorem sh_run {N : List Nr} {x y : Int} {m : Nat} {S : SR} (hw : WFN N) (h : N.map skr = S) (hJ : ShJ x y m S) : ∃ (j : Nat) (N' : List Nr), j < m ∧ runN N = ((10 + (j : Int), true), N') ∧ WFN N' ∧ N'.map skr = S ∧
    ps N' 1 - ps N' 2 = ps N 1 - ps N 2 + (if j % 2 = 0 then strd x else 0) - (if j % 2 = 0 then 0 else strd y) := by
  obtain ⟨w, h0⟩ : ∃ w, (0, -1, w, false, true) ∈ S := by rcases hJ.r0 with h | h; exact ⟨1, h⟩; exact h
  obtain ⟨r0, hr0, hr1, _, _, _, hr5⟩ := skr_get h h0
  obtain ⟨v, id, N', h1, h2, h3, hv, hvp, hvr, ⟨t, ht, hti, htt, _⟩, hb, δ, hd⟩ := run_ps hw hr0 hr1 hr5
  obtain ⟨z1, hz1, e1, p1, _, _, rd1⟩ := skr_get h hJ.r1
  obtain ⟨z2, hz2, e2, p2, _, _, rd2⟩ := skr_get h hJ.r2
  have hvid : (v.id = 1 ∧ v.wt = x) ∨ (v.id = 2 ∧ v.wt = y) := by
    rcases hJ.all _ (skr_mem h hv) with h | h | h | ⟨j, _, h, h'⟩ <;> simp only at *
    · omega
    · exact .inl ⟨h.1, h.2.2.1⟩
    · exact .inr ⟨h.1, h.2.2.1⟩
    · omega
  have hidj : ∃ j : Nat, j < m ∧ id = 10 + (j : Int) ∧ 1 + ((j % 2 : Nat) : Int) = v.id := by
    cases hb with
    | refl =>
      exfalso
      have := skr_mem h ht
      rcases hJ.all _ this with h | h | h | ⟨j, _, h, _⟩ <;> simp only at *
      · omega
      · rw [htt] at h; simp at h
      · rw [htt] at h; simp at h
      · omega
    | step hq hqp hqb =>
      rename_i q
      rcases hJ.all _ (skr_mem h hq) with h4 | h4 | h4 | ⟨j, hj, h4, h5⟩ <;> simp only at *
      · omega
      · omega
      · omega
      · have : id = q.id := bel_leaf hqb fun z hz e => by
          rcases hJ.all _ (skr_mem h hz) with h6 | h6 | h6 | ⟨i, _, h6, h7⟩ <;> simp only at * <;> omega
        exact ⟨j, hj, by rw [this, h4], by rw [← hqp, h5]⟩
  obtain ⟨j, hj, hid, hjv⟩ := hidj
  subst hid
  refine ⟨j, N', hj, h1, h2, h3.trans h, ?_⟩
  have d1 := hd z1 hz1 p1 rd1
  have d2 := hd z2 hz2 p2 rd2
  rw [e1] at d1
  rw [e2] at d2
  rw [d1, d2]
  rcases hvid with ⟨h4, h5⟩ | ⟨h4, h5⟩ <;> rw [h4, h5] <;> (have hm2 : j % 2 = 0 ∨ j % 2 = 1 := by omega) <;> rcases hm2 with h6 | h6 <;> rw [h6] at hjv ⊢ <;> simp at * <;> omega
theorem sh_in {N : List Nr} {x y : Int} {m : Nat} {S : SR} (hw : WFN N) (h : N.map skr = S) (hJ : ShJ x y m S) : ps N 1 - ps N 2 ≤ strd x ∧ ps N 2 - ps N 1 ≤ strd y := by
  obtain ⟨w, h0⟩ : ∃ w, (0, -1, w, false, true) ∈ S := by rcases hJ.r0 with h | h; exact ⟨1, h⟩; exact h
  obtain ⟨r0, hr0, hr1, _⟩ := skr_get h h0
  obtain ⟨z1, hz1, e1, p1, w1, _, rd1⟩ := skr_get h hJ.r1
  obtain ⟨z2, hz2, e2, p2, w2, _, rd2⟩ := skr_get h hJ.r2
  have := two_in hw hz1 hz2 hr0 (by omega) (by omega) rd1 rd2
  rw [e1, e2, w1, w2] at this
  exact this
def shN2 (x y : Int) : List Nr := [rootN, ⟨1, 0, x, 0, false, false, 0⟩, ⟨2, 0, y, 0, false, false, 0⟩]
theorem shN2_I {x y : Int} (hw : WFN (shN2 x y)) : ShI x y 0 (shN2 x y) := by
  refine ⟨hw, fun z hz => ?_, ⟨_, by simp [shN2]; right; left; rfl, rfl⟩, ⟨_, by simp [shN2]; right; right; rfl, rfl⟩, fun j hj => by omega, fun z hz => ?_, rfl⟩
  · simp only [shN2, List.mem_cons, List.not_mem_nil, or_false] at hz
    rcases hz with rfl | rfl | rfl
    · exact .inl rfl
    · exact .inr (.inl ⟨rfl, rfl, rfl, rfl⟩)
    · exact .inr (.inr (.inl ⟨rfl, rfl, rfl, rfl⟩))
  · simp only [shN2, List.mem_cons, List.not_mem_nil, or_false] at hz
    rcases hz with rfl | rfl | rfl <;> exact ⟨rfl, rfl⟩
set_option maxHeartbeats 1000000 in
set_option maxRecDepth 100000 in
theorem tshares_walk (H : List SP) (s : SV Int) (a b n : Int) (ha : 0 ≤ a ∧ a < 256) (hb : 0 ≤ b ∧ b < 256) (hn : 0 ≤ n ∧ n < 65536) (hk : KR H (kE .u8) s) (hw8 : ∀ x ∈ s.l, 0 ≤ x ∧ x < 256) : ∀ w, Sat w H → Calls Try.prog 3 #[.int .u8 a, .int .u8 b, .slice s.a s.l.length s.c, .int .u16 n] w (Ret (ι := Unit) (fun _ => .bool true) fun _ => H) := by
  have hx := wOf_isW ha.1
  have hy := wOf_isW hb.1
  obtain ⟨x, hxe⟩ : ∃ x, wOf a = x := ⟨_, rfl⟩
  obtain ⟨y, hye⟩ : ∃ y, wOf b = y := ⟨_, rfl⟩
  rw [hxe] at hx
  rw [hye] at hy
  have hnm := tmod_range hn.1 (m := 300) (by omega)
  have hA1 : addN [rootN] 0 1 x false = (0, [rootN, ⟨1, 0, x, 0, false, false, 0⟩]) := addN_is (p := rootN) hx (by omega) rfl rfl rfl (.inr (by decide)) (by decide)
  have hA2 : addN [rootN, ⟨1, 0, x, 0, false, false, 0⟩] 0 2 y false = (0, shN2 x y) := addN_is (p := rootN) hy (by omega) rfl rfl rfl (.inr (by rw [show deepN 6 [rootN, ⟨1, 0, x, 0, false, false, 0⟩] 0 = 1 by kernel_rfl]; decide)) (by simp)
  have w1 := add_wf root_wf 0 1 x false
  rw [hA1] at w1
  have w2 := add_wf w1 0 2 y false
  rw [hA2] at w2
  refine enterG (fn := Try.f3) 117 [.int .u8 a, .int .u8 b, .slice s.a s.l.length s.c, .int .u16 n] Try.func3 (by kernel_rfl) (by kernel_rfl) (by kernel_rfl) ?_
  refine seqR (by kernel_rfl) ?_
  refine regionR 1 (by kernel_rfl) (by kernel_rfl) ?_
  refine (run0 (z := 0) 1 [0, 1, 2, 3, 8] [(0, .int .u8 a), (1, .int .u8 b), (2, .slice s.a s.l.length s.c), (3, .int .u16 n), (8, .bool false)] (fun _ => by kernel_rfl) (endR ?_) : RT _ _ _ _ _ _ 1 _)
  refine seqR (by kernel_rfl) ?_
  refine seqR (by kernel_rfl) ?_
  refine regionR 2 (by kernel_rfl) (by kernel_rfl) ?_
  refine (stepR (z := 1) (callS 9 [] (some 18) (fun _ => .bool true) (fun (_ : Unit) => (H)) (fun _ => by kernel_rfl) (known_true _)) (fun _ => ?_) : RT _ _ _ _ _ _ 2 _)
  refine (run0 (z := 0) 1 [0, 1, 2, 3, 8, 19] [(0, .int .u8 a), (1, .int .u8 b), (2, .slice s.a s.l.length s.c), (3, .int .u16 n), (8, .bool false), (19, .bool false)] (fun _ => by kernel_rfl) (endR ?_) : RT _ _ _ _ _ _ 1 _)
  refine condR (b := false) (by kernel_rfl) (fun _ => by kernel_rfl) (fun h => by cases h) (fun _ => ?_)
  refine skipR (by kernel_rfl) ?_
  refine seqR (by kernel_rfl) ?_
  refine seqR (by kernel_rfl) ?_
  refine regionR 8 (by kernel_rfl) (by kernel_rfl) ?_
  refine (run0 (z := 4) 4 [0, 1, 2, 3, 8, 23] [(0, .int .u8 a), (1, .int .u8 b), (2, .slice s.a s.l.length s.c), (3, .int .u16 n), (8, .bool false), (23, .bool (decide ((s.l.length : Int) < 2)))] (fun _ => by kernel_rfl) ?_ : RT _ _ _ _ _ _ 8 _)
  refine (segR (ι := Unit) (z := 0) 4 (fun _ => [(0, .int .u8 a), (1, .int .u8 b), (2, .slice s.a s.l.length s.c), (3, .int .u16 n), (8, .bool false), (27, .bool ((decide ((s.l.length : Int) < 2)) || (decide ((s.l.length : Int) > 8))))]) (fun _ => (H)) ?_ (fun _ => ?_) : RT _ _ _ _ _ _ 4 _)
  · cases hg4 : (decide ((s.l.length : Int) < 2)) with
    | true =>
      refine (run0 (z := 0) 4 [0, 1, 2, 3, 8, 27] [(0, .int .u8 a), (1, .int .u8 b), (2, .slice s.a s.l.length s.c), (3, .int .u16 n), (8, .bool false), (27, .bool true)] (fun _ => by kernel_rfl) (endR ?_) : RT _ _ _ _ _ _ 4 _)
      refine PT.keep (L' := [(0, .int .u8 a), (1, .int .u8 b), (2, .slice s.a s.l.length s.c), (3, .int .u16 n), (8, .bool false), (27, .bool (true || (decide ((s.l.length : Int) > 8))))]) [0, 1, 2, 3, 8, 27] rfl ?_
      exact midR () rfl rfl
    | false =>
      refine (run0 (z := 0) 4 [0, 1, 2, 3, 8, 27] [(0, .int .u8 a), (1, .int .u8 b), (2, .slice s.a s.l.length s.c), (3, .int .u16 n), (8, .bool false), (27, .bool (decide ((s.l.length : Int) > 8)))] (fun _ => by kernel_rfl) (endR ?_) : RT _ _ _ _ _ _ 4 _)
      refine PT.keep (L' := [(0, .int .u8 a), (1, .int .u8 b), (2, .slice s.a s.l.length s.c), (3, .int .u16 n), (8, .bool false), (27, .bool (false || (decide ((s.l.length : Int) > 8))))]) [0, 1, 2, 3, 8, 27] rfl ?_
      exact midR () rfl rfl
  refine endR ?_
  refine condR (b := (decide ((s.l.length : Int) < 2)) || (decide ((s.l.length : Int) > 8))) (by kernel_rfl) (fun _ => by kernel_rfl) (fun h0 => ?_) (fun h0 => ?_)
  · skip
    refine seqR (by kernel_rfl) ?_
    refine regionR 1 (by kernel_rfl) (by kernel_rfl) ?_
    refine (run0 (z := 0) 1 [0, 1, 2, 3, 8] [(0, .int .u8 a), (1, .int .u8 b), (2, .slice s.a s.l.length s.c), (3, .int .u16 n), (8, .bool true)] (fun _ => by kernel_rfl) (endR ?_) : RT _ _ _ _ _ _ 1 _)
    refine retR (by kernel_rfl) ?_
    refine thenV ?_
    refine done0 (.bool true) (fun _ => by kernel_rfl) (fun w hs => ?_) .ret (.inr rfl)
    exact ⟨(), rfl, hs⟩
  · skip
    have hl : 2 ≤ s.l.length ∧ s.l.length ≤ 8 := by simp only [Bool.or_eq_false_iff, decide_eq_false_iff_not] at h0; omega
    refine skipR (by kernel_rfl) ?_
    refine seqR (by kernel_rfl) ?_
    refine regionR 10 (by kernel_rfl) (by kernel_rfl) ?_
    refine (run0 (z := 0) 10 [2, 3, 8, 9, 10] [(2, .slice s.a s.l.length s.c), (3, .int .u16 n), (8, .bool false), (9, .int .i64 (IntKind.i64.wrap ((IntKind.i64.wrap (Int.tmod a 16)) + 1))), (10, .int .i64 (IntKind.i64.wrap ((IntKind.i64.wrap (Int.tmod b 16)) + 1)))] (fun _ => by kernel_rfl) (endR ?_) : RT _ _ _ _ _ _ 10 _)
    refine seqR (by kernel_rfl) ?_
    refine regionR 2 (by kernel_rfl) (by kernel_rfl) ?_
    rw [show IntKind.i64.wrap ((IntKind.i64.wrap (Int.tmod a 16)) + 1) = x by rw [wOf_wrap ha.1, hxe]]
    rw [show IntKind.i64.wrap ((IntKind.i64.wrap (Int.tmod b 16)) + 1) = y by rw [wOf_wrap hb.1, hye]]
    refine (stepR (z := 1) (callS 10 [] (some 36) (fun (t : Nat) => .pointer (some ⟨t, 0, none⟩)) (fun (t : Nat) => (treeS t [rootN] :: H)) (fun _ => by kernel_rfl) (trNew _)) (fun (t : Nat) => ?_) : RT _ _ _ _ _ _ 2 _)
    refine (run0 (z := 0) 1 [2, 3, 8, 9, 10, 11] [(2, .slice s.a s.l.length s.c), (3, .int .u16 n), (8, .bool false), (9, .int .i64 x), (10, .int .i64 y), (11, .pointer (some ⟨t, 0, none⟩))] (fun _ => by kernel_rfl) (endR ?_) : RT _ _ _ _ _ _ 1 _)
    refine seqR (by kernel_rfl) ?_
    refine seqR (by kernel_rfl) ?_
    refine regionR 10 (by kernel_rfl) (by kernel_rfl) ?_
    refine (run0 (z := 8) 2 [2, 3, 8, 9, 10, 11, 37, 38] [(2, .slice s.a s.l.length s.c), (3, .int .u16 n), (8, .bool false), (9, .int .i64 x), (10, .int .i64 y), (11, .pointer (some ⟨t, 0, none⟩)), (37, .pointer (some ⟨t, 0, none⟩)), (38, .int .i64 x)] (fun _ => by kernel_rfl) ?_ : RT _ _ _ _ _ _ 10 _)
    refine (stepR (z := 7) (callS 11 [.pointer (some ⟨t, 0, none⟩), .int .i64 0, .int .i64 1, .int .i64 x, .bool false] (some 39) (fun _ => .nilIface) (fun _ => (treeS t [rootN, ⟨1, 0, x, 0, false, false, 0⟩] :: H)) (fun _ => by kernel_rfl) (trAdd_ok _ t hA1)) (fun _ => ?_) : RT _ _ _ _ _ _ 8 _)
    refine (run0 (z := 3) 4 [2, 3, 8, 9, 10, 11, 41, 42, 43] [(2, .slice s.a s.l.length s.c), (3, .int .u16 n), (8, .bool false), (9, .int .i64 x), (10, .int .i64 y), (11, .pointer (some ⟨t, 0, none⟩)), (41, .bool false), (42, .pointer (some ⟨t, 0, none⟩)), (43, .int .i64 y)] (fun _ => by kernel_rfl) ?_ : RT _ _ _ _ _ _ 7 _)
    refine (stepR (z := 2) (callS 11 [.pointer (some ⟨t, 0, none⟩), .int .i64 0, .int .i64 2, .int .i64 y, .bool false] (some 44) (fun _ => .nilIface) (fun _ => (treeS t (shN2 x y) :: H)) (fun _ => by kernel_rfl) (trAdd_ok _ t hA2)) (fun _ => ?_) : RT _ _ _ _ _ _ 3 _)
    refine (run0 (z := 0) 2 [2, 3, 8, 9, 10, 11, 46] [(2, .slice s.a s.l.length s.c), (3, .int .u16 n), (8, .bool false), (9, .int .i64 x), (10, .int .i64 y), (11, .pointer (some ⟨t, 0, none⟩)), (46, .bool false)] (fun _ => by kernel_rfl) (endR ?_) : RT _ _ _ _ _ _ 2 _)
    refine condR (b := false) (by kernel_rfl) (fun _ => by kernel_rfl) (fun h => by cases h) (fun _ => ?_)
    refine skipR (by kernel_rfl) ?_
    refine seqR (by kernel_rfl) ?_
    refine seqR (by kernel_rfl) ?_
    refine regionR 1 (by kernel_rfl) (by kernel_rfl) ?_
    refine (run0 (z := 0) 1 [2, 3, 8, 9, 10, 11, 12] [(2, .slice s.a s.l.length s.c), (3, .int .u16 n), (8, .bool false), (9, .int .i64 x), (10, .int .i64 y), (11, .pointer (some ⟨t, 0, none⟩)), (12, .int .i64 0)] (fun _ => by kernel_rfl) (endR ?_) : RT _ _ _ _ _ _ 1 _)
    refine blockR 0 (by kernel_rfl) (by kernel_rfl) ?_
    refine PT.keep (L' := [(2, .slice s.a s.l.length s.c), (3, .int .u16 n), (9, .int .i64 x), (10, .int .i64 y), (11, .pointer (some ⟨t, 0, none⟩)), (12, .int .i64 0)]) [2, 3, 9, 10, 11, 12] rfl ?_
    refine loopG (fun (q : List Nr × Nat) => [(2, .slice s.a s.l.length s.c), (3, .int .u16 n), (9, .int .i64 x), (10, .int .i64 y), (11, .pointer (some ⟨t, 0, none⟩)), (12, .int .i64 (q.2 : Int))]) (fun (q : List Nr × Nat) => (treeS t q.1 :: H)) (fun k (q : List Nr × Nat) => (k : Int) + q.2 = s.l.length ∧ ShI x y q.2 q.1) s.l.length (shN2 x y, 0) (by kernel_rfl) ⟨by simp, shN2_I w2⟩ ?_
    rintro k ⟨N, u⟩ ⟨hku, hI⟩
    simp only at hku hI
    refine seqR (by kernel_rfl) ?_
    refine seqR (by kernel_rfl) ?_
    refine regionR 4 (by kernel_rfl) (by kernel_rfl) ?_
    refine (run0 (z := 0) 4 [2, 3, 9, 10, 11, 12, 50] [(2, .slice s.a s.l.length s.c), (3, .int .u16 n), (9, .int .i64 x), (10, .int .i64 y), (11, .pointer (some ⟨t, 0, none⟩)), (12, .int .i64 (u : Int)), (50, .bool (decide ((u : Int) < (s.l.length : Int))))] (fun _ => by kernel_rfl) (endR ?_) : RT _ _ _ _ _ _ 4 _)
    refine condR (b := decide ((u : Int) < (s.l.length : Int))) (by kernel_rfl) (fun _ => by kernel_rfl) (fun h1 => ?_) (fun h1 => ?_)
    · skip
      have hu : u < s.l.length := by have := of_decide_eq_true h1; omega
      obtain ⟨v, hv⟩ : ∃ v, s.l[u]? = some v := ⟨_, List.getElem?_eq_getElem hu⟩
      have hvb := hw8 v (List.mem_of_getElem? hv)
      obtain ⟨N1, N2, hA, hR, hI2⟩ := hI.add (by omega) (wOf_isW hvb.1)
      have v1 := add_wf hI.wf (1 + ((u % 2 : Nat) : Int)) (10 + (u : Int)) (wOf v) true
      rw [hA] at v1
      have v2 := ready_wf v1 (10 + (u : Int)) true
      rw [hR] at v2
      refine skipR (by kernel_rfl) ?_
      refine seqR (by kernel_rfl) ?_
      refine blockR 1 (by kernel_rfl) (by kernel_rfl) ?_
      refine seqR (by kernel_rfl) ?_
      refine regionR 4 (by kernel_rfl) (by kernel_rfl) ?_
      refine (run0 (z := 0) 4 [2, 3, 9, 10, 11, 12, 13] [(2, .slice s.a s.l.length s.c), (3, .int .u16 n), (9, .int .i64 x), (10, .int .i64 y), (11, .pointer (some ⟨t, 0, none⟩)), (12, .int .i64 (u : Int)), (13, .int .i64 (IntKind.i64.wrap (1 + (Int.tmod (u : Int) 2))))] (fun _ => by kernel_rfl) (endR ?_) : RT _ _ _ _ _ _ 4 _)
      refine seqR (by kernel_rfl) ?_
      refine regionR 20 (by kernel_rfl) (by kernel_rfl) ?_
      refine (run0 (z := 14) 6 [2, 3, 9, 10, 11, 12, 56, 57, 59, 60, 61] [(2, .slice s.a s.l.length s.c), (3, .int .u16 n), (9, .int .i64 x), (10, .int .i64 y), (11, .pointer (some ⟨t, 0, none⟩)), (12, .int .i64 (u : Int)), (56, .pointer (some ⟨t, 0, none⟩)), (57, .int .i64 (IntKind.i64.wrap (1 + (Int.tmod (u : Int) 2)))), (59, .int .i64 (IntKind.i64.wrap (10 + (u : Int)))), (60, .slice s.a s.l.length s.c), (61, .int .i64 (u : Int))] (fun _ => by kernel_rfl) ?_ : RT _ _ _ _ _ _ 20 _)
      rw [show (Int.tmod (u : Int) 2) = ((u % 2 : Nat) : Int) by rw [Int.tmod_eq_emod_of_nonneg (by omega)]; omega]
      rw [show IntKind.i64.wrap (1 + ((u % 2 : Nat) : Int)) = (1 + ((u % 2 : Nat) : Int)) by rw [w64 (by omega) (by omega)]]
      rw [show IntKind.i64.wrap (10 + (u : Int)) = (10 + (u : Int)) by rw [w64 (by omega) (by omega)]]
      refine PT.know ((hk).up.isSome (List.ne_nil_of_length_pos (by omega))) ?_
      rintro ⟨sb, so, hA'⟩
      try rw [hA']
      refine (stepR (z := 13) (yldS (idxY 22 (.tmp 60) (.tmp 61) sb so s.l.length s.c u 1 5 (u : Int) .i64 (some 62) (fun _ => by kernel_rfl) (by kernel_rfl) (by kernel_rfl) (fun _ => by kernel_rfl) (fun _ => by kernel_rfl) Try.underlying22 (by kernel_rfl) (by first | rfl | assumption | simp) (by first | omega | (simp; done) | (simp; omega) | (simp at *; omega)))) (fun _ => ?_) : RT _ _ _ _ _ _ 14 _)
      refine (runR (H := (treeS t N :: H)) (z := 9) 4 [2, 3, 9, 10, 11, 12, 56, 57, 59, 66] [(2, .slice (some ⟨sb, so, none⟩) s.l.length s.c), (3, .int .u16 n), (9, .int .i64 x), (10, .int .i64 y), (11, .pointer (some ⟨t, 0, none⟩)), (12, .int .i64 (u : Int)), (56, .pointer (some ⟨t, 0, none⟩)), (57, .int .i64 (1 + ((u % 2 : Nat) : Int))), (59, .int .i64 (10 + (u : Int))), (66, .int .i64 (IntKind.i64.wrap ((IntKind.i64.wrap (Int.tmod v 16)) + 1)))] [(⟨sb, so + u * 1, none⟩, .int .u8 v)] (hasC (up (hk.cell hA' (i := u) (x := v) hv (j := 0) rfl)) has0) (fun _ => by kernel_rfl) ?_ : RT _ _ _ _ _ _ 13 _)
      try rw [← hA']
      rw [show IntKind.i64.wrap ((IntKind.i64.wrap (Int.tmod v 16)) + 1) = (wOf v) by rw [wOf_wrap hvb.1]]
      refine (stepR (z := 8) (callS 11 [.pointer (some ⟨t, 0, none⟩), .int .i64 (1 + ((u % 2 : Nat) : Int)), .int .i64 (10 + (u : Int)), .int .i64 (wOf v), .bool true] (some 67) (fun _ => .nilIface) (fun _ => (treeS t N1 :: H)) (fun _ => by kernel_rfl) (trAdd_ok _ t hA)) (fun _ => ?_) : RT _ _ _ _ _ _ 9 _)
      refine (run0 (z := 3) 5 [2, 3, 9, 10, 11, 12, 69, 70, 72] [(2, .slice s.a s.l.length s.c), (3, .int .u16 n), (9, .int .i64 x), (10, .int .i64 y), (11, .pointer (some ⟨t, 0, none⟩)), (12, .int .i64 (u : Int)), (69, .bool false), (70, .pointer (some ⟨t, 0, none⟩)), (72, .int .i64 (IntKind.i64.wrap (10 + (u : Int))))] (fun _ => by kernel_rfl) ?_ : RT _ _ _ _ _ _ 8 _)
      rw [show IntKind.i64.wrap (10 + (u : Int)) = (10 + (u : Int)) by rw [w64 (by omega) (by omega)]]
      refine (stepR (z := 2) (callS 12 [.pointer (some ⟨t, 0, none⟩), .int .i64 (10 + (u : Int)), .bool true] (some 73) (fun _ => .nilIface) (fun _ => (treeS t N2 :: H)) (fun _ => by kernel_rfl) (trReady_ok _ t hR)) (fun _ => ?_) : RT _ _ _ _ _ _ 3 _)
      refine (run0 (z := 0) 2 [2, 3, 9, 10, 11, 12, 75] [(2, .slice s.a s.l.length s.c), (3, .int .u16 n), (9, .int .i64 x), (10, .int .i64 y), (11, .pointer (some ⟨t, 0, none⟩)), (12, .int .i64 (u : Int)), (75, .bool false)] (fun _ => by kernel_rfl) (endR ?_) : RT _ _ _ _ _ _ 2 _)
      refine condR (b := false) (by kernel_rfl) (fun _ => by kernel_rfl) (fun h => by cases h) (fun _ => ?_)
      refine skipR (by kernel_rfl) ?_
      refine regionR 3 (by kernel_rfl) (by kernel_rfl) ?_
      refine (run0 (z := 0) 3 [2, 3, 9, 10, 11, 12] [(2, .slice s.a s.l.length s.c), (3, .int .u16 n), (9, .int .i64 x), (10, .int .i64 y), (11, .pointer (some ⟨t, 0, none⟩)), (12, .int .i64 (IntKind.i64.wrap ((u : Int) + 1)))] (fun _ => by kernel_rfl) (endR ?_) : RT _ _ _ _ _ _ 3 _)
      rw [show IntKind.i64.wrap ((u : Int) + 1) = ((u : Int) + 1) by rw [w64 (by omega) (by omega)]]
      refine PT.keep (L' := [(2, .slice s.a s.l.length s.c), (3, .int .u16 n), (9, .int .i64 x), (10, .int .i64 y), (11, .pointer (some ⟨t, 0, none⟩)), (12, .int .i64 ((u : Int) + 1))]) [2, 3, 9, 10, 11, 12] rfl ?_
      exact againG (k - 1) (N2, u + 1) rfl rfl (by omega) ⟨by simp only; omega, hI2 v2⟩
    · skip
      have hu : u = s.l.length := by have := of_decide_eq_false h1; omega
      rw [hu] at hI
      have hJ := hI.done hl.1
      obtain ⟨S, hS⟩ : ∃ S, N.map skr = S := ⟨_, rfl⟩
      rw [hS] at hJ
      have hin2 := sh_in hI.wf hS hJ
      obtain ⟨D, hD⟩ : ∃ D, ps N 1 - ps N 2 = D := ⟨_, rfl⟩
      refine exitR 0 (by kernel_rfl) (by kernel_rfl) ?_
      refine thenX ?_
      refine thenX ?_
      refine leaveR ?_
      refine seqR (by kernel_rfl) ?_
      refine regionR 1 (by kernel_rfl) (by kernel_rfl) ?_
      refine (stepR (z := 0) (newS 31 [.int .i64 0, .int .i64 0, .int .i64 0] (some 14) (fun b => .pointer (some ⟨b, 0, none⟩)) (fun _ _ => by kernel_rfl)) (fun b1 => ?_) : RT _ _ _ _ _ _ 1 _)
      refine endR ?_
      refine seqR (by kernel_rfl) ?_
      refine seqR (by kernel_rfl) ?_
      refine regionR 1 (by kernel_rfl) (by kernel_rfl) ?_
      refine (run0 (z := 0) 1 [14, 2, 3, 9, 10, 11, 15] [(14, .pointer (some ⟨b1, 0, none⟩)), (2, .slice s.a s.l.length s.c), (3, .int .u16 n), (9, .int .i64 x), (10, .int .i64 y), (11, .pointer (some ⟨t, 0, none⟩)), (15, .int .i64 0)] (fun _ => by kernel_rfl) (endR ?_) : RT _ _ _ _ _ _ 1 _)
      refine blockR 2 (by kernel_rfl) (by kernel_rfl) ?_
      refine PT.keep (L' := [(2, .slice s.a s.l.length s.c), (3, .int .u16 n), (9, .int .i64 x), (10, .int .i64 y), (11, .pointer (some ⟨t, 0, none⟩)), (14, .pointer (some ⟨b1, 0, none⟩)), (15, .int .i64 0)]) [2, 3, 9, 10, 11, 14, 15] rfl ?_
      refine loopG (fun (q : List Nr × Nat × Int × Int) => [(2, .slice s.a s.l.length s.c), (3, .int .u16 n), (9, .int .i64 x), (10, .int .i64 y), (11, .pointer (some ⟨t, 0, none⟩)), (14, .pointer (some ⟨b1, 0, none⟩)), (15, .int .i64 (q.2.1 : Int))]) (fun (q : List Nr × Nat × Int × Int) => (blk b1 31 [.int .i64 0, .int .i64 q.2.2.1, .int .i64 q.2.2.2] :: treeS t q.1 :: H)) (fun k (q : List Nr × Nat × Int × Int) => (k : Int) + q.2.1 = n.tmod 300 ∧ WFN q.1 ∧ q.1.map skr = S ∧ ps q.1 1 - ps q.1 2 = D + (q.2.2.1 * strd x - q.2.2.2 * strd y) ∧ 0 ≤ q.2.2.1 ∧ 0 ≤ q.2.2.2 ∧ q.2.2.1 + q.2.2.2 = q.2.1) (n.tmod 300).toNat (N, 0, 0, 0) (by kernel_rfl) ⟨by simp only; omega, hI.wf, hS, by simp only; rw [hD]; simp, by simp only; omega, by simp only; omega, by simp only; omega⟩ ?_
      rintro k2 ⟨N3, v, p, q⟩ ⟨hkv, hw3, hsk3, hdf, hp0, hq0, hpq⟩
      simp only at hkv hw3 hsk3 hdf hp0 hq0 hpq
      refine seqR (by kernel_rfl) ?_
      refine seqR (by kernel_rfl) ?_
      refine regionR 5 (by kernel_rfl) (by kernel_rfl) ?_
      refine (run0 (z := 0) 5 [2, 3, 9, 10, 11, 14, 15, 80] [(2, .slice s.a s.l.length s.c), (3, .int .u16 n), (9, .int .i64 x), (10, .int .i64 y), (11, .pointer (some ⟨t, 0, none⟩)), (14, .pointer (some ⟨b1, 0, none⟩)), (15, .int .i64 (v : Int)), (80, .bool (decide ((v : Int) < (IntKind.i64.wrap (Int.tmod n 300)))))] (fun _ => by kernel_rfl) (endR ?_) : RT _ _ _ _ _ _ 5 _)
      rw [show IntKind.i64.wrap (Int.tmod n 300) = (Int.tmod n 300) by rw [w64 (by omega) (by omega)]]
      refine condR (b := decide ((v : Int) < (Int.tmod n 300))) (by kernel_rfl) (fun _ => by kernel_rfl) (fun h2 => ?_) (fun h2 => ?_)
      · skip
        have hv := of_decide_eq_true h2
        obtain ⟨j, N4, hj, hrun, hw4, hsk4, hps⟩ := sh_run hw3 hsk3 hJ
        have hin4 := sh_in hw4 hsk4 hJ
        refine skipR (by kernel_rfl) ?_
        refine seqR (by kernel_rfl) ?_
        refine blockR 3 (by kernel_rfl) (by kernel_rfl) ?_
        refine seqR (by kernel_rfl) ?_
        refine regionR 7 (by kernel_rfl) (by kernel_rfl) ?_
        refine (run0 (z := 6) 1 [2, 3, 9, 10, 11, 14, 15, 84] [(2, .slice s.a s.l.length s.c), (3, .int .u16 n), (9, .int .i64 x), (10, .int .i64 y), (11, .pointer (some ⟨t, 0, none⟩)), (14, .pointer (some ⟨b1, 0, none⟩)), (15, .int .i64 (v : Int)), (84, .pointer (some ⟨t, 0, none⟩))] (fun _ => by kernel_rfl) ?_ : RT _ _ _ _ _ _ 7 _)
        refine (stepR (z := 5) (callS 13 [.pointer (some ⟨t, 0, none⟩)] (some 85) (fun _ => .tuple #[.int .i64 (10 + (j : Int)), .bool true]) (fun _ => (blk b1 31 [.int .i64 0, .int .i64 p, .int .i64 q] :: treeS t N4 :: H)) (fun _ => by kernel_rfl) (chg_at (H := (blk b1 31 [.int .i64 0, .int .i64 p, .int .i64 q] :: treeS t N3 :: H)) 1 rfl (trRun_is _ t hrun))) (fun _ => ?_) : RT _ _ _ _ _ _ 6 _)
        refine (run0 (z := 0) 5 [2, 3, 9, 10, 11, 14, 15, 16, 17] [(2, .slice s.a s.l.length s.c), (3, .int .u16 n), (9, .int .i64 x), (10, .int .i64 y), (11, .pointer (some ⟨t, 0, none⟩)), (14, .pointer (some ⟨b1, 0, none⟩)), (15, .int .i64 (v : Int)), (16, .int .i64 (10 + (j : Int))), (17, .bool true)] (fun _ => by kernel_rfl) (endR ?_) : RT _ _ _ _ _ _ 5 _)
        refine seqR (by kernel_rfl) ?_
        refine seqR (by kernel_rfl) ?_
        refine regionR 13 (by kernel_rfl) (by kernel_rfl) ?_
        refine (run0 (z := 6) 7 [2, 3, 9, 10, 11, 14, 15, 16, 94] [(2, .slice s.a s.l.length s.c), (3, .int .u16 n), (9, .int .i64 x), (10, .int .i64 y), (11, .pointer (some ⟨t, 0, none⟩)), (14, .pointer (some ⟨b1, 0, none⟩)), (15, .int .i64 (v : Int)), (16, .int .i64 (10 + (j : Int))), (94, .bool (decide ((10 + (j : Int)) < 10)))] (fun _ => by kernel_rfl) ?_ : RT _ _ _ _ _ _ 13 _)
        refine (segR (ι := Unit) (z := 0) 6 (fun _ => [(2, .slice s.a s.l.length s.c), (3, .int .u16 n), (9, .int .i64 x), (10, .int .i64 y), (11, .pointer (some ⟨t, 0, none⟩)), (14, .pointer (some ⟨b1, 0, none⟩)), (15, .int .i64 (v : Int)), (16, .int .i64 (10 + (j : Int))), (100, .bool ((decide ((10 + (j : Int)) < 10)) || (decide ((10 + (j : Int)) ≥ (IntKind.i64.wrap (10 + (s.l.length : Int)))))))]) (fun _ => (blk b1 31 [.int .i64 0, .int .i64 p, .int .i64 q] :: treeS t N4 :: H)) ?_ (fun _ => ?_) : RT _ _ _ _ _ _ 6 _)
        · cases hg7 : (decide ((10 + (j : Int)) < 10)) with
          | true =>
            refine (run0 (z := 0) 6 [2, 3, 9, 10, 11, 14, 15, 16, 100] [(2, .slice s.a s.l.length s.c), (3, .int .u16 n), (9, .int .i64 x), (10, .int .i64 y), (11, .pointer (some ⟨t, 0, none⟩)), (14, .pointer (some ⟨b1, 0, none⟩)), (15, .int .i64 (v : Int)), (16, .int .i64 (10 + (j : Int))), (100, .bool true)] (fun _ => by kernel_rfl) (endR ?_) : RT _ _ _ _ _ _ 6 _)
            refine PT.keep (L' := [(2, .slice s.a s.l.length s.c), (3, .int .u16 n), (9, .int .i64 x), (10, .int .i64 y), (11, .pointer (some ⟨t, 0, none⟩)), (14, .pointer (some ⟨b1, 0, none⟩)), (15, .int .i64 (v : Int)), (16, .int .i64 (10 + (j : Int))), (100, .bool (true || (decide ((10 + (j : Int)) ≥ (IntKind.i64.wrap (10 + (s.l.length : Int)))))))]) [2, 3, 9, 10, 11, 14, 15, 16, 100] rfl ?_
            exact midR () rfl rfl
          | false =>
            refine (run0 (z := 0) 6 [2, 3, 9, 10, 11, 14, 15, 16, 100] [(2, .slice s.a s.l.length s.c), (3, .int .u16 n), (9, .int .i64 x), (10, .int .i64 y), (11, .pointer (some ⟨t, 0, none⟩)), (14, .pointer (some ⟨b1, 0, none⟩)), (15, .int .i64 (v : Int)), (16, .int .i64 (10 + (j : Int))), (100, .bool (decide ((10 + (j : Int)) ≥ (IntKind.i64.wrap (10 + (s.l.length : Int))))))] (fun _ => by kernel_rfl) (endR ?_) : RT _ _ _ _ _ _ 6 _)
            refine PT.keep (L' := [(2, .slice s.a s.l.length s.c), (3, .int .u16 n), (9, .int .i64 x), (10, .int .i64 y), (11, .pointer (some ⟨t, 0, none⟩)), (14, .pointer (some ⟨b1, 0, none⟩)), (15, .int .i64 (v : Int)), (16, .int .i64 (10 + (j : Int))), (100, .bool (false || (decide ((10 + (j : Int)) ≥ (IntKind.i64.wrap (10 + (s.l.length : Int)))))))]) [2, 3, 9, 10, 11, 14, 15, 16, 100] rfl ?_
            exact midR () rfl rfl
        refine endR ?_
        rw [show IntKind.i64.wrap (10 + (s.l.length : Int)) = (10 + (s.l.length : Int)) by rw [w64 (by omega) (by omega)]]
        rw [show ((decide ((10 + (j : Int)) < 10)) || (decide ((10 + (j : Int)) ≥ (10 + (s.l.length : Int))))) = false from by first | exact decide_eq_false (by omega) | (simp; done) | (simp; omega)]
        refine condR (b := false) (by kernel_rfl) (fun _ => by kernel_rfl) (fun h => by cases h) (fun _ => ?_)
        refine skipR (by kernel_rfl) ?_
        refine seqR (by kernel_rfl) ?_
        refine regionR 9 (by kernel_rfl) (by kernel_rfl) ?_
        refine (run0 (z := 5) 4 [2, 3, 9, 10, 11, 14, 15, 104] [(2, .slice s.a s.l.length s.c), (3, .int .u16 n), (9, .int .i64 x), (10, .int .i64 y), (11, .pointer (some ⟨t, 0, none⟩)), (14, .pointer (some ⟨b1, 0, none⟩)), (15, .int .i64 (v : Int)), (104, .int .i64 (IntKind.i64.wrap (1 + (Int.tmod (IntKind.i64.wrap ((10 + (j : Int)) - 10)) 2))))] (fun _ => by kernel_rfl) ?_ : RT _ _ _ _ _ _ 9 _)
        rcases Nat.mod_two_eq_zero_or_one j with hj2 | hj2
        · skip
          rw [show IntKind.i64.wrap (1 + (Int.tmod (IntKind.i64.wrap ((10 + (j : Int)) - 10)) 2)) = 1 by rw [w64 (n := 10 + (j : Int) - 10) (by omega) (by omega), Int.tmod_eq_emod_of_nonneg (by omega), w64 (by omega) (by omega)]; omega]
          refine (stepR (z := 4) (yldS (aidxY 31 (.tmp 14) (.tmp 104) b1 0 3 1 1 3 1 .i64 (some 105) (fun _ => by kernel_rfl) (by kernel_rfl) (by kernel_rfl) (fun _ => by kernel_rfl) (fun _ => by kernel_rfl) Try.underlying31 (by kernel_rfl) (by first | rfl | assumption | simp | omega) (by first | omega | decide | (simp; done) | (simp; omega) | (simp at *; omega)))) (fun _ => ?_) : RT _ _ _ _ _ _ 5 _)
          refine (runR (H := (blk b1 31 [.int .i64 0, .int .i64 p, .int .i64 q] :: treeS t N4 :: H)) (z := 2) 2 [2, 3, 9, 10, 11, 14, 15, 104, 107] [(2, .slice s.a s.l.length s.c), (3, .int .u16 n), (9, .int .i64 x), (10, .int .i64 y), (11, .pointer (some ⟨t, 0, none⟩)), (14, .pointer (some ⟨b1, 0, none⟩)), (15, .int .i64 (v : Int)), (104, .int .i64 1), (107, .int .i64 (IntKind.i64.wrap (p + 1)))] [(⟨b1, 1, none⟩, .int .i64 p)] (hasC (blkAt (T := 31) (cs := [.int .i64 0, .int .i64 p, .int .i64 q]) 0 rfl rfl) has0) (fun _ => by kernel_rfl) ?_ : RT _ _ _ _ _ _ 4 _)
          refine (stepR (z := 1) (yldS (aidxY 31 (.tmp 14) (.tmp 104) b1 0 3 1 1 3 1 .i64 (some 108) (fun _ => by kernel_rfl) (by kernel_rfl) (by kernel_rfl) (fun _ => by kernel_rfl) (fun _ => by kernel_rfl) Try.underlying31 (by kernel_rfl) (by first | rfl | assumption | simp | omega) (by first | omega | decide | (simp; done) | (simp; omega) | (simp at *; omega)))) (fun _ => ?_) : RT _ _ _ _ _ _ 2 _)
          refine (stepR (z := 0) (storeS [(1, .int .i64 (IntKind.i64.wrap (p + 1)))] [.int .i64 0, .int .i64 (IntKind.i64.wrap (p + 1)), .int .i64 q] (fun _ => by kernel_rfl) (by kernel_rfl) (by kernel_rfl)) (fun _ => ?_) : RT _ _ _ _ _ _ 1 _)
          refine endR ?_
          refine seqR (by kernel_rfl) ?_
          refine regionR 8 (by kernel_rfl) (by kernel_rfl) ?_
          refine (stepR (z := 7) (yldS (aidxY 31 (.tmp 14) (.const (.int .i64 1)) b1 0 3 1 1 3 1 .i64 (some 109) (fun _ => by kernel_rfl) (by kernel_rfl) (by kernel_rfl) (fun _ => by kernel_rfl) (fun _ => by kernel_rfl) Try.underlying31 (by kernel_rfl) (by first | rfl | assumption | simp | omega) (by first | omega | decide | (simp; done) | (simp; omega) | (simp at *; omega)))) (fun _ => ?_) : RT _ _ _ _ _ _ 8 _)
          refine (runR (H := (blk b1 31 [.int .i64 0, .int .i64 (IntKind.i64.wrap (p + 1)), .int .i64 q] :: treeS t N4 :: H)) (z := 5) 2 [2, 3, 9, 10, 11, 14, 15, 110, 111] [(2, .slice s.a s.l.length s.c), (3, .int .u16 n), (9, .int .i64 x), (10, .int .i64 y), (11, .pointer (some ⟨t, 0, none⟩)), (14, .pointer (some ⟨b1, 0, none⟩)), (15, .int .i64 (v : Int)), (110, .int .i64 (IntKind.i64.wrap (p + 1))), (111, .int .i64 x)] [(⟨b1, 1, none⟩, .int .i64 (IntKind.i64.wrap (p + 1)))] (hasC (blkAt (T := 31) (cs := [.int .i64 0, .int .i64 (IntKind.i64.wrap (p + 1)), .int .i64 q]) 0 rfl rfl) has0) (fun _ => by kernel_rfl) ?_ : RT _ _ _ _ _ _ 7 _)
          refine (stepR (z := 4) (yldS (aidxY 31 (.tmp 14) (.const (.int .i64 2)) b1 0 3 2 1 3 2 .i64 (some 112) (fun _ => by kernel_rfl) (by kernel_rfl) (by kernel_rfl) (fun _ => by kernel_rfl) (fun _ => by kernel_rfl) Try.underlying31 (by kernel_rfl) (by first | rfl | assumption | simp | omega) (by first | omega | decide | (simp; done) | (simp; omega) | (simp at *; omega)))) (fun _ => ?_) : RT _ _ _ _ _ _ 5 _)
          refine (runR (H := (blk b1 31 [.int .i64 0, .int .i64 (IntKind.i64.wrap (p + 1)), .int .i64 q] :: treeS t N4 :: H)) (z := 2) 2 [2, 3, 9, 10, 11, 14, 15, 110, 111, 113, 114] [(2, .slice s.a s.l.length s.c), (3, .int .u16 n), (9, .int .i64 x), (10, .int .i64 y), (11, .pointer (some ⟨t, 0, none⟩)), (14, .pointer (some ⟨b1, 0, none⟩)), (15, .int .i64 (v : Int)), (110, .int .i64 (IntKind.i64.wrap (p + 1))), (111, .int .i64 x), (113, .int .i64 q), (114, .int .i64 y)] [(⟨b1, 2, none⟩, .int .i64 q)] (hasC (blkAt (T := 31) (cs := [.int .i64 0, .int .i64 (IntKind.i64.wrap (p + 1)), .int .i64 q]) 0 rfl rfl) has0) (fun _ => by kernel_rfl) ?_ : RT _ _ _ _ _ _ 4 _)
          rw [show IntKind.i64.wrap (p + 1) = (p + 1) by rw [w64 (by omega) (by omega)]]
          have hdf4 : ps N4 1 - ps N4 2 = D + ((p + 1) * strd x - q * strd y) := by rw [hps, hdf, Int.add_mul, if_pos hj2, if_pos hj2]; omega
          refine (stepR (z := 1) (callS 14 [.int .i64 (p + 1), .int .i64 x, .int .i64 q, .int .i64 y] (some 115) (fun _ => .bool true) (fun _ => (blk b1 31 [.int .i64 0, .int .i64 (p + 1), .int .i64 q] :: treeS t N4 :: H)) (fun _ => by kernel_rfl) (fair_ok (fair_by hdf4 (by omega) (by omega)) (by omega) (by omega) hx hy)) (fun _ => ?_) : RT _ _ _ _ _ _ 2 _)
          refine (run0 (z := 0) 1 [2, 3, 9, 10, 11, 14, 15, 116] [(2, .slice s.a s.l.length s.c), (3, .int .u16 n), (9, .int .i64 x), (10, .int .i64 y), (11, .pointer (some ⟨t, 0, none⟩)), (14, .pointer (some ⟨b1, 0, none⟩)), (15, .int .i64 (v : Int)), (116, .bool false)] (fun _ => by kernel_rfl) (endR ?_) : RT _ _ _ _ _ _ 1 _)
          refine condR (b := false) (by kernel_rfl) (fun _ => by kernel_rfl) (fun h => by cases h) (fun _ => ?_)
          refine skipR (by kernel_rfl) ?_
          refine regionR 3 (by kernel_rfl) (by kernel_rfl) ?_
          refine (run0 (z := 0) 3 [2, 3, 9, 10, 11, 14, 15] [(2, .slice s.a s.l.length s.c), (3, .int .u16 n), (9, .int .i64 x), (10, .int .i64 y), (11, .pointer (some ⟨t, 0, none⟩)), (14, .pointer (some ⟨b1, 0, none⟩)), (15, .int .i64 (IntKind.i64.wrap ((v : Int) + 1)))] (fun _ => by kernel_rfl) (endR ?_) : RT _ _ _ _ _ _ 3 _)
          rw [show IntKind.i64.wrap ((v : Int) + 1) = ((v : Int) + 1) by rw [w64 (by omega) (by omega)]]
          refine PT.keep (L' := [(2, .slice s.a s.l.length s.c), (3, .int .u16 n), (9, .int .i64 x), (10, .int .i64 y), (11, .pointer (some ⟨t, 0, none⟩)), (14, .pointer (some ⟨b1, 0, none⟩)), (15, .int .i64 ((v : Int) + 1))]) [2, 3, 9, 10, 11, 14, 15] rfl ?_
          exact againG (k2 - 1) (N4, v + 1, (p + 1), q) rfl rfl (by omega) ⟨by simp only; omega, hw4, hsk4, hdf4, by simp only; omega, by simp only; omega, by simp only; omega⟩
        · skip
          rw [show IntKind.i64.wrap (1 + (Int.tmod (IntKind.i64.wrap ((10 + (j : Int)) - 10)) 2)) = 2 by rw [w64 (n := 10 + (j : Int) - 10) (by omega) (by omega), Int.tmod_eq_emod_of_nonneg (by omega), w64 (by omega) (by omega)]; omega]
          refine (stepR (z := 4) (yldS (aidxY 31 (.tmp 14) (.tmp 104) b1 0 3 2 1 3 2 .i64 (some 105) (fun _ => by kernel_rfl) (by kernel_rfl) (by kernel_rfl) (fun _ => by kernel_rfl) (fun _ => by kernel_rfl) Try.underlying31 (by kernel_rfl) (by first | rfl | assumption | simp | omega) (by first | omega | decide | (simp; done) | (simp; omega) | (simp at *; omega)))) (fun _ => ?_) : RT _ _ _ _ _ _ 5 _)
          refine (runR (H := (blk b1 31 [.int .i64 0, .int .i64 p, .int .i64 q] :: treeS t N4 :: H)) (z := 2) 2 [2, 3, 9, 10, 11, 14, 15, 104, 107] [(2, .slice s.a s.l.length s.c), (3, .int .u16 n), (9, .int .i64 x), (10, .int .i64 y), (11, .pointer (some ⟨t, 0, none⟩)), (14, .pointer (some ⟨b1, 0, none⟩)), (15, .int .i64 (v : Int)), (104, .int .i64 2), (107, .int .i64 (IntKind.i64.wrap (q + 1)))] [(⟨b1, 2, none⟩, .int .i64 q)] (hasC (blkAt (T := 31) (cs := [.int .i64 0, .int .i64 p, .int .i64 q]) 0 rfl rfl) has0) (fun _ => by kernel_rfl) ?_ : RT _ _ _ _ _ _ 4 _)
          refine (stepR (z := 1) (yldS (aidxY 31 (.tmp 14) (.tmp 104) b1 0 3 2 1 3 2 .i64 (some 108) (fun _ => by kernel_rfl) (by kernel_rfl) (by kernel_rfl) (fun _ => by kernel_rfl) (fun _ => by kernel_rfl) Try.underlying31 (by kernel_rfl) (by first | rfl | assumption | simp | omega) (by first | omega | decide | (simp; done) | (simp; omega) | (simp at *; omega)))) (fun _ => ?_) : RT _ _ _ _ _ _ 2 _)
          refine (stepR (z := 0) (storeS [(2, .int .i64 (IntKind.i64.wrap (q + 1)))] [.int .i64 0, .int .i64 p, .int .i64 (IntKind.i64.wrap (q + 1))] (fun _ => by kernel_rfl) (by kernel_rfl) (by kernel_rfl)) (fun _ => ?_) : RT _ _ _ _ _ _ 1 _)
          refine endR ?_
          refine seqR (by kernel_rfl) ?_
          refine regionR 8 (by kernel_rfl) (by kernel_rfl) ?_
          refine (stepR (z := 7) (yldS (aidxY 31 (.tmp 14) (.const (.int .i64 1)) b1 0 3 1 1 3 1 .i64 (some 109) (fun _ => by kernel_rfl) (by kernel_rfl) (by kernel_rfl) (fun _ => by kernel_rfl) (fun _ => by kernel_rfl) Try.underlying31 (by kernel_rfl) (by first | rfl | assumption | simp | omega) (by first | omega | decide | (simp; done) | (simp; omega) | (simp at *; omega)))) (fun _ => ?_) : RT _ _ _ _ _ _ 8 _)
          refine (runR (H := (blk b1 31 [.int .i64 0, .int .i64 p, .int .i64 (IntKind.i64.wrap (q + 1))] :: treeS t N4 :: H)) (z := 5) 2 [2, 3, 9, 10, 11, 14, 15, 110, 111] [(2, .slice s.a s.l.length s.c), (3, .int .u16 n), (9, .int .i64 x), (10, .int .i64 y), (11, .pointer (some ⟨t, 0, none⟩)), (14, .pointer (some ⟨b1, 0, none⟩)), (15, .int .i64 (v : Int)), (110, .int .i64 p), (111, .int .i64 x)] [(⟨b1, 1, none⟩, .int .i64 p)] (hasC (blkAt (T := 31) (cs := [.int .i64 0, .int .i64 p, .int .i64 (IntKind.i64.wrap (q + 1))]) 0 rfl rfl) has0) (fun _ => by kernel_rfl) ?_ : RT _ _ _ _ _ _ 7 _)
          refine (stepR (z := 4) (yldS (aidxY 31 (.tmp 14) (.const (.int .i64 2)) b1 0 3 2 1 3 2 .i64 (some 112) (fun _ => by kernel_rfl) (by kernel_rfl) (by kernel_rfl) (fun _ => by kernel_rfl) (fun _ => by kernel_rfl) Try.underlying31 (by kernel_rfl) (by first | rfl | assumption | simp | omega) (by first | omega | decide | (simp; done) | (simp; omega) | (simp at *; omega)))) (fun _ => ?_) : RT _ _ _ _ _ _ 5 _)
          refine (runR (H := (blk b1 31 [.int .i64 0, .int .i64 p, .int .i64 (IntKind.i64.wrap (q + 1))] :: treeS t N4 :: H)) (z := 2) 2 [2, 3, 9, 10, 11, 14, 15, 110, 111, 113, 114] [(2, .slice s.a s.l.length s.c), (3, .int .u16 n), (9, .int .i64 x), (10, .int .i64 y), (11, .pointer (some ⟨t, 0, none⟩)), (14, .pointer (some ⟨b1, 0, none⟩)), (15, .int .i64 (v : Int)), (110, .int .i64 p), (111, .int .i64 x), (113, .int .i64 (IntKind.i64.wrap (q + 1))), (114, .int .i64 y)] [(⟨b1, 2, none⟩, .int .i64 (IntKind.i64.wrap (q + 1)))] (hasC (blkAt (T := 31) (cs := [.int .i64 0, .int .i64 p, .int .i64 (IntKind.i64.wrap (q + 1))]) 0 rfl rfl) has0) (fun _ => by kernel_rfl) ?_ : RT _ _ _ _ _ _ 4 _)
          rw [show IntKind.i64.wrap (q + 1) = (q + 1) by rw [w64 (by omega) (by omega)]]
          have hdf4 : ps N4 1 - ps N4 2 = D + (p * strd x - (q + 1) * strd y) := by rw [hps, hdf, Int.add_mul, if_neg (by omega), if_neg (by omega)]; omega
          refine (stepR (z := 1) (callS 14 [.int .i64 p, .int .i64 x, .int .i64 (q + 1), .int .i64 y] (some 115) (fun _ => .bool true) (fun _ => (blk b1 31 [.int .i64 0, .int .i64 p, .int .i64 (q + 1)] :: treeS t N4 :: H)) (fun _ => by kernel_rfl) (fair_ok (fair_by hdf4 (by omega) (by omega)) (by omega) (by omega) hx hy)) (fun _ => ?_) : RT _ _ _ _ _ _ 2 _)
          refine (run0 (z := 0) 1 [2, 3, 9, 10, 11, 14, 15, 116] [(2, .slice s.a s.l.length s.c), (3, .int .u16 n), (9, .int .i64 x), (10, .int .i64 y), (11, .pointer (some ⟨t, 0, none⟩)), (14, .pointer (some ⟨b1, 0, none⟩)), (15, .int .i64 (v : Int)), (116, .bool false)] (fun _ => by kernel_rfl) (endR ?_) : RT _ _ _ _ _ _ 1 _)
          refine condR (b := false) (by kernel_rfl) (fun _ => by kernel_rfl) (fun h => by cases h) (fun _ => ?_)
          refine skipR (by kernel_rfl) ?_
          refine regionR 3 (by kernel_rfl) (by kernel_rfl) ?_
          refine (run0 (z := 0) 3 [2, 3, 9, 10, 11, 14, 15] [(2, .slice s.a s.l.length s.c), (3, .int .u16 n), (9, .int .i64 x), (10, .int .i64 y), (11, .pointer (some ⟨t, 0, none⟩)), (14, .pointer (some ⟨b1, 0, none⟩)), (15, .int .i64 (IntKind.i64.wrap ((v : Int) + 1)))] (fun _ => by kernel_rfl) (endR ?_) : RT _ _ _ _ _ _ 3 _)
          rw [show IntKind.i64.wrap ((v : Int) + 1) = ((v : Int) + 1) by rw [w64 (by omega) (by omega)]]
          refine PT.keep (L' := [(2, .slice s.a s.l.length s.c), (3, .int .u16 n), (9, .int .i64 x), (10, .int .i64 y), (11, .pointer (some ⟨t, 0, none⟩)), (14, .pointer (some ⟨b1, 0, none⟩)), (15, .int .i64 ((v : Int) + 1))]) [2, 3, 9, 10, 11, 14, 15] rfl ?_
          exact againG (k2 - 1) (N4, v + 1, p, (q + 1)) rfl rfl (by omega) ⟨by simp only; omega, hw4, hsk4, hdf4, by simp only; omega, by simp only; omega, by simp only; omega⟩
      · skip
        refine exitR 2 (by kernel_rfl) (by kernel_rfl) ?_
        refine thenX ?_
        refine thenX ?_
        refine leaveR ?_
        refine seqR (by kernel_rfl) ?_
        refine regionR 1 (by kernel_rfl) (by kernel_rfl) ?_
        refine (run0 (z := 0) 1 [8] [(8, .bool true)] (fun _ => by kernel_rfl) (endR ?_) : RT _ _ _ _ _ _ 1 _)
        refine retR (by kernel_rfl) ?_
        refine done0 (.bool true) (fun _ => by kernel_rfl) (fun w hs => ?_) .ret (.inr rfl)
        exact ⟨(), rfl, hs.tail.tail⟩
theorem tshares_row (W : World) (a b : Int) (ao : Option Addr) (c : Nat) (l : List Int) (n : Int) (ha : (Lit.int .u8 a).wf = true) (hb : (Lit.int .u8 b).wf = true) (hrd : Rd (kE .u8) W (.slice ao l.length c) l) (hl : ∀ x ∈ l, (Lit.int .u8 x).wf = true) (hn : (Lit.int .u16 n).wf = true) : Calls Try.prog 3 #[.int .u8 a, .int .u8 b, .slice ao l.length c, .int .u16 n] W (LawPost W) :=
  lawPost (fun _ _ h => h) (tshares_walk [old W] ⟨ao, c, l⟩ a b n (u8_wf ha) (u8_wf hb) (u16_wf hn) (KR.old hrd 0 rfl) (fun x hx => u8_wf (hl x hx)) W (Sat.start W))
end Go.Proofs.Ytjbjngikaiggdaa
