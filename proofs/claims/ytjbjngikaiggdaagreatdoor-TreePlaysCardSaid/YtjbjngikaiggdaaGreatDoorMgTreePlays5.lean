/- Texts put together: The document's tree: Scale, Weight, Add, Remove. The document's tree: Remove. The document's tree: Add. The document's tree: Run. Conditions: none. -/
import Derived.Test.YtjbjngikaiggdaaGreatDoorMgTreePlays4
set_option linter.unusedVariables false
set_option linter.unusedSimpArgs false
namespace Go.Proofs.YtjbjngikaiggdaaGreatDoor
open Go.RowKit G
theorem PT.closeRt {n : Nat} {X : List (Nat × Value)} {t : Nat} {L : List Nr} {A : Option Addr} {c : Nat} {H : List SP} {Φ : Act → World → Prop} (hn : L ≠ []) (h : PT n X (rtS t L :: H) Φ) : PT n X (blk t 65 [.slice A L.length c] :: row rnE 62 (.slice A L.length c) L :: H) Φ := PT.sat (fun _ hs => Sat.closeRt hn hs) h
theorem scale_mid {p n f t : Int} (hf : isW f = true) (ht : isW t = true) (h0 : n < p) (hpn : p ≤ n + strd f) : 0 ≤ (p - n) * strd t ∧ (p - n) * strd t ≤ 519437318400 := by
  have h1 := strd_pos hf
  have h2 := strd_pos ht
  refine ⟨Int.mul_nonneg (by omega) (by omega), ?_⟩
  have := Int.mul_le_mul (a := p - n) (b := strd t) (c := 720720) (d := 720720) (by omega) (by omega) (by omega) (by omega)
  omega
theorem rscale_walk (H : List SP) {p n f t : Int} (hp : 0 ≤ p) (hn : 0 ≤ n ∧ n ≤ 16777216) (hf : isW f = true) (ht : isW t = true) (hpn : p ≤ n + strd f) : ∀ w, Sat w H → Calls Tryz.prog 36 #[.int .i64 p, .int .i64 n, .int .i64 f, .int .i64 t] w (Ret (ι := Unit) (fun _ => .int .i64 (scaleN p n f t)) fun _ => H) := by
  have hsf := strd_pos hf
  have hst := strd_pos ht
  refine enterG (fn := Tryz.f36) 24 [.int .i64 p, .int .i64 n, .int .i64 f, .int .i64 t] Tryz.func36 (by kernel_rfl) (by kernel_rfl) (by kernel_rfl) ?_
  refine seqR (by kernel_rfl) ?_
  refine regionR 1 (by kernel_rfl) (by kernel_rfl) ?_
  refine (run0 (z := 0) 1 [0, 1, 2, 3, 8] [(0, .int .i64 p), (1, .int .i64 n), (2, .int .i64 f), (3, .int .i64 t), (8, .int .i64 0)] (fun _ => by kernel_rfl) (endR ?_) : RT _ _ _ _ _ _ 1 _)
  refine seqR (by kernel_rfl) ?_
  refine seqR (by kernel_rfl) ?_
  refine regionR 3 (by kernel_rfl) (by kernel_rfl) ?_
  refine (run0 (z := 0) 3 [0, 1, 2, 3, 8, 11] [(0, .int .i64 p), (1, .int .i64 n), (2, .int .i64 f), (3, .int .i64 t), (8, .int .i64 0), (11, .bool (decide (p ≤ n)))] (fun _ => by kernel_rfl) (endR ?_) : RT _ _ _ _ _ _ 3 _)
  refine condR (b := decide (p ≤ n)) (by kernel_rfl) (fun _ => by kernel_rfl) (fun h1 => ?_) (fun h1 => ?_)
  · skip
    have h1 := of_decide_eq_true h1
    refine seqR (by kernel_rfl) ?_
    refine regionR 2 (by kernel_rfl) (by kernel_rfl) ?_
    refine (run0 (z := 0) 2 [0, 1, 2, 3, 8] [(0, .int .i64 p), (1, .int .i64 n), (2, .int .i64 f), (3, .int .i64 t), (8, .int .i64 p)] (fun _ => by kernel_rfl) (endR ?_) : RT _ _ _ _ _ _ 2 _)
    refine retR (by kernel_rfl) ?_
    refine thenV ?_
    refine done0 (.int .i64 p) (fun _ => by kernel_rfl) (fun w hs => ?_) .ret (.inr rfl)
    exact ⟨(), by rw [scaleN, if_pos (.inl h1)], hs⟩
  · skip
    have h1 := of_decide_eq_false h1
    have hm := scale_mid hf ht (by omega) hpn
    obtain ⟨D, hD⟩ : ∃ D, (p - n) * strd t = D := ⟨_, rfl⟩
    rw [hD] at hm
    have hq := tdiv_le hm.1 hsf.1
    refine skipR (by kernel_rfl) ?_
    refine seqR (by kernel_rfl) ?_
    refine regionR 12 (by kernel_rfl) (by kernel_rfl) ?_
    refine (run0 (z := 7) 5 [2, 8, 13, 16, 17] [(2, .int .i64 f), (8, .int .i64 0), (13, .int .i64 n), (16, .int .i64 (IntKind.i64.wrap (p - n))), (17, .int .i64 t)] (fun _ => by kernel_rfl) ?_ : RT _ _ _ _ _ _ 12 _)
    refine (stepR (z := 6) (callS 56 [.int .i64 t] (some 18) (fun _ => .int .i64 (strd t)) (fun (_ : Unit) => (H)) (fun _ => by kernel_rfl) (rOf_walk _ t)) (fun _ => ?_) : RT _ _ _ _ _ _ 7 _)
    refine (run0 (z := 4) 2 [8, 13, 19, 20] [(8, .int .i64 0), (13, .int .i64 n), (19, .int .i64 (IntKind.i64.wrap ((IntKind.i64.wrap (p - n)) * (strd t)))), (20, .int .i64 f)] (fun _ => by kernel_rfl) ?_ : RT _ _ _ _ _ _ 6 _)
    refine (stepR (z := 3) (callS 56 [.int .i64 f] (some 21) (fun _ => .int .i64 (strd f)) (fun (_ : Unit) => (H)) (fun _ => by kernel_rfl) (rOf_walk _ f)) (fun _ => ?_) : RT _ _ _ _ _ _ 4 _)
    rw [show IntKind.i64.wrap (p - n) = (p - n) by rw [w64 (by omega) (by omega)]]
    rw [show ((p - n) * (strd t)) = D by exact hD]
    rw [show IntKind.i64.wrap D = D by rw [w64 (by omega) (by omega)]]
    refine (stepR (z := 2) (yldS (binY .quo 3 3 (.tmp 19) (.tmp 21) (.int .i64 D) (.int .i64 (strd f)) (.int .i64 (IntKind.i64.wrap ((D : Int).tdiv (strd f)))) (some 22) (fun _ => by kernel_rfl) (by kernel_rfl) (by kernel_rfl) (fun _ => by kernel_rfl) (fun _ => by kernel_rfl) (quoR (t' := 0) (by omega)))) (fun _ => ?_) : RT _ _ _ _ _ _ 3 _)
    rw [show IntKind.i64.wrap ((D : Int).tdiv (strd f)) = ((D : Int).tdiv (strd f)) by rw [w64 (by omega) (by omega)]]
    refine (run0 (z := 0) 2 [8] [(8, .int .i64 (IntKind.i64.wrap (n + ((D : Int).tdiv (strd f)))))] (fun _ => by kernel_rfl) (endR ?_) : RT _ _ _ _ _ _ 2 _)
    refine retR (by kernel_rfl) ?_
    rw [show IntKind.i64.wrap (n + ((D : Int).tdiv (strd f))) = (n + ((D : Int).tdiv (strd f))) by rw [w64 (by omega) (by omega)]]
    refine done0 (.int .i64 (n + ((D : Int).tdiv (strd f)))) (fun _ => by kernel_rfl) (fun w hs => ?_) .ret (.inr rfl)
    exact ⟨(), by rw [scaleN, if_neg (by omega), hD], hs⟩
def wsF (q W : Int) (x : Nr) : Nr := { x with pass := scaleN x.pass q x.wt W, wt := W }
set_option maxHeartbeats 1000000 in
set_option maxRecDepth 100000 in
theorem rweight_walk (H : List SP) (t : Nat) (L : List Nr) (hw : WFN L) (id W : Int) : ∀ w, Sat w (rtS t L :: H) → Calls Tryz.prog 15 #[.pointer (some ⟨t, 0, none⟩), .int .i64 id, .int .i64 W] w (Ret (ι := Unit) (fun _ => .int .i64 (weightN L id W).1) fun _ => rtS t (weightN L id W).2 :: H) := by
  have hsk := hw.sk
  have hnd := hsk.nd
  have hl := hsk.len
  have hne : L ≠ [] := by obtain ⟨r, hr, _⟩ := hsk.root; exact List.ne_nil_of_mem hr
  refine enterG (fn := Tryz.f15) 65 [.pointer (some ⟨t, 0, none⟩), .int .i64 id, .int .i64 W] Tryz.func15 (by kernel_rfl) (by kernel_rfl) (by kernel_rfl) ?_
  refine PT.openRt fun b o c => ?_
  refine seqR (by kernel_rfl) ?_
  refine regionR 1 (by kernel_rfl) (by kernel_rfl) ?_
  refine (run0 (z := 0) 1 [0, 1, 2, 6] [(0, .pointer (some ⟨t, 0, none⟩)), (1, .int .i64 id), (2, .int .i64 W), (6, .int .i64 0)] (fun _ => by kernel_rfl) (endR ?_) : RT _ _ _ _ _ _ 1 _)
  refine seqR (by kernel_rfl) ?_
  refine seqR (by kernel_rfl) ?_
  refine regionR 3 (by kernel_rfl) (by kernel_rfl) ?_
  refine (run0 (z := 2) 1 [0, 1, 2, 6, 9] [(0, .pointer (some ⟨t, 0, none⟩)), (1, .int .i64 id), (2, .int .i64 W), (6, .int .i64 0), (9, .int .i64 W)] (fun _ => by kernel_rfl) ?_ : RT _ _ _ _ _ _ 3 _)
  refine (stepR (z := 1) (callS 29 [.int .i64 W] (some 10) (fun _ => .bool (isW W)) (fun (_ : Unit) => (blk t 65 [.slice (some ⟨b, o, none⟩) L.length c] :: row rnE 62 (.slice (some ⟨b, o, none⟩) L.length c) L :: H)) (fun _ => by kernel_rfl) (rIsW_walk _ W)) (fun _ => ?_) : RT _ _ _ _ _ _ 2 _)
  refine (run0 (z := 0) 1 [0, 1, 2, 6, 11] [(0, .pointer (some ⟨t, 0, none⟩)), (1, .int .i64 id), (2, .int .i64 W), (6, .int .i64 0), (11, .bool (!(isW W)))] (fun _ => by kernel_rfl) (endR ?_) : RT _ _ _ _ _ _ 1 _)
  cases hW : isW W with
  | false =>
    refine condR (b := true) (by kernel_rfl) (fun _ => by kernel_rfl) (fun _ => ?_) (fun h => by cases h)
    refine seqR (by kernel_rfl) ?_
    refine regionR 1 (by kernel_rfl) (by kernel_rfl) ?_
    refine (run0 (z := 0) 1 [0, 1, 2, 6] [(0, .pointer (some ⟨t, 0, none⟩)), (1, .int .i64 id), (2, .int .i64 W), (6, .int .i64 10)] (fun _ => by kernel_rfl) (endR ?_) : RT _ _ _ _ _ _ 1 _)
    refine retR (by kernel_rfl) ?_
    refine thenV ?_
    refine done0 (.int .i64 10) (fun _ => by kernel_rfl) (fun w hs => ?_) .ret (.inr rfl)
    exact ⟨(), by rw [weightN, if_pos hW], by rw [weightN, if_pos hW]; exact Sat.closeRt hne hs⟩
  | true =>
    have hW' : ¬ isW W = false := by simp [hW]
    refine condR (b := false) (by kernel_rfl) (fun _ => by kernel_rfl) (fun h => by cases h) (fun _ => ?_)
    refine skipR (by kernel_rfl) ?_
    refine seqR (by kernel_rfl) ?_
    refine regionR 4 (by kernel_rfl) (by kernel_rfl) ?_
    refine (run0 (z := 2) 2 [0, 1, 2, 6, 12, 13] [(0, .pointer (some ⟨t, 0, none⟩)), (1, .int .i64 id), (2, .int .i64 W), (6, .int .i64 0), (12, .pointer (some ⟨t, 0, none⟩)), (13, .int .i64 id)] (fun _ => by kernel_rfl) ?_ : RT _ _ _ _ _ _ 4 _)
    cases hg : gt L id with
    | none =>
      have hix : ixL L id = -1 := ixL_no (gt_none.1 hg)
      refine (stepR (z := 1) (callS 28 [.pointer (some ⟨t, 0, none⟩), .int .i64 id] (some 14) (fun _ => .int .i64 (ixL L id)) (fun _ => (blk t 65 [.slice (some ⟨b, o, none⟩) L.length c] :: row rnE 62 (.slice (some ⟨b, o, none⟩) L.length c) L :: H)) (fun _ => by kernel_rfl) (rat_walk H t b o c L id (by omega))) (fun _ => ?_) : RT _ _ _ _ _ _ 2 _)
      rw [show ixL L id = (-1) by exact hix]
      refine (run0 (z := 0) 1 [0, 1, 2, 6, 7] [(0, .pointer (some ⟨t, 0, none⟩)), (1, .int .i64 id), (2, .int .i64 W), (6, .int .i64 0), (7, .int .i64 (-1))] (fun _ => by kernel_rfl) (endR ?_) : RT _ _ _ _ _ _ 1 _)
      refine seqR (by kernel_rfl) ?_
      refine seqR (by kernel_rfl) ?_
      refine regionR 6 (by kernel_rfl) (by kernel_rfl) ?_
      refine (run0 (z := 0) 6 [0, 2, 6, 7, 20] [(0, .pointer (some ⟨t, 0, none⟩)), (2, .int .i64 W), (6, .int .i64 0), (7, .int .i64 (-1)), (20, .bool true)] (fun _ => by kernel_rfl) (endR ?_) : RT _ _ _ _ _ _ 6 _)
      refine condR (b := true) (by kernel_rfl) (fun _ => by kernel_rfl) (fun _ => ?_) (fun h => by cases h)
      refine seqR (by kernel_rfl) ?_
      refine regionR 1 (by kernel_rfl) (by kernel_rfl) ?_
      refine (run0 (z := 0) 1 [0, 2, 6, 7] [(0, .pointer (some ⟨t, 0, none⟩)), (2, .int .i64 W), (6, .int .i64 13), (7, .int .i64 (-1))] (fun _ => by kernel_rfl) (endR ?_) : RT _ _ _ _ _ _ 1 _)
      refine retR (by kernel_rfl) ?_
      refine thenV ?_
      refine done0 (.int .i64 13) (fun _ => by kernel_rfl) (fun w hs => ?_) .ret (.inr rfl)
      exact ⟨(), by rw [weightN, if_neg hW', hg], by rw [weightN, if_neg hW', hg]; exact Sat.closeRt hne hs⟩
    | some x =>
      obtain ⟨i, hi, hix⟩ := ixL_gt hnd hg
      have hil := (List.getElem?_eq_some_iff.1 hi).1
      obtain ⟨hxL, hxi⟩ := gt_mem hg
      refine (stepR (z := 1) (callS 28 [.pointer (some ⟨t, 0, none⟩), .int .i64 id] (some 14) (fun _ => .int .i64 (ixL L id)) (fun _ => (blk t 65 [.slice (some ⟨b, o, none⟩) L.length c] :: row rnE 62 (.slice (some ⟨b, o, none⟩) L.length c) L :: H)) (fun _ => by kernel_rfl) (rat_walk H t b o c L id (by omega))) (fun _ => ?_) : RT _ _ _ _ _ _ 2 _)
      rw [show ixL L id = (i : Int) by exact hix]
      refine (run0 (z := 0) 1 [0, 1, 2, 6, 7] [(0, .pointer (some ⟨t, 0, none⟩)), (1, .int .i64 id), (2, .int .i64 W), (6, .int .i64 0), (7, .int .i64 (i : Int))] (fun _ => by kernel_rfl) (endR ?_) : RT _ _ _ _ _ _ 1 _)
      refine seqR (by kernel_rfl) ?_
      refine seqR (by kernel_rfl) ?_
      refine regionR 6 (by kernel_rfl) (by kernel_rfl) ?_
      refine (run0 (z := 3) 3 [0, 1, 2, 6, 7, 17] [(0, .pointer (some ⟨t, 0, none⟩)), (1, .int .i64 id), (2, .int .i64 W), (6, .int .i64 0), (7, .int .i64 (i : Int)), (17, .bool (decide ((i : Int) < 0)))] (fun _ => by kernel_rfl) ?_ : RT _ _ _ _ _ _ 6 _)
      refine (segR (ι := Unit) (z := 0) 3 (fun _ => [(0, .pointer (some ⟨t, 0, none⟩)), (2, .int .i64 W), (6, .int .i64 0), (7, .int .i64 (i : Int)), (20, .bool ((decide ((i : Int) < 0)) || (id == 0)))]) (fun _ => (blk t 65 [.slice (some ⟨b, o, none⟩) L.length c] :: row rnE 62 (.slice (some ⟨b, o, none⟩) L.length c) L :: H)) ?_ (fun _ => ?_) : RT _ _ _ _ _ _ 3 _)
      · cases hg3 : (decide ((i : Int) < 0)) with
        | true =>
          refine (run0 (z := 0) 3 [0, 2, 6, 7, 20] [(0, .pointer (some ⟨t, 0, none⟩)), (2, .int .i64 W), (6, .int .i64 0), (7, .int .i64 (i : Int)), (20, .bool true)] (fun _ => by kernel_rfl) (endR ?_) : RT _ _ _ _ _ _ 3 _)
          refine PT.keep (L' := [(0, .pointer (some ⟨t, 0, none⟩)), (2, .int .i64 W), (6, .int .i64 0), (7, .int .i64 (i : Int)), (20, .bool (true || (id == 0)))]) [0, 2, 6, 7, 20] rfl ?_
          exact midR () rfl rfl
        | false =>
          refine (run0 (z := 0) 3 [0, 2, 6, 7, 20] [(0, .pointer (some ⟨t, 0, none⟩)), (2, .int .i64 W), (6, .int .i64 0), (7, .int .i64 (i : Int)), (20, .bool (id == 0))] (fun _ => by kernel_rfl) (endR ?_) : RT _ _ _ _ _ _ 3 _)
          refine PT.keep (L' := [(0, .pointer (some ⟨t, 0, none⟩)), (2, .int .i64 W), (6, .int .i64 0), (7, .int .i64 (i : Int)), (20, .bool (false || (id == 0)))]) [0, 2, 6, 7, 20] rfl ?_
          exact midR () rfl rfl
      refine endR ?_
      by_cases h0 : id = 0
      · skip
        rw [show ((decide ((i : Int) < 0)) || (id == 0)) = true from by simp [h0]]
        refine condR (b := true) (by kernel_rfl) (fun _ => by kernel_rfl) (fun _ => ?_) (fun h => by cases h)
        refine seqR (by kernel_rfl) ?_
        refine regionR 1 (by kernel_rfl) (by kernel_rfl) ?_
        refine (run0 (z := 0) 1 [0, 2, 6, 7] [(0, .pointer (some ⟨t, 0, none⟩)), (2, .int .i64 W), (6, .int .i64 13), (7, .int .i64 (i : Int))] (fun _ => by kernel_rfl) (endR ?_) : RT _ _ _ _ _ _ 1 _)
        refine retR (by kernel_rfl) ?_
        refine thenV ?_
        have hz : weightN L id W = (13, L) := by rw [weightN, if_neg hW', hg]; simp only; rw [if_pos h0]
        refine done0 (.int .i64 13) (fun _ => by kernel_rfl) (fun w hs => ?_) .ret (.inr rfl)
        exact ⟨(), by rw [hz], by rw [hz]; exact Sat.closeRt hne hs⟩
      · skip
        rw [show ((decide ((i : Int) < 0)) || (id == 0)) = false from by simp; omega]
        obtain ⟨_, p, hpL, hpi, _⟩ := hsk.pa x hxL (by rw [hxi]; exact h0)
        have hgp : gt L x.par = some p := hpi ▸ gt_of hnd hpL
        obtain ⟨j, hj, hjx⟩ := ixL_gt hnd hgp
        have hjl := (List.getElem?_eq_some_iff.1 hj).1
        have hpn := (hw.pn x hxL p hpL hpi).1
        have hpx := hw.pass x hxL
        have hnp := hw.now p hpL
        have hz : weightN L id W = (0, upN L x.id (wsF p.now W)) := by rw [weightN, if_neg hW', hg]; simp only; rw [if_neg h0, hgp, hxi]; rfl
        refine PT.rowNil rnE 62 ?_
        refine condR (b := false) (by kernel_rfl) (fun _ => by kernel_rfl) (fun h => by cases h) (fun _ => ?_)
        refine skipR (by kernel_rfl) ?_
        refine seqR (by kernel_rfl) ?_
        refine regionR 9 (by kernel_rfl) (by kernel_rfl) ?_
        refine (runR (H := (row rnE 62 (.slice none 0 0) [] :: blk t 65 [.slice (some ⟨b, o, none⟩) L.length c] :: row rnE 62 (.slice (some ⟨b, o, none⟩) L.length c) L :: H)) (z := 4) 5 [0, 2, 6, 7, 21, 25] [(0, .pointer (some ⟨t, 0, none⟩)), (2, .int .i64 W), (6, .int .i64 0), (7, .int .i64 (i : Int)), (21, .pointer (some ⟨t, 0, none⟩)), (25, .slice (some ⟨b, o, none⟩) L.length c)] [(⟨t, 0, none⟩, .slice (some ⟨b, o, none⟩) L.length c)] (hasC (blkAt (T := 65) (cs := [.slice (some ⟨b, o, none⟩) L.length c]) 1 rfl rfl) has0) (fun _ => by kernel_rfl) ?_ : RT _ _ _ _ _ _ 9 _)
        refine (stepR (z := 3) (appS (E := rnE) 63 (.const (.slice none 0 0)) (.tmp 25) none 0 [] L (.slice (some ⟨b, o, none⟩) L.length c) (some 26) (fun _ => by kernel_rfl) (by kernel_rfl) (by kernel_rfl) (fun _ => by kernel_rfl) (fun _ => by kernel_rfl) Tryz.underlying63 (rnE_ety) (rowKRat 2 rfl) (by simp; omega)) (fun r1 => ?_) : RT _ _ _ (row rnE 62 (.slice none 0 0) [] :: blk t 65 [.slice (some ⟨b, o, none⟩) L.length c] :: row rnE 62 (.slice (some ⟨b, o, none⟩) L.length c) L :: H) _ _ 4 _)
        rw [show ([] ++ L) = L by rfl]
        refine (run0 (z := 1) 2 [26, 0, 2, 6, 7, 28] [(26, .slice r1.1 L.length r1.2), (0, .pointer (some ⟨t, 0, none⟩)), (2, .int .i64 W), (6, .int .i64 0), (7, .int .i64 (i : Int)), (28, .pointer (some ⟨t, 0, none⟩))] (fun _ => by kernel_rfl) ?_ : RT _ _ _ _ _ _ 3 _)
        refine (RT.pick 1 rfl ?_ : RT _ _ _ (row rnE 62 (.slice r1.1 L.length r1.2) L :: blk t 65 [.slice (some ⟨b, o, none⟩) L.length c] :: row rnE 62 (.slice (some ⟨b, o, none⟩) L.length c) L :: H) _ _ 1 _)
        refine (stepR (z := 0) (storeS [(0, .slice r1.1 L.length r1.2)] [.slice r1.1 L.length r1.2] (fun _ => by kernel_rfl) (by kernel_rfl) (by kernel_rfl)) (fun _ => ?_) : RT _ _ _ _ _ _ 1 _)
        refine endR ?_
        refine seqR (by kernel_rfl) ?_
        refine regionR 10 (by kernel_rfl) (by kernel_rfl) ?_
        refine (runR (H := (blk t 65 [.slice r1.1 L.length r1.2] :: row rnE 62 (.slice r1.1 L.length r1.2) L :: row rnE 62 (.slice (some ⟨b, o, none⟩) L.length c) L :: H)) (z := 5) 5 [0, 2, 6, 7, 32, 33] [(0, .pointer (some ⟨t, 0, none⟩)), (2, .int .i64 W), (6, .int .i64 0), (7, .int .i64 (i : Int)), (32, .slice r1.1 L.length r1.2), (33, .int .i64 (i : Int))] [(⟨t, 0, none⟩, .slice r1.1 L.length r1.2)] (hasC (blkAt (T := 65) (cs := [.slice r1.1 L.length r1.2]) 0 rfl rfl) has0) (fun _ => by kernel_rfl) ?_ : RT _ _ _ _ _ _ 10 _)
        refine (RT.pick 2 rfl ?_ : RT _ _ _ (blk t 65 [.slice r1.1 L.length r1.2] :: row rnE 62 (.slice r1.1 L.length r1.2) L :: row rnE 62 (.slice (some ⟨b, o, none⟩) L.length c) L :: H) _ _ 5 _)
        refine PT.drop ?_
        refine PT.know (KR.isSome (s := ⟨r1.1, r1.2, L⟩) (rowKRat 1 rfl) hne) ?_
        rintro ⟨wb, wo, hA2⟩
        dsimp only at hA2
        rw [hA2]
        refine (stepR (z := 4) (yldS (idxY 63 (.tmp 32) (.tmp 33) wb wo L.length r1.2 i 7 62 (i : Int) .i64 (some 34) (fun _ => by kernel_rfl) (by kernel_rfl) (by kernel_rfl) (fun _ => by kernel_rfl) (fun _ => by kernel_rfl) Tryz.underlying63 (by kernel_rfl) (by first | rfl | assumption | simp) (by first | omega | (simp; done) | (simp; omega) | (simp at *; omega)))) (fun _ => ?_) : RT _ _ _ _ _ _ 5 _)
        refine (runR (H := (blk t 65 [.slice (some ⟨wb, wo, none⟩) L.length r1.2] :: row rnE 62 (.slice (some ⟨wb, wo, none⟩) L.length r1.2) L :: H)) (z := 2) 2 [0, 2, 6, 7, 36] [(0, .pointer (some ⟨t, 0, none⟩)), (2, .int .i64 W), (6, .int .i64 0), (7, .int .i64 (i : Int)), (36, .agg #[.int .i64 x.id, .int .i64 x.par, .int .i64 x.wt, .int .i64 x.pass, .bool x.thr, .bool x.rdy])] [(⟨wb, wo + i * 7, none⟩, .int .i64 x.id), (⟨wb, wo + i * 7 + 1, none⟩, .int .i64 x.par), (⟨wb, wo + i * 7 + 2, none⟩, .int .i64 x.wt), (⟨wb, wo + i * 7 + 3, none⟩, .int .i64 x.pass), (⟨wb, wo + i * 7 + 4, none⟩, .bool x.thr), (⟨wb, wo + i * 7 + 5, none⟩, .bool x.rdy)] (hasC (rowCell (E := rnE) (xs := L) 1 rfl (x := x) hi (j := 0) rfl) (hasC (rowCell (E := rnE) (xs := L) 1 rfl (x := x) hi (j := 1) rfl) (hasC (rowCell (E := rnE) (xs := L) 1 rfl (x := x) hi (j := 2) rfl) (hasC (rowCell (E := rnE) (xs := L) 1 rfl (x := x) hi (j := 3) rfl) (hasC (rowCell (E := rnE) (xs := L) 1 rfl (x := x) hi (j := 4) rfl) (hasC (rowCell (E := rnE) (xs := L) 1 rfl (x := x) hi (j := 5) rfl) has0)))))) (fun _ => by kernel_rfl) ?_ : RT _ _ _ _ _ _ 4 _)
        refine (stepR (z := 1) (newS 48 [.int .i64 0, .int .i64 0, .int .i64 0, .int .i64 0, .bool false, .bool false] (some 8) (fun b => .pointer (some ⟨b, 0, none⟩)) (fun _ _ => by kernel_rfl)) (fun b2 => ?_) : RT _ _ _ _ _ _ 2 _)
        refine (stepR (z := 0) (storeS [(0, .int .i64 x.id), (1, .int .i64 x.par), (2, .int .i64 x.wt), (3, .int .i64 x.pass), (4, .bool x.thr), (5, .bool x.rdy)] [.int .i64 x.id, .int .i64 x.par, .int .i64 x.wt, .int .i64 x.pass, .bool x.thr, .bool x.rdy] (fun _ => by kernel_rfl) (by kernel_rfl) (by kernel_rfl)) (fun _ => ?_) : RT _ _ _ _ _ _ 1 _)
        refine endR ?_
        refine PT.pick 0 rfl ?_
        refine PT.pick 2 rfl ?_
        refine PT.pick 2 rfl ?_
        refine seqR (by kernel_rfl) ?_
        refine drawR (fun w => Sat w (blk t 65 [.slice (some ⟨wb, wo, none⟩) L.length r1.2] :: row rnE 62 (.slice (some ⟨wb, wo, none⟩) L.length r1.2) L :: blk b2 48 [.int .i64 x.id, .int .i64 x.par, .int .i64 x.wt, .int .i64 x.pass, .bool x.thr, .bool x.rdy] :: H)) [18] 19 (by kernel_rfl) (by kernel_rfl) (by kernel_rfl) (fun _ h => by first | exact h | exact h.tail | exact h.tail.tail | exact h.tail.tail.tail | exact h.tail.tail.tail.tail) ?_
        refine takesR [0, 1, 2, 3, 4, 5, 6, 7, 8, 13, 14, 15] [8, 0, 2, 6, 7, 38, 42, 43, 45, 51, 52] 7 [true, true, true, true, true, true, true, true, true, false, false, false, false, true, true, true, false, false, false] [(8, .pointer (some ⟨b2, 0, none⟩)), (0, .pointer (some ⟨t, 0, none⟩)), (2, .int .i64 W), (6, .int .i64 0), (7, .int .i64 (i : Int)), (38, .int .i64 x.pass), (42, .slice (some ⟨wb, wo, none⟩) L.length r1.2), (43, .pointer (some ⟨t, 0, none⟩)), (45, .int .i64 x.par), (51, .int .i64 x.wt), (52, .int .i64 W)] [(⟨b2, 3, none⟩, .int .i64 x.pass), (⟨t, 0, none⟩, .slice (some ⟨wb, wo, none⟩) L.length r1.2), (⟨b2, 1, none⟩, .int .i64 x.par), (⟨b2, 2, none⟩, .int .i64 x.wt)] rfl (fun _ d _ _ _ h => by cases d <;> exact h) (fun _ h => by first | exact h | exact h.tail | exact h.tail.tail | exact h.tail.tail.tail | exact h.tail.tail.tail.tail) (hasC (blkAt (T := 48) (cs := [.int .i64 x.id, .int .i64 x.par, .int .i64 x.wt, .int .i64 x.pass, .bool x.thr, .bool x.rdy]) 2 rfl rfl) (hasC (blkAt (T := 65) (cs := [.slice (some ⟨wb, wo, none⟩) L.length r1.2]) 0 rfl rfl) (hasC (blkAt (T := 48) (cs := [.int .i64 x.id, .int .i64 x.par, .int .i64 x.wt, .int .i64 x.pass, .bool x.thr, .bool x.rdy]) 2 rfl rfl) (hasC (blkAt (T := 48) (cs := [.int .i64 x.id, .int .i64 x.par, .int .i64 x.wt, .int .i64 x.pass, .bool x.thr, .bool x.rdy]) 2 rfl rfl) has0)))) (fun _ => by kernel_rfl) ?_
        refine oneR 9 6 [true, true, true, true, true, true, true, true, true, true, false, false, false, true, true, true, false, false, false] rfl rfl (by kernel_rfl) (callS 28 [.pointer (some ⟨t, 0, none⟩), .int .i64 x.par] (some 46) (fun _ => .int .i64 (ixL L x.par)) (fun _ => (blk t 65 [.slice (some ⟨wb, wo, none⟩) L.length r1.2] :: row rnE 62 (.slice (some ⟨wb, wo, none⟩) L.length r1.2) L :: blk b2 48 [.int .i64 x.id, .int .i64 x.par, .int .i64 x.wt, .int .i64 x.pass, .bool x.thr, .bool x.rdy] :: H)) (fun _ => by kernel_rfl) (rat_walk _ t wb wo r1.2 L x.par (by omega))) (fun _ _ h hn => by first | exact h | exact h.tail | exact h.tail.tail | exact h.tail.tail.tail | exact h.tail.tail.tail.tail | exact absurd hn (by decide)) (fun _ => ?_)
        rw [show ixL L x.par = (j : Int) by exact hjx]
        refine takeR1 10 5 [true, true, true, true, true, true, true, true, true, true, true, false, false, true, true, true, false, false, false] rfl rfl (by kernel_rfl) (fun _ d _ _ _ h => by cases d <;> exact h) (fun _ h => by first | exact h | exact h.tail | exact h.tail.tail | exact h.tail.tail.tail | exact h.tail.tail.tail.tail) (idxY 63 (.tmp 42) (.tmp 46) wb wo L.length r1.2 j 7 62 (j : Int) .i64 (some 47) (fun _ => by kernel_rfl) (by kernel_rfl) (by kernel_rfl) (fun _ => by kernel_rfl) (fun _ => by kernel_rfl) Tryz.underlying63 (by kernel_rfl) (by first | rfl | assumption | simp) (by first | omega | (simp; done) | (simp; omega) | (simp at *; omega))) ?_
        refine takesR [11, 12] [8, 0, 2, 6, 7, 38, 51, 52, 49] 3 [true, true, true, true, true, true, true, true, true, true, true, true, true, true, true, true, false, false, false] [(8, .pointer (some ⟨b2, 0, none⟩)), (0, .pointer (some ⟨t, 0, none⟩)), (2, .int .i64 W), (6, .int .i64 0), (7, .int .i64 (i : Int)), (38, .int .i64 x.pass), (51, .int .i64 x.wt), (52, .int .i64 W), (49, .int .i64 p.now)] [(⟨wb, wo + j * 7 + 6, none⟩, .int .i64 p.now)] rfl (fun _ d _ _ _ h => by cases d <;> exact h) (fun _ h => by first | exact h | exact h.tail | exact h.tail.tail | exact h.tail.tail.tail | exact h.tail.tail.tail.tail) (hasC (rowCell (E := rnE) (xs := L) 1 rfl (x := p) hj (j := 6) rfl) has0) (fun _ => by kernel_rfl) ?_
        refine oneR 16 2 [true, true, true, true, true, true, true, true, true, true, true, true, true, true, true, true, true, false, false] rfl rfl (by kernel_rfl) (callS 36 [.int .i64 x.pass, .int .i64 p.now, .int .i64 x.wt, .int .i64 W] (some 53) (fun _ => .int .i64 (scaleN x.pass p.now x.wt W)) (fun _ => (blk t 65 [.slice (some ⟨wb, wo, none⟩) L.length r1.2] :: row rnE 62 (.slice (some ⟨wb, wo, none⟩) L.length r1.2) L :: blk b2 48 [.int .i64 x.id, .int .i64 x.par, .int .i64 x.wt, .int .i64 x.pass, .bool x.thr, .bool x.rdy] :: H)) (fun _ => by kernel_rfl) (rscale_walk _ hpx.1 hnp (hw.wt x hxL) hW hpn)) (fun _ _ h hn => by first | exact h | exact h.tail | exact h.tail.tail | exact h.tail.tail.tail | exact h.tail.tail.tail.tail | exact absurd hn (by decide)) (fun _ => ?_)
        refine takesR [17] [53, 8, 0, 2, 6, 7, 54] 1 [true, true, true, true, true, true, true, true, true, true, true, true, true, true, true, true, true, true, false] [(53, .int .i64 (scaleN x.pass p.now x.wt W)), (8, .pointer (some ⟨b2, 0, none⟩)), (0, .pointer (some ⟨t, 0, none⟩)), (2, .int .i64 W), (6, .int .i64 0), (7, .int .i64 (i : Int)), (54, .pointer (some ⟨b2, 3, none⟩))] [] rfl (fun _ d _ _ _ h => by cases d <;> exact h) (fun _ h => by first | exact h | exact h.tail | exact h.tail.tail | exact h.tail.tail.tail | exact h.tail.tail.tail.tail) has0 (fun _ => by kernel_rfl) ?_
        refine DT.pick 2 rfl ?_
        refine oneR 18 0 [true, true, true, true, true, true, true, true, true, true, true, true, true, true, true, true, true, true, true] rfl rfl (by kernel_rfl) (storeS [(3, .int .i64 (scaleN x.pass p.now x.wt W))] [.int .i64 x.id, .int .i64 x.par, .int .i64 x.wt, .int .i64 (scaleN x.pass p.now x.wt W), .bool x.thr, .bool x.rdy] (fun _ => by kernel_rfl) (by kernel_rfl) (by kernel_rfl)) (fun _ _ h hn => by first | exact h | exact h.tail | exact h.tail.tail | exact h.tail.tail.tail | exact h.tail.tail.tail.tail | exact absurd hn (by decide)) (fun _ => ?_)
        refine drawnR (by kernel_rfl) ?_
        refine seqR (by kernel_rfl) ?_
        refine regionR 3 (by kernel_rfl) (by kernel_rfl) ?_
        refine (run0 (z := 1) 2 [8, 0, 6, 7, 55, 56] [(8, .pointer (some ⟨b2, 0, none⟩)), (0, .pointer (some ⟨t, 0, none⟩)), (6, .int .i64 0), (7, .int .i64 (i : Int)), (55, .int .i64 W), (56, .pointer (some ⟨b2, 2, none⟩))] (fun _ => by kernel_rfl) ?_ : RT _ _ _ _ _ _ 3 _)
        refine (stepR (z := 0) (storeS [(2, .int .i64 W)] [.int .i64 x.id, .int .i64 x.par, .int .i64 W, .int .i64 (scaleN x.pass p.now x.wt W), .bool x.thr, .bool x.rdy] (fun _ => by kernel_rfl) (by kernel_rfl) (by kernel_rfl)) (fun _ => ?_) : RT _ _ _ _ _ _ 1 _)
        refine endR ?_
        refine seqR (by kernel_rfl) ?_
        refine drawR (fun w => Sat w (blk b2 48 [.int .i64 x.id, .int .i64 x.par, .int .i64 W, .int .i64 (scaleN x.pass p.now x.wt W), .bool x.thr, .bool x.rdy] :: blk t 65 [.slice (some ⟨wb, wo, none⟩) L.length r1.2] :: row rnE 62 (.slice (some ⟨wb, wo, none⟩) L.length r1.2) L :: H)) [8] 9 (by kernel_rfl) (by kernel_rfl) (by kernel_rfl) (fun _ h => by first | exact h | exact h.tail | exact h.tail.tail | exact h.tail.tail.tail | exact h.tail.tail.tail.tail) ?_
        refine takesR [0, 1, 2, 3, 4, 5] [6, 60, 61, 62] 3 [true, true, true, true, true, true, false, false, false] [(6, .int .i64 0), (60, .slice (some ⟨wb, wo, none⟩) L.length r1.2), (61, .int .i64 (i : Int)), (62, .agg #[.int .i64 x.id, .int .i64 x.par, .int .i64 W, .int .i64 (scaleN x.pass p.now x.wt W), .bool x.thr, .bool x.rdy])] [(⟨t, 0, none⟩, .slice (some ⟨wb, wo, none⟩) L.length r1.2), (⟨b2, 0, none⟩, .int .i64 x.id), (⟨b2, 1, none⟩, .int .i64 x.par), (⟨b2, 2, none⟩, .int .i64 W), (⟨b2, 3, none⟩, .int .i64 (scaleN x.pass p.now x.wt W)), (⟨b2, 4, none⟩, .bool x.thr), (⟨b2, 5, none⟩, .bool x.rdy)] rfl (fun _ d _ _ _ h => by cases d <;> exact h) (fun _ h => by first | exact h | exact h.tail | exact h.tail.tail | exact h.tail.tail.tail | exact h.tail.tail.tail.tail) (hasC (blkAt (T := 65) (cs := [.slice (some ⟨wb, wo, none⟩) L.length r1.2]) 1 rfl rfl) (hasC (blkAt (T := 48) (cs := [.int .i64 x.id, .int .i64 x.par, .int .i64 W, .int .i64 (scaleN x.pass p.now x.wt W), .bool x.thr, .bool x.rdy]) 0 rfl rfl) (hasC (blkAt (T := 48) (cs := [.int .i64 x.id, .int .i64 x.par, .int .i64 W, .int .i64 (scaleN x.pass p.now x.wt W), .bool x.thr, .bool x.rdy]) 0 rfl rfl) (hasC (blkAt (T := 48) (cs := [.int .i64 x.id, .int .i64 x.par, .int .i64 W, .int .i64 (scaleN x.pass p.now x.wt W), .bool x.thr, .bool x.rdy]) 0 rfl rfl) (hasC (blkAt (T := 48) (cs := [.int .i64 x.id, .int .i64 x.par, .int .i64 W, .int .i64 (scaleN x.pass p.now x.wt W), .bool x.thr, .bool x.rdy]) 0 rfl rfl) (hasC (blkAt (T := 48) (cs := [.int .i64 x.id, .int .i64 x.par, .int .i64 W, .int .i64 (scaleN x.pass p.now x.wt W), .bool x.thr, .bool x.rdy]) 0 rfl rfl) (hasC (blkAt (T := 48) (cs := [.int .i64 x.id, .int .i64 x.par, .int .i64 W, .int .i64 (scaleN x.pass p.now x.wt W), .bool x.thr, .bool x.rdy]) 0 rfl rfl) has0))))))) (fun _ => by kernel_rfl) ?_
        refine takeR1 6 2 [true, true, true, true, true, true, true, false, false] rfl rfl (by kernel_rfl) (fun _ d _ _ _ h => by cases d <;> exact h) (fun _ h => by first | exact h | exact h.tail | exact h.tail.tail | exact h.tail.tail.tail | exact h.tail.tail.tail.tail) (idxY 63 (.tmp 60) (.tmp 61) wb wo L.length r1.2 i 7 62 (i : Int) .i64 (some 63) (fun _ => by kernel_rfl) (by kernel_rfl) (by kernel_rfl) (fun _ => by kernel_rfl) (fun _ => by kernel_rfl) Tryz.underlying63 (by kernel_rfl) (by first | rfl | assumption | simp) (by first | omega | (simp; done) | (simp; omega) | (simp at *; omega))) ?_
        refine takesR [7] [6, 62, 64] 1 [true, true, true, true, true, true, true, true, false] [(6, .int .i64 0), (62, .agg #[.int .i64 x.id, .int .i64 x.par, .int .i64 W, .int .i64 (scaleN x.pass p.now x.wt W), .bool x.thr, .bool x.rdy]), (64, .pointer (some ⟨wb, wo + i * 7, none⟩))] [] rfl (fun _ d _ _ _ h => by cases d <;> exact h) (fun _ h => by first | exact h | exact h.tail | exact h.tail.tail | exact h.tail.tail.tail | exact h.tail.tail.tail.tail) has0 (fun _ => by kernel_rfl) ?_
        refine DT.pick 2 rfl ?_
        refine oneR 8 0 [true, true, true, true, true, true, true, true, true] rfl rfl (by kernel_rfl) (setsS (E := rnE) (J := i) x (wsF p.now W x) [(0, .int .i64 x.id), (1, .int .i64 x.par), (2, .int .i64 W), (3, .int .i64 (scaleN x.pass p.now x.wt W)), (4, .bool x.thr), (5, .bool x.rdy)] (fun _ => by kernel_rfl) (hi) (⟨x, ⟨rfl, rfl⟩, x, ⟨rfl, rfl⟩, { x with wt := W }, ⟨rfl, rfl⟩, wsF p.now W x, ⟨rfl, rfl⟩, wsF p.now W x, ⟨rfl, rfl⟩, wsF p.now W x, ⟨rfl, rfl⟩, rfl⟩)) (fun _ _ h hn => by first | exact h | exact h.tail | exact h.tail.tail | exact h.tail.tail.tail | exact h.tail.tail.tail.tail | exact absurd hn (by decide)) (fun _ => ?_)
        refine drawnR (by kernel_rfl) ?_
        refine seqR (by kernel_rfl) ?_
        refine regionR 1 (by kernel_rfl) (by kernel_rfl) ?_
        refine (run0 (z := 0) 1 [6] [(6, .int .i64 0)] (fun _ => by kernel_rfl) (endR ?_) : RT _ _ _ _ _ _ 1 _)
        refine retR (by kernel_rfl) ?_
        rw [show L.length = (upN L x.id (wsF p.now W)).length by simp [upN]]
        rw [show (L.set i (wsF p.now W x)) = (upN L x.id (wsF p.now W)) by exact set_at hnd hi (wsF p.now W)]
        refine PT.pick 1 rfl ?_
        refine PT.drop ?_
        refine PT.pick 0 rfl ?_
        refine PT.pick 1 rfl ?_
        refine done0 (.int .i64 0) (fun _ => by kernel_rfl) (fun w hs => ?_) .ret (.inr rfl)
        exact ⟨(), by rw [hz], by rw [hz]; exact Sat.closeRt (by simp [upN]; exact hne) hs⟩
end Go.Proofs.YtjbjngikaiggdaaGreatDoor
set_option linter.unusedVariables false
set_option linter.unusedSimpArgs false
namespace Go.Proofs.YtjbjngikaiggdaaGreatDoor
open Go.RowKit G
theorem filter_at {L : List Nr} (hn : (L.map (·.id)).Nodup) {i : Nat} {x : Nr} (hx : L[i]? = some x) : L.filter (fun y => !(y.id == x.id)) = L.eraseIdx i := by
  induction L generalizing i with
  | nil => simp at hx
  | cons a L ih =>
    simp only [List.map_cons, List.nodup_cons, List.mem_map, not_exists, not_and] at hn
    cases i with
    | zero =>
      simp at hx; subst hx
      rw [List.eraseIdx_cons_zero, List.filter_cons_of_neg (by simp)]
      exact List.filter_eq_self.2 fun y hy => by have := hn.1 y hy; simpa using this
    | succ i =>
      have hx' : L[i]? = some x := by simpa using hx
      have : a.id ≠ x.id := fun e => hn.1 x (List.mem_of_getElem? hx') e.symm
      rw [List.eraseIdx_cons_succ, List.filter_cons_of_pos (by simp [this]), ih hn.2 hx']
theorem rest_grp {L : List Nr} (hw : WFN L) {x : Nr} (hx : x ∈ L) (ht : x.thr = false) (hno : ∀ y ∈ L, y.par ≠ x.id) : restN 6 L x.id = L := by
  have hr : x.rdy = false := by
    cases h : x.rdy with
    | false => rfl
    | true => obtain ⟨y, hy, h1, _⟩ := (hw.rd x hx ht).1 h; exact absurd h1 (hno y hy)
  rw [restN, gt_of hw.sk.nd hx]; simp [hr]
set_option maxHeartbeats 1000000 in
set_option maxRecDepth 100000 in
theorem rremove_walk (H : List SP) (t : Nat) (L : List Nr) (hw : WFN L) (id : Int) : ∀ w, Sat w (rtS t L :: H) → Calls Tryz.prog 11 #[.pointer (some ⟨t, 0, none⟩), .int .i64 id] w (Ret (ι := Unit) (fun _ => .int .i64 (removeN L id).1) fun _ => rtS t (removeN L id).2 :: H) := by
  have hsk := hw.sk
  have hnd := hsk.nd
  have hl := hsk.len
  have hne : L ≠ [] := by obtain ⟨r, hr, _⟩ := hsk.root; exact List.ne_nil_of_mem hr
  refine enterG (fn := Tryz.f11) 66 [.pointer (some ⟨t, 0, none⟩), .int .i64 id] Tryz.func11 (by kernel_rfl) (by kernel_rfl) (by kernel_rfl) ?_
  refine PT.openRt fun b o c => ?_
  refine seqR (by kernel_rfl) ?_
  refine regionR 1 (by kernel_rfl) (by kernel_rfl) ?_
  refine (run0 (z := 0) 1 [0, 1, 4] [(0, .pointer (some ⟨t, 0, none⟩)), (1, .int .i64 id), (4, .int .i64 0)] (fun _ => by kernel_rfl) (endR ?_) : RT _ _ _ _ _ _ 1 _)
  refine seqR (by kernel_rfl) ?_
  refine regionR 4 (by kernel_rfl) (by kernel_rfl) ?_
  refine (run0 (z := 2) 2 [0, 1, 4, 7, 8] [(0, .pointer (some ⟨t, 0, none⟩)), (1, .int .i64 id), (4, .int .i64 0), (7, .pointer (some ⟨t, 0, none⟩)), (8, .int .i64 id)] (fun _ => by kernel_rfl) ?_ : RT _ _ _ _ _ _ 4 _)
  cases hg : gt L id with
  | none =>
    have hix : ixL L id = -1 := ixL_no (gt_none.1 hg)
    refine (stepR (z := 1) (callS 28 [.pointer (some ⟨t, 0, none⟩), .int .i64 id] (some 9) (fun _ => .int .i64 (ixL L id)) (fun _ => (blk t 65 [.slice (some ⟨b, o, none⟩) L.length c] :: row rnE 62 (.slice (some ⟨b, o, none⟩) L.length c) L :: H)) (fun _ => by kernel_rfl) (rat_walk H t b o c L id (by omega))) (fun _ => ?_) : RT _ _ _ _ _ _ 2 _)
    rw [show ixL L id = (-1) by exact hix]
    refine (run0 (z := 0) 1 [0, 1, 4, 5] [(0, .pointer (some ⟨t, 0, none⟩)), (1, .int .i64 id), (4, .int .i64 0), (5, .int .i64 (-1))] (fun _ => by kernel_rfl) (endR ?_) : RT _ _ _ _ _ _ 1 _)
    refine seqR (by kernel_rfl) ?_
    refine seqR (by kernel_rfl) ?_
    refine regionR 6 (by kernel_rfl) (by kernel_rfl) ?_
    refine (run0 (z := 0) 6 [0, 1, 4, 5, 15] [(0, .pointer (some ⟨t, 0, none⟩)), (1, .int .i64 id), (4, .int .i64 0), (5, .int .i64 (-1)), (15, .bool true)] (fun _ => by kernel_rfl) (endR ?_) : RT _ _ _ _ _ _ 6 _)
    refine condR (b := true) (by kernel_rfl) (fun _ => by kernel_rfl) (fun _ => ?_) (fun h => by cases h)
    refine seqR (by kernel_rfl) ?_
    refine regionR 1 (by kernel_rfl) (by kernel_rfl) ?_
    refine (run0 (z := 0) 1 [0, 1, 4, 5] [(0, .pointer (some ⟨t, 0, none⟩)), (1, .int .i64 id), (4, .int .i64 13), (5, .int .i64 (-1))] (fun _ => by kernel_rfl) (endR ?_) : RT _ _ _ _ _ _ 1 _)
    refine retR (by kernel_rfl) ?_
    refine thenV ?_
    have hz : removeN L id = (13, L) := by rw [removeN, if_pos (.inl (by rw [hg]; rfl))]
    refine done0 (.int .i64 13) (fun _ => by kernel_rfl) (fun w hs => ?_) .ret (.inr rfl)
    exact ⟨(), by rw [hz], by rw [hz]; exact Sat.closeRt hne hs⟩
  | some x =>
    obtain ⟨i, hi, hix⟩ := ixL_gt hnd hg
    have hil := (List.getElem?_eq_some_iff.1 hi).1
    obtain ⟨hxL, hxi⟩ := gt_mem hg
    refine (stepR (z := 1) (callS 28 [.pointer (some ⟨t, 0, none⟩), .int .i64 id] (some 9) (fun _ => .int .i64 (ixL L id)) (fun _ => (blk t 65 [.slice (some ⟨b, o, none⟩) L.length c] :: row rnE 62 (.slice (some ⟨b, o, none⟩) L.length c) L :: H)) (fun _ => by kernel_rfl) (rat_walk H t b o c L id (by omega))) (fun _ => ?_) : RT _ _ _ _ _ _ 2 _)
    rw [show ixL L id = (i : Int) by exact hix]
    refine (run0 (z := 0) 1 [0, 1, 4, 5] [(0, .pointer (some ⟨t, 0, none⟩)), (1, .int .i64 id), (4, .int .i64 0), (5, .int .i64 (i : Int))] (fun _ => by kernel_rfl) (endR ?_) : RT _ _ _ _ _ _ 1 _)
    refine seqR (by kernel_rfl) ?_
    refine seqR (by kernel_rfl) ?_
    refine regionR 6 (by kernel_rfl) (by kernel_rfl) ?_
    refine (run0 (z := 3) 3 [0, 1, 4, 5, 12] [(0, .pointer (some ⟨t, 0, none⟩)), (1, .int .i64 id), (4, .int .i64 0), (5, .int .i64 (i : Int)), (12, .bool (decide ((i : Int) < 0)))] (fun _ => by kernel_rfl) ?_ : RT _ _ _ _ _ _ 6 _)
    refine (segR (ι := Unit) (z := 0) 3 (fun _ => [(0, .pointer (some ⟨t, 0, none⟩)), (1, .int .i64 id), (4, .int .i64 0), (5, .int .i64 (i : Int)), (15, .bool ((decide ((i : Int) < 0)) || (id == 0)))]) (fun _ => (blk t 65 [.slice (some ⟨b, o, none⟩) L.length c] :: row rnE 62 (.slice (some ⟨b, o, none⟩) L.length c) L :: H)) ?_ (fun _ => ?_) : RT _ _ _ _ _ _ 3 _)
    · cases hg3 : (decide ((i : Int) < 0)) with
      | true =>
        refine (run0 (z := 0) 3 [0, 1, 4, 5, 15] [(0, .pointer (some ⟨t, 0, none⟩)), (1, .int .i64 id), (4, .int .i64 0), (5, .int .i64 (i : Int)), (15, .bool true)] (fun _ => by kernel_rfl) (endR ?_) : RT _ _ _ _ _ _ 3 _)
        refine PT.keep (L' := [(0, .pointer (some ⟨t, 0, none⟩)), (1, .int .i64 id), (4, .int .i64 0), (5, .int .i64 (i : Int)), (15, .bool (true || (id == 0)))]) [0, 1, 4, 5, 15] rfl ?_
        exact midR () rfl rfl
      | false =>
        refine (run0 (z := 0) 3 [0, 1, 4, 5, 15] [(0, .pointer (some ⟨t, 0, none⟩)), (1, .int .i64 id), (4, .int .i64 0), (5, .int .i64 (i : Int)), (15, .bool (id == 0))] (fun _ => by kernel_rfl) (endR ?_) : RT _ _ _ _ _ _ 3 _)
        refine PT.keep (L' := [(0, .pointer (some ⟨t, 0, none⟩)), (1, .int .i64 id), (4, .int .i64 0), (5, .int .i64 (i : Int)), (15, .bool (false || (id == 0)))]) [0, 1, 4, 5, 15] rfl ?_
        exact midR () rfl rfl
    refine endR ?_
    by_cases h0 : id = 0
    · skip
      rw [show ((decide ((i : Int) < 0)) || (id == 0)) = true from by simp [h0]]
      refine condR (b := true) (by kernel_rfl) (fun _ => by kernel_rfl) (fun _ => ?_) (fun h => by cases h)
      refine seqR (by kernel_rfl) ?_
      refine regionR 1 (by kernel_rfl) (by kernel_rfl) ?_
      refine (run0 (z := 0) 1 [0, 1, 4, 5] [(0, .pointer (some ⟨t, 0, none⟩)), (1, .int .i64 id), (4, .int .i64 13), (5, .int .i64 (i : Int))] (fun _ => by kernel_rfl) (endR ?_) : RT _ _ _ _ _ _ 1 _)
      refine retR (by kernel_rfl) ?_
      refine thenV ?_
      have hz : removeN L id = (13, L) := by rw [removeN, if_pos (.inr h0)]
      refine done0 (.int .i64 13) (fun _ => by kernel_rfl) (fun w hs => ?_) .ret (.inr rfl)
      exact ⟨(), by rw [hz], by rw [hz]; exact Sat.closeRt hne hs⟩
    · skip
      rw [show ((decide ((i : Int) < 0)) || (id == 0)) = false from by simp; omega]
      refine condR (b := false) (by kernel_rfl) (fun _ => by kernel_rfl) (fun h => by cases h) (fun _ => ?_)
      refine skipR (by kernel_rfl) ?_
      refine seqR (by kernel_rfl) ?_
      refine seqR (by kernel_rfl) ?_
      refine regionR 1 (by kernel_rfl) (by kernel_rfl) ?_
      refine (run0 (z := 0) 1 [0, 1, 4, 5, 6] [(0, .pointer (some ⟨t, 0, none⟩)), (1, .int .i64 id), (4, .int .i64 0), (5, .int .i64 (i : Int)), (6, .int .i64 0)] (fun _ => by kernel_rfl) (endR ?_) : RT _ _ _ _ _ _ 1 _)
      refine blockR 0 (by kernel_rfl) (by kernel_rfl) ?_
      refine PT.keep (L' := [(0, .pointer (some ⟨t, 0, none⟩)), (1, .int .i64 id), (5, .int .i64 (i : Int)), (6, .int .i64 0)]) [0, 1, 5, 6] rfl ?_
      refine loopG (fun (j : Nat) => [(0, .pointer (some ⟨t, 0, none⟩)), (1, .int .i64 id), (5, .int .i64 (i : Int)), (6, .int .i64 (j : Int))]) (fun (j : Nat) => (blk t 65 [.slice (some ⟨b, o, none⟩) L.length c] :: row rnE 62 (.slice (some ⟨b, o, none⟩) L.length c) L :: H)) (fun k (j : Nat) => k + j = L.length ∧ ∀ (m : Nat) y, m < j → L[m]? = some y → y.par ≠ id) L.length 0 (by kernel_rfl) ⟨by simp, fun m y hm => by omega⟩ ?_
      rintro k j ⟨hkj, hno⟩
      refine seqR (by kernel_rfl) ?_
      refine seqR (by kernel_rfl) ?_
      refine regionR 7 (by kernel_rfl) (by kernel_rfl) ?_
      refine (runR (H := (blk t 65 [.slice (some ⟨b, o, none⟩) L.length c] :: row rnE 62 (.slice (some ⟨b, o, none⟩) L.length c) L :: H)) (z := 0) 7 [0, 1, 5, 6, 22] [(0, .pointer (some ⟨t, 0, none⟩)), (1, .int .i64 id), (5, .int .i64 (i : Int)), (6, .int .i64 (j : Int)), (22, .bool (decide ((j : Int) < (L.length : Int))))] [(⟨t, 0, none⟩, .slice (some ⟨b, o, none⟩) L.length c)] (hasC (blkAt (T := 65) (cs := [.slice (some ⟨b, o, none⟩) L.length c]) 0 rfl rfl) has0) (fun _ => by kernel_rfl) (endR ?_) : RT _ _ _ _ _ _ 7 _)
      refine condR (b := decide ((j : Int) < (L.length : Int))) (by kernel_rfl) (fun _ => by kernel_rfl) (fun h1 => ?_) (fun h1 => ?_)
      · skip
        have hj : j < L.length := by have := of_decide_eq_true h1; omega
        obtain ⟨y, hy⟩ : ∃ y, L[j]? = some y := ⟨_, List.getElem?_eq_getElem hj⟩
        refine skipR (by kernel_rfl) ?_
        refine seqR (by kernel_rfl) ?_
        refine blockR 1 (by kernel_rfl) (by kernel_rfl) ?_
        refine seqR (by kernel_rfl) ?_
        refine regionR 11 (by kernel_rfl) (by kernel_rfl) ?_
        refine (runR (H := (blk t 65 [.slice (some ⟨b, o, none⟩) L.length c] :: row rnE 62 (.slice (some ⟨b, o, none⟩) L.length c) L :: H)) (z := 6) 5 [0, 1, 5, 6, 28, 29] [(0, .pointer (some ⟨t, 0, none⟩)), (1, .int .i64 id), (5, .int .i64 (i : Int)), (6, .int .i64 (j : Int)), (28, .slice (some ⟨b, o, none⟩) L.length c), (29, .int .i64 (j : Int))] [(⟨t, 0, none⟩, .slice (some ⟨b, o, none⟩) L.length c)] (hasC (blkAt (T := 65) (cs := [.slice (some ⟨b, o, none⟩) L.length c]) 0 rfl rfl) has0) (fun _ => by kernel_rfl) ?_ : RT _ _ _ _ _ _ 11 _)
        refine (stepR (z := 5) (yldS (idxY 63 (.tmp 28) (.tmp 29) b o L.length c j 7 62 (j : Int) .i64 (some 30) (fun _ => by kernel_rfl) (by kernel_rfl) (by kernel_rfl) (fun _ => by kernel_rfl) (fun _ => by kernel_rfl) Tryz.underlying63 (by kernel_rfl) (by first | rfl | assumption | simp) (by first | omega | (simp; done) | (simp; omega) | (simp at *; omega)))) (fun _ => ?_) : RT _ _ _ _ _ _ 6 _)
        refine (runR (H := (blk t 65 [.slice (some ⟨b, o, none⟩) L.length c] :: row rnE 62 (.slice (some ⟨b, o, none⟩) L.length c) L :: H)) (z := 0) 5 [0, 1, 5, 6, 35] [(0, .pointer (some ⟨t, 0, none⟩)), (1, .int .i64 id), (5, .int .i64 (i : Int)), (6, .int .i64 (j : Int)), (35, .bool (y.par == id))] [(⟨b, o + j * 7 + 1, none⟩, .int .i64 y.par)] (hasC (rowCell (E := rnE) (xs := L) 1 rfl (x := y) hy (j := 1) rfl) has0) (fun _ => by kernel_rfl) (endR ?_) : RT _ _ _ _ _ _ 5 _)
        refine condR (b := y.par == id) (by kernel_rfl) (fun _ => by kernel_rfl) (fun h2 => ?_) (fun h2 => ?_)
        · skip
          have hz : removeN L id = (10, L) := by rw [removeN, if_neg (by rw [hg]; simp; exact h0), if_pos (List.any_eq_true.2 ⟨y, List.mem_of_getElem? hy, h2⟩)]
          refine seqR (by kernel_rfl) ?_
          refine regionR 1 (by kernel_rfl) (by kernel_rfl) ?_
          refine (run0 (z := 0) 1 [0, 1, 5, 6, 4] [(0, .pointer (some ⟨t, 0, none⟩)), (1, .int .i64 id), (5, .int .i64 (i : Int)), (6, .int .i64 (j : Int)), (4, .int .i64 10)] (fun _ => by kernel_rfl) (endR ?_) : RT _ _ _ _ _ _ 1 _)
          refine retR (by kernel_rfl) ?_
          refine blockV ?_
          refine thenV ?_
          refine thenV ?_
          refine blockV ?_
          refine thenV ?_
          refine done0 (.int .i64 10) (fun _ => by kernel_rfl) (fun w hs => ?_) .ret (.inr rfl)
          exact ⟨(), by rw [hz], by rw [hz]; exact Sat.closeRt hne hs⟩
        · skip
          have h2 : y.par ≠ id := by simpa using h2
          refine skipR (by kernel_rfl) ?_
          refine regionR 3 (by kernel_rfl) (by kernel_rfl) ?_
          refine (run0 (z := 0) 3 [0, 1, 5, 6] [(0, .pointer (some ⟨t, 0, none⟩)), (1, .int .i64 id), (5, .int .i64 (i : Int)), (6, .int .i64 (IntKind.i64.wrap ((j : Int) + 1)))] (fun _ => by kernel_rfl) (endR ?_) : RT _ _ _ _ _ _ 3 _)
          rw [show IntKind.i64.wrap ((j : Int) + 1) = ((j : Int) + 1) by rw [w64 (by omega) (by omega)]]
          refine PT.keep (L' := [(0, .pointer (some ⟨t, 0, none⟩)), (1, .int .i64 id), (5, .int .i64 (i : Int)), (6, .int .i64 ((j : Int) + 1))]) [0, 1, 5, 6] rfl ?_
          exact againG (k - 1) (j + 1) rfl rfl (by omega) ⟨by omega, fun m z hm hz => by by_cases cj : m = j; (subst cj; rw [hy] at hz; cases hz; exact h2); exact hno m z (by omega) hz⟩
      · skip
        have hj : j = L.length := by have := of_decide_eq_false h1; omega
        have hno2 : ∀ y ∈ L, y.par ≠ id := fun y hy => by obtain ⟨m, hm⟩ := List.mem_iff_getElem?.1 hy; exact hno m y (by rw [hj]; exact (List.getElem?_eq_some_iff.1 hm).1) hm
        obtain ⟨M, hM⟩ : ∃ M, M = restN 6 L id := ⟨_, rfl⟩
        obtain ⟨g, hg1, _, hg3⟩ := restN_map 6 L id
        have hMl : M.length = L.length := by rw [hM, hg3, List.length_map]
        have hMn : (M.map (·.id)).Nodup := by rw [hM, hg3]; exact (hsk.map g hg1).nd
        have hMi : M[i]? = some (g x) := by rw [hM, hg3, List.getElem?_map, hi]; rfl
        have hgi : (g x).id = id := by rw [hg1.id, hxi]
        have hz : removeN L id = (0, M.eraseIdx i) := by
          rw [removeN, if_neg (by rw [hg]; simp; exact h0), if_neg (by rw [List.any_eq_true]; rintro ⟨y, hy, h⟩; exact hno2 y hy (by simpa using h)), ← hM, ← filter_at hMn hMi, hgi]
        have hne2 : M.eraseIdx i ≠ [] := by
          obtain ⟨r, hr, hr0⟩ := hsk.root
          rw [← filter_at hMn hMi, hgi]
          refine List.ne_nil_of_mem (a := g r) (List.mem_filter.2 ⟨by rw [hM, hg3]; exact List.mem_map.2 ⟨r, hr, rfl⟩, by rw [hg1.id, hr0]; simp; omega⟩)
        refine exitR 0 (by kernel_rfl) (by kernel_rfl) ?_
        refine thenX ?_
        refine thenX ?_
        refine leaveR ?_
        refine seqR (by kernel_rfl) ?_
        refine seqR (by kernel_rfl) ?_
        refine regionR 9 (by kernel_rfl) (by kernel_rfl) ?_
        refine (runR (H := (blk t 65 [.slice (some ⟨b, o, none⟩) L.length c] :: row rnE 62 (.slice (some ⟨b, o, none⟩) L.length c) L :: H)) (z := 4) 5 [0, 1, 5, 39, 40] [(0, .pointer (some ⟨t, 0, none⟩)), (1, .int .i64 id), (5, .int .i64 (i : Int)), (39, .slice (some ⟨b, o, none⟩) L.length c), (40, .int .i64 (i : Int))] [(⟨t, 0, none⟩, .slice (some ⟨b, o, none⟩) L.length c)] (hasC (blkAt (T := 65) (cs := [.slice (some ⟨b, o, none⟩) L.length c]) 0 rfl rfl) has0) (fun _ => by kernel_rfl) ?_ : RT _ _ _ _ _ _ 9 _)
        refine (stepR (z := 3) (yldS (idxY 63 (.tmp 39) (.tmp 40) b o L.length c i 7 62 (i : Int) .i64 (some 41) (fun _ => by kernel_rfl) (by kernel_rfl) (by kernel_rfl) (fun _ => by kernel_rfl) (fun _ => by kernel_rfl) Tryz.underlying63 (by kernel_rfl) (by first | rfl | assumption | simp) (by first | omega | (simp; done) | (simp; omega) | (simp at *; omega)))) (fun _ => ?_) : RT _ _ _ _ _ _ 4 _)
        refine (runR (H := (blk t 65 [.slice (some ⟨b, o, none⟩) L.length c] :: row rnE 62 (.slice (some ⟨b, o, none⟩) L.length c) L :: H)) (z := 0) 3 [0, 1, 5, 44] [(0, .pointer (some ⟨t, 0, none⟩)), (1, .int .i64 id), (5, .int .i64 (i : Int)), (44, .bool x.thr)] [(⟨b, o + i * 7 + 4, none⟩, .bool x.thr)] (hasC (rowCell (E := rnE) (xs := L) 1 rfl (x := x) hi (j := 4) rfl) has0) (fun _ => by kernel_rfl) (endR ?_) : RT _ _ _ _ _ _ 3 _)
        refine joinR (fun (u : Unit) => [(0, .pointer (some ⟨t, 0, none⟩)), (1, .int .i64 id), (5, .int .i64 (i : Int)), (44, .bool x.thr)]) (fun (_ : Unit) => (rtS t M :: H)) ?_ (fun u => ?_)
        · skip
          cases ht : x.thr with
          | true =>
            refine condR (b := true) (by kernel_rfl) (fun _ => by kernel_rfl) (fun _ => ?_) (fun h => by cases h)
            refine regionR 3 (by kernel_rfl) (by kernel_rfl) ?_
            refine (run0 (z := 1) 2 [0, 1, 5, 44, 45, 46] [(0, .pointer (some ⟨t, 0, none⟩)), (1, .int .i64 id), (5, .int .i64 (i : Int)), (44, .bool true), (45, .pointer (some ⟨t, 0, none⟩)), (46, .int .i64 id)] (fun _ => by kernel_rfl) ?_ : RT _ _ _ _ _ _ 3 _)
            refine PT.closeRt hne ?_
            refine (stepR (z := 0) (callS 13 [.pointer (some ⟨t, 0, none⟩), .int .i64 id, .bool false] (some 47) (fun _ => .int .i64 (readyN L id false).1) (fun _ => (rtS t (readyN L id false).2 :: H)) (fun _ => by kernel_rfl) (rready_walk H t L hw id false)) (fun _ => ?_) : RT _ _ _ _ _ _ 1 _)
            rw [show (readyN L id false).2 = M by rw [readyN, hg, hM]; simp [ht]]
            refine endR ?_
            refine PT.keep (L' := [(0, .pointer (some ⟨t, 0, none⟩)), (1, .int .i64 id), (5, .int .i64 (i : Int)), (44, .bool true)]) [0, 1, 5, 44] rfl ?_
            exact midR (()) rfl rfl
          | false =>
            refine condR (b := false) (by kernel_rfl) (fun _ => by kernel_rfl) (fun h => by cases h) (fun _ => ?_)
            refine skipR (by kernel_rfl) ?_
            refine PT.closeRt hne ?_
            rw [show L = M by rw [hM, ← hxi, rest_grp hw hxL ht (by rw [hxi]; exact hno2)]]
            refine PT.keep (L' := [(0, .pointer (some ⟨t, 0, none⟩)), (1, .int .i64 id), (5, .int .i64 (i : Int)), (44, .bool false)]) [0, 1, 5, 44] rfl ?_
            exact midR (()) rfl rfl
        refine PT.openRt fun b2 o2 c2 => ?_
        refine PT.know (KR.le (s := ⟨some ⟨b2, o2, none⟩, c2, M⟩) (rowKRat 1 rfl)) ?_
        rintro ⟨hcle, _⟩
        dsimp only at hcle
        refine PT.rowNil rnE 62 ?_
        refine seqR (by kernel_rfl) ?_
        refine drawR (fun w => Sat w (blk t 65 [.slice (some ⟨b2, o2, none⟩) M.length c2] :: row rnE 62 (.slice (some ⟨b2, o2, none⟩) M.length c2) M :: H)) [18] 19 (by kernel_rfl) (by kernel_rfl) (by kernel_rfl) (fun _ h => by first | exact h | exact h.tail | exact h.tail.tail | exact h.tail.tail.tail | exact h.tail.tail.tail.tail) ?_
        refine takesR [0, 1, 2, 3, 4, 5, 8, 9, 10, 11, 12, 13] [48, 52, 53, 59, 61] 7 [true, true, true, true, true, true, false, false, true, true, true, true, true, true, false, false, false, false, false] [(48, .pointer (some ⟨t, 0, none⟩)), (52, .slice (some ⟨b2, o2, none⟩) M.length c2), (53, .int .i64 (i : Int)), (59, .slice (some ⟨b2, o2, none⟩) M.length c2), (61, .int .i64 (IntKind.i64.wrap ((i : Int) + 1)))] [(⟨t, 0, none⟩, .slice (some ⟨b2, o2, none⟩) M.length c2), (⟨t, 0, none⟩, .slice (some ⟨b2, o2, none⟩) M.length c2)] rfl (fun _ d _ _ _ h => by cases d <;> exact h) (fun _ h => by first | exact h | exact h.tail | exact h.tail.tail | exact h.tail.tail.tail | exact h.tail.tail.tail.tail) (hasC (blkAt (T := 65) (cs := [.slice (some ⟨b2, o2, none⟩) M.length c2]) 0 rfl rfl) (hasC (blkAt (T := 65) (cs := [.slice (some ⟨b2, o2, none⟩) M.length c2]) 0 rfl rfl) has0)) (fun _ => by kernel_rfl) ?_
        refine takeR1 6 6 [true, true, true, true, true, true, true, false, true, true, true, true, true, true, false, false, false, false, false] rfl rfl (by kernel_rfl) (fun _ d _ _ _ h => by cases d <;> exact h) (fun _ h => by first | exact h | exact h.tail | exact h.tail.tail | exact h.tail.tail.tail | exact h.tail.tail.tail.tail) (slcY 63 (.tmp 52) none (some (.tmp 53)) (some ⟨b2, o2, none⟩) M.length c2 0 i 7 62 (some 54) (fun _ => by kernel_rfl) (by kernel_rfl) (by kernel_rfl) (fun _ => by kernel_rfl) (.inl ⟨rfl, rfl⟩) (.inr ⟨_, .i64, (i : Int), rfl, fun _ => by kernel_rfl, by first | rfl | omega⟩) Tryz.underlying63 (by kernel_rfl) (by omega) (by omega)) ?_
        rw [show IntKind.i64.wrap ((i : Int) + 1) = ((i : Int) + 1) by rw [w64 (by omega) (by omega)]]
        refine takeR1 14 5 [true, true, true, true, true, true, true, false, true, true, true, true, true, true, true, false, false, false, false] rfl rfl (by kernel_rfl) (fun _ d _ _ _ h => by cases d <;> exact h) (fun _ h => by first | exact h | exact h.tail | exact h.tail.tail | exact h.tail.tail.tail | exact h.tail.tail.tail.tail) (slcY 63 (.tmp 59) (some (.tmp 61)) none (some ⟨b2, o2, none⟩) M.length c2 (i + 1) M.length 7 62 (some 62) (fun _ => by kernel_rfl) (by kernel_rfl) (by kernel_rfl) (fun _ => by kernel_rfl) (.inr ⟨_, .i64, ((i : Int) + 1), rfl, fun _ => by kernel_rfl, by first | rfl | omega⟩) (.inl ⟨rfl, rfl⟩) Tryz.underlying63 (by kernel_rfl) (by omega) (by omega)) ?_
        refine oneR 7 4 [true, true, true, true, true, true, true, true, true, true, true, true, true, true, true, false, false, false, false] rfl rfl (by kernel_rfl) (appS (E := rnE) 63 (.const (.slice none 0 0)) (.tmp 54) none 0 [] (M.take i) (.slice (cutA (some ⟨b2, o2, none⟩) c2 0 7) (i - 0) (c2 - 0)) (some 55) (fun _ => by kernel_rfl) (by kernel_rfl) (by kernel_rfl) (fun _ => by kernel_rfl) (fun _ => by kernel_rfl) Tryz.underlying63 (rnE_ety) (subRd (rowKRat 2 rfl) (by omega) (by omega)) (by simp; omega)) (fun _ _ h hn => by first | exact h | exact h.tail | exact h.tail.tail | exact h.tail.tail.tail | exact h.tail.tail.tail.tail | exact absurd hn (by decide)) (fun r1 => ?_)
        refine oneR 15 3 [true, true, true, true, true, true, true, true, true, true, true, true, true, true, true, true, false, false, false] rfl rfl (by kernel_rfl) (appS (E := rnE) 63 (.tmp 55) (.tmp 62) r1.1 r1.2 ([] ++ (M.take i)) (M.drop (i + 1)) (.slice (cutA (some ⟨b2, o2, none⟩) c2 (i + 1) 7) (M.length - (i + 1)) (c2 - (i + 1))) (some 63) (fun _ => by kernel_rfl) (by kernel_rfl) (by kernel_rfl) (fun _ => by kernel_rfl) (fun _ => by kernel_rfl) Tryz.underlying63 (rnE_ety) (dropRd (rowKRat 2 rfl) (by omega)) (by simp; omega)) (fun _ _ h hn => by first | exact h | exact h.tail | exact h.tail.tail | exact h.tail.tail.tail | exact h.tail.tail.tail.tail | exact absurd hn (by decide)) (fun r2 => ?_)
        refine takesR [16, 17] [63, 65] 1 [true, true, true, true, true, true, true, true, true, true, true, true, true, true, true, true, true, true, false] [(63, .slice r2.1 ((([] ++ (M.take i)) ++ (M.drop (i + 1))).length) r2.2), (65, .pointer (some ⟨t, 0, none⟩))] [] rfl (fun _ d _ _ _ h => by cases d <;> exact h) (fun _ h => by first | exact h | exact h.tail | exact h.tail.tail | exact h.tail.tail.tail | exact h.tail.tail.tail.tail) has0 (fun _ => by kernel_rfl) ?_
        refine DT.pick 1 rfl ?_
        refine oneR 18 0 [true, true, true, true, true, true, true, true, true, true, true, true, true, true, true, true, true, true, true] rfl rfl (by kernel_rfl) (storeS [(0, .slice r2.1 ((([] ++ (M.take i)) ++ (M.drop (i + 1))).length) r2.2)] [.slice r2.1 ((([] ++ (M.take i)) ++ (M.drop (i + 1))).length) r2.2] (fun _ => by kernel_rfl) (by kernel_rfl) (by kernel_rfl)) (fun _ _ h hn => by first | exact h | exact h.tail | exact h.tail.tail | exact h.tail.tail.tail | exact h.tail.tail.tail.tail | exact absurd hn (by decide)) (fun _ => ?_)
        refine drawnR (by kernel_rfl) ?_
        refine seqR (by kernel_rfl) ?_
        refine regionR 1 (by kernel_rfl) (by kernel_rfl) ?_
        refine (run0 (z := 0) 1 [4] [(4, .int .i64 0)] (fun _ => by kernel_rfl) (endR ?_) : RT _ _ _ _ _ _ 1 _)
        refine retR (by kernel_rfl) ?_
        refine PT.pick 2 rfl ?_
        refine PT.drop ?_
        rw [show (([] ++ (M.take i)) ++ (M.drop (i + 1))) = (M.eraseIdx i) by rw [List.eraseIdx_eq_take_drop_succ]; rfl]
        refine done0 (.int .i64 0) (fun _ => by kernel_rfl) (fun w hs => ?_) .ret (.inr rfl)
        exact ⟨(), by rw [hz], by rw [hz]; exact Sat.closeRt hne2 hs⟩
end Go.Proofs.YtjbjngikaiggdaaGreatDoor
set_option linter.unusedVariables false
set_option linter.unusedSimpArgs false
namespace Go.Proofs.YtjbjngikaiggdaaGreatDoor
open Go.RowKit G
def insN (n : Nr) : List Nr → List Nr
  | [] => [n]
  | y :: r => if y.id < n.id then y :: insN n r else n :: y :: r
theorem insN_at {n : Nr} : ∀ {L : List Nr} {k : Nat}, k ≤ L.length → (∀ (j : Nat) y, j < k → L[j]? = some y → y.id < n.id) → (∀ y, L[k]? = some y → ¬ y.id < n.id) → L.take k ++ [n] ++ L.drop k = insN n L
  | [], k, hk, _, _ => by have : k = 0 := by simpa using hk
                          subst this; rfl
  | y :: r, 0, _, _, h => by
    have := h y rfl
    rw [insN, if_neg this]; rfl
  | y :: r, k + 1, hk, h1, h2 => by
    have h0 := h1 0 y (by omega) rfl
    rw [insN, if_pos h0, ← insN_at (L := r) (k := k) (by simpa using hk) (fun j z hj hz => h1 (j + 1) z (by omega) (by simpa using hz)) (fun z hz => h2 z (by simpa using hz))]
    rfl
theorem insN_mem {n : Nr} : ∀ {L : List Nr} {z : Nr}, z ∈ insN n L ↔ z = n ∨ z ∈ L
  | [], z => by simp [insN]
  | y :: r, z => by
    unfold insN
    split
    · rw [List.mem_cons, insN_mem, List.mem_cons]
      constructor
      · rintro (h | h | h)
        · exact .inr (.inl h)
        · exact .inl h
        · exact .inr (.inr h)
      · rintro (h | h | h)
        · exact .inr (.inl h)
        · exact .inl h
        · exact .inr (.inr h)
    · simp
theorem insN_perm (n : Nr) : ∀ L : List Nr, (insN n L).Perm (L ++ [n])
  | [] => .refl _
  | y :: r => by
    unfold insN
    split
    · exact (insN_perm n r).cons y
    · exact (List.perm_append_comm (l₁ := [n]) (l₂ := y :: r))
theorem deepN_le : ∀ (f : Nat) (N : List Nr) (k : Int), deepN f N k ≤ f
  | 0, _, _ => Nat.le_refl _
  | f + 1, N, k => by
    rw [deepN]
    split
    · omega
    · have := deepN_le f N (by assumption : Nr).par; omega
def newN (id par wt now : Int) (thr : Bool) : Nr := ⟨id, par, wt, now, thr, false, 0⟩
/-- Add, as the document has it: nodes by number. -/
def raddN (N : List Nr) (par id wt : Int) (thr : Bool) : Int × List Nr :=
  if isW wt = false ∨ id < 1 then (10, N) else match gt N par with
    | none => (13, N)
    | some p => if p.thr then (13, N) else if (gt N id).isSome then (20, N) else if thr = false ∧ 4 ≤ deepN 6 N par then (12, N) else if 60 ≤ N.length then (14, N)
      else (0, insN (newN id par wt p.now thr) N)
set_option maxHeartbeats 1000000 in
set_option maxRecDepth 100000 in
theorem radd_walk (H : List SP) (t : Nat) (L : List Nr) (hw : WFN L) (par id wt : Int) (thr : Bool) : ∀ w, Sat w (rtS t L :: H) → Calls Tryz.prog 9 #[.pointer (some ⟨t, 0, none⟩), .int .i64 par, .int .i64 id, .int .i64 wt, .bool thr] w (Ret (ι := Unit) (fun _ => .int .i64 (raddN L par id wt thr).1) fun _ => rtS t (raddN L par id wt thr).2 :: H) := by
  have hsk := hw.sk
  have hnd := hsk.nd
  have hl := hsk.len
  have hne : L ≠ [] := by obtain ⟨r, hr, _⟩ := hsk.root; exact List.ne_nil_of_mem hr
  refine enterG (fn := Tryz.f9) 117 [.pointer (some ⟨t, 0, none⟩), .int .i64 par, .int .i64 id, .int .i64 wt, .bool thr] Tryz.func9 (by kernel_rfl) (by kernel_rfl) (by kernel_rfl) ?_
  refine PT.openRt fun b o c => ?_
  refine seqR (by kernel_rfl) ?_
  refine regionR 1 (by kernel_rfl) (by kernel_rfl) ?_
  refine (run0 (z := 0) 1 [0, 1, 2, 3, 4, 10] [(0, .pointer (some ⟨t, 0, none⟩)), (1, .int .i64 par), (2, .int .i64 id), (3, .int .i64 wt), (4, .bool thr), (10, .int .i64 0)] (fun _ => by kernel_rfl) (endR ?_) : RT _ _ _ _ _ _ 1 _)
  refine seqR (by kernel_rfl) ?_
  refine regionR 4 (by kernel_rfl) (by kernel_rfl) ?_
  refine (run0 (z := 2) 2 [0, 1, 2, 3, 4, 10, 14, 15] [(0, .pointer (some ⟨t, 0, none⟩)), (1, .int .i64 par), (2, .int .i64 id), (3, .int .i64 wt), (4, .bool thr), (10, .int .i64 0), (14, .pointer (some ⟨t, 0, none⟩)), (15, .int .i64 par)] (fun _ => by kernel_rfl) ?_ : RT _ _ _ _ _ _ 4 _)
  cases hgp : gt L par with
  | none =>
    have hix : ixL L par = -1 := ixL_no (gt_none.1 hgp)
    refine (stepR (z := 1) (callS 28 [.pointer (some ⟨t, 0, none⟩), .int .i64 par] (some 16) (fun _ => .int .i64 (ixL L par)) (fun _ => (blk t 65 [.slice (some ⟨b, o, none⟩) L.length c] :: row rnE 62 (.slice (some ⟨b, o, none⟩) L.length c) L :: H)) (fun _ => by kernel_rfl) (rat_walk H t b o c L par (by omega))) (fun _ => ?_) : RT _ _ _ _ _ _ 2 _)
    rw [show ixL L par = (-1) by exact hix]
    refine (run0 (z := 0) 1 [0, 1, 2, 3, 4, 10, 11] [(0, .pointer (some ⟨t, 0, none⟩)), (1, .int .i64 par), (2, .int .i64 id), (3, .int .i64 wt), (4, .bool thr), (10, .int .i64 0), (11, .int .i64 (-1))] (fun _ => by kernel_rfl) (endR ?_) : RT _ _ _ _ _ _ 1 _)
    refine seqR (by kernel_rfl) ?_
    refine blockR 0 (by kernel_rfl) (by kernel_rfl) ?_
    refine seqR (by kernel_rfl) ?_
    refine regionR 8 (by kernel_rfl) (by kernel_rfl) ?_
    refine (run0 (z := 7) 1 [0, 1, 2, 3, 4, 10, 11, 18] [(0, .pointer (some ⟨t, 0, none⟩)), (1, .int .i64 par), (2, .int .i64 id), (3, .int .i64 wt), (4, .bool thr), (10, .int .i64 0), (11, .int .i64 (-1)), (18, .int .i64 wt)] (fun _ => by kernel_rfl) ?_ : RT _ _ _ _ _ _ 8 _)
    refine (stepR (z := 6) (callS 29 [.int .i64 wt] (some 19) (fun _ => .bool (isW wt)) (fun (_ : Unit) => (blk t 65 [.slice (some ⟨b, o, none⟩) L.length c] :: row rnE 62 (.slice (some ⟨b, o, none⟩) L.length c) L :: H)) (fun _ => by kernel_rfl) (rIsW_walk _ wt)) (fun _ => ?_) : RT _ _ _ _ _ _ 7 _)
    refine (run0 (z := 4) 2 [0, 1, 2, 3, 4, 10, 11, 21] [(0, .pointer (some ⟨t, 0, none⟩)), (1, .int .i64 par), (2, .int .i64 id), (3, .int .i64 wt), (4, .bool thr), (10, .int .i64 0), (11, .int .i64 (-1)), (21, .bool (!(isW wt)))] (fun _ => by kernel_rfl) ?_ : RT _ _ _ _ _ _ 6 _)
    refine (segR (ι := Unit) (z := 1) 3 (fun _ => [(0, .pointer (some ⟨t, 0, none⟩)), (1, .int .i64 par), (2, .int .i64 id), (3, .int .i64 wt), (4, .bool thr), (10, .int .i64 0), (11, .int .i64 (-1)), (24, .bool ((!(isW wt)) || (decide (id < 1))))]) (fun _ => (blk t 65 [.slice (some ⟨b, o, none⟩) L.length c] :: row rnE 62 (.slice (some ⟨b, o, none⟩) L.length c) L :: H)) ?_ (fun _ => ?_) : RT _ _ _ _ _ _ 4 _)
    · cases hg4 : (!(isW wt)) with
      | true =>
        refine (run0 (z := 0) 3 [0, 1, 2, 3, 4, 10, 11, 24] [(0, .pointer (some ⟨t, 0, none⟩)), (1, .int .i64 par), (2, .int .i64 id), (3, .int .i64 wt), (4, .bool thr), (10, .int .i64 0), (11, .int .i64 (-1)), (24, .bool true)] (fun _ => by kernel_rfl) (endR ?_) : RT _ _ _ _ _ _ 3 _)
        refine PT.keep (L' := [(0, .pointer (some ⟨t, 0, none⟩)), (1, .int .i64 par), (2, .int .i64 id), (3, .int .i64 wt), (4, .bool thr), (10, .int .i64 0), (11, .int .i64 (-1)), (24, .bool (true || (decide (id < 1))))]) [0, 1, 2, 3, 4, 10, 11, 24] rfl ?_
        exact midR () rfl rfl
      | false =>
        refine (run0 (z := 0) 3 [0, 1, 2, 3, 4, 10, 11, 24] [(0, .pointer (some ⟨t, 0, none⟩)), (1, .int .i64 par), (2, .int .i64 id), (3, .int .i64 wt), (4, .bool thr), (10, .int .i64 0), (11, .int .i64 (-1)), (24, .bool (decide (id < 1)))] (fun _ => by kernel_rfl) (endR ?_) : RT _ _ _ _ _ _ 3 _)
        refine PT.keep (L' := [(0, .pointer (some ⟨t, 0, none⟩)), (1, .int .i64 par), (2, .int .i64 id), (3, .int .i64 wt), (4, .bool thr), (10, .int .i64 0), (11, .int .i64 (-1)), (24, .bool (false || (decide (id < 1))))]) [0, 1, 2, 3, 4, 10, 11, 24] rfl ?_
        exact midR () rfl rfl
    refine (run0 (z := 0) 1 [0, 1, 2, 3, 4, 10, 11, 17] [(0, .pointer (some ⟨t, 0, none⟩)), (1, .int .i64 par), (2, .int .i64 id), (3, .int .i64 wt), (4, .bool thr), (10, .int .i64 0), (11, .int .i64 (-1)), (17, .bool ((!(isW wt)) || (decide (id < 1))))] (fun _ => by kernel_rfl) (endR ?_) : RT _ _ _ _ _ _ 1 _)
    refine condR (b := (!(isW wt)) || (decide (id < 1))) (by kernel_rfl) (fun _ => by kernel_rfl) (fun h1 => ?_) (fun h1 => ?_)
    · skip
      have hz : raddN L par id wt thr = (10, L) := by rw [raddN, if_pos (by simpa [Bool.or_eq_true] using h1)]
      refine seqR (by kernel_rfl) ?_
      refine regionR 1 (by kernel_rfl) (by kernel_rfl) ?_
      refine (run0 (z := 0) 1 [0, 1, 2, 3, 4, 10, 11] [(0, .pointer (some ⟨t, 0, none⟩)), (1, .int .i64 par), (2, .int .i64 id), (3, .int .i64 wt), (4, .bool thr), (10, .int .i64 10), (11, .int .i64 (-1))] (fun _ => by kernel_rfl) (endR ?_) : RT _ _ _ _ _ _ 1 _)
      refine retR (by kernel_rfl) ?_
      refine blockV ?_
      refine thenV ?_
      refine done0 (.int .i64 10) (fun _ => by kernel_rfl) (fun w hs => ?_) .ret (.inr rfl)
      exact ⟨(), by rw [hz], by rw [hz]; exact Sat.closeRt hne hs⟩
    · skip
      have hz : raddN L par id wt thr = (13, L) := by rw [raddN, if_neg (by simp at h1 ⊢; exact h1), hgp]
      refine seqR (by kernel_rfl) ?_
      refine regionR 14 (by kernel_rfl) (by kernel_rfl) ?_
      refine (run0 (z := 0) 14 [0, 1, 2, 3, 4, 10, 11, 25] [(0, .pointer (some ⟨t, 0, none⟩)), (1, .int .i64 par), (2, .int .i64 id), (3, .int .i64 wt), (4, .bool thr), (10, .int .i64 0), (11, .int .i64 (-1)), (25, .bool true)] (fun _ => by kernel_rfl) (endR ?_) : RT _ _ _ _ _ _ 14 _)
      refine condR (b := true) (by kernel_rfl) (fun _ => by kernel_rfl) (fun _ => ?_) (fun h => by cases h)
      refine seqR (by kernel_rfl) ?_
      refine regionR 1 (by kernel_rfl) (by kernel_rfl) ?_
      refine (run0 (z := 0) 1 [0, 1, 2, 3, 4, 10, 11] [(0, .pointer (some ⟨t, 0, none⟩)), (1, .int .i64 par), (2, .int .i64 id), (3, .int .i64 wt), (4, .bool thr), (10, .int .i64 13), (11, .int .i64 (-1))] (fun _ => by kernel_rfl) (endR ?_) : RT _ _ _ _ _ _ 1 _)
      refine retR (by kernel_rfl) ?_
      refine blockV ?_
      refine thenV ?_
      refine done0 (.int .i64 13) (fun _ => by kernel_rfl) (fun w hs => ?_) .ret (.inr rfl)
      exact ⟨(), by rw [hz], by rw [hz]; exact Sat.closeRt hne hs⟩
  | some p =>
    obtain ⟨i, hi, hix⟩ := ixL_gt hnd hgp
    have hil := (List.getElem?_eq_some_iff.1 hi).1
    refine (stepR (z := 1) (callS 28 [.pointer (some ⟨t, 0, none⟩), .int .i64 par] (some 16) (fun _ => .int .i64 (ixL L par)) (fun _ => (blk t 65 [.slice (some ⟨b, o, none⟩) L.length c] :: row rnE 62 (.slice (some ⟨b, o, none⟩) L.length c) L :: H)) (fun _ => by kernel_rfl) (rat_walk H t b o c L par (by omega))) (fun _ => ?_) : RT _ _ _ _ _ _ 2 _)
    rw [show ixL L par = (i : Int) by exact hix]
    refine (run0 (z := 0) 1 [0, 1, 2, 3, 4, 10, 11] [(0, .pointer (some ⟨t, 0, none⟩)), (1, .int .i64 par), (2, .int .i64 id), (3, .int .i64 wt), (4, .bool thr), (10, .int .i64 0), (11, .int .i64 (i : Int))] (fun _ => by kernel_rfl) (endR ?_) : RT _ _ _ _ _ _ 1 _)
    refine seqR (by kernel_rfl) ?_
    refine blockR 0 (by kernel_rfl) (by kernel_rfl) ?_
    refine seqR (by kernel_rfl) ?_
    refine regionR 8 (by kernel_rfl) (by kernel_rfl) ?_
    refine (run0 (z := 7) 1 [0, 1, 2, 3, 4, 10, 11, 18] [(0, .pointer (some ⟨t, 0, none⟩)), (1, .int .i64 par), (2, .int .i64 id), (3, .int .i64 wt), (4, .bool thr), (10, .int .i64 0), (11, .int .i64 (i : Int)), (18, .int .i64 wt)] (fun _ => by kernel_rfl) ?_ : RT _ _ _ _ _ _ 8 _)
    refine (stepR (z := 6) (callS 29 [.int .i64 wt] (some 19) (fun _ => .bool (isW wt)) (fun (_ : Unit) => (blk t 65 [.slice (some ⟨b, o, none⟩) L.length c] :: row rnE 62 (.slice (some ⟨b, o, none⟩) L.length c) L :: H)) (fun _ => by kernel_rfl) (rIsW_walk _ wt)) (fun _ => ?_) : RT _ _ _ _ _ _ 7 _)
    refine (run0 (z := 4) 2 [0, 1, 2, 3, 4, 10, 11, 21] [(0, .pointer (some ⟨t, 0, none⟩)), (1, .int .i64 par), (2, .int .i64 id), (3, .int .i64 wt), (4, .bool thr), (10, .int .i64 0), (11, .int .i64 (i : Int)), (21, .bool (!(isW wt)))] (fun _ => by kernel_rfl) ?_ : RT _ _ _ _ _ _ 6 _)
    refine (segR (ι := Unit) (z := 1) 3 (fun _ => [(0, .pointer (some ⟨t, 0, none⟩)), (1, .int .i64 par), (2, .int .i64 id), (3, .int .i64 wt), (4, .bool thr), (10, .int .i64 0), (11, .int .i64 (i : Int)), (24, .bool ((!(isW wt)) || (decide (id < 1))))]) (fun _ => (blk t 65 [.slice (some ⟨b, o, none⟩) L.length c] :: row rnE 62 (.slice (some ⟨b, o, none⟩) L.length c) L :: H)) ?_ (fun _ => ?_) : RT _ _ _ _ _ _ 4 _)
    · cases hg4 : (!(isW wt)) with
      | true =>
        refine (run0 (z := 0) 3 [0, 1, 2, 3, 4, 10, 11, 24] [(0, .pointer (some ⟨t, 0, none⟩)), (1, .int .i64 par), (2, .int .i64 id), (3, .int .i64 wt), (4, .bool thr), (10, .int .i64 0), (11, .int .i64 (i : Int)), (24, .bool true)] (fun _ => by kernel_rfl) (endR ?_) : RT _ _ _ _ _ _ 3 _)
        refine PT.keep (L' := [(0, .pointer (some ⟨t, 0, none⟩)), (1, .int .i64 par), (2, .int .i64 id), (3, .int .i64 wt), (4, .bool thr), (10, .int .i64 0), (11, .int .i64 (i : Int)), (24, .bool (true || (decide (id < 1))))]) [0, 1, 2, 3, 4, 10, 11, 24] rfl ?_
        exact midR () rfl rfl
      | false =>
        refine (run0 (z := 0) 3 [0, 1, 2, 3, 4, 10, 11, 24] [(0, .pointer (some ⟨t, 0, none⟩)), (1, .int .i64 par), (2, .int .i64 id), (3, .int .i64 wt), (4, .bool thr), (10, .int .i64 0), (11, .int .i64 (i : Int)), (24, .bool (decide (id < 1)))] (fun _ => by kernel_rfl) (endR ?_) : RT _ _ _ _ _ _ 3 _)
        refine PT.keep (L' := [(0, .pointer (some ⟨t, 0, none⟩)), (1, .int .i64 par), (2, .int .i64 id), (3, .int .i64 wt), (4, .bool thr), (10, .int .i64 0), (11, .int .i64 (i : Int)), (24, .bool (false || (decide (id < 1))))]) [0, 1, 2, 3, 4, 10, 11, 24] rfl ?_
        exact midR () rfl rfl
    refine (run0 (z := 0) 1 [0, 1, 2, 3, 4, 10, 11, 17] [(0, .pointer (some ⟨t, 0, none⟩)), (1, .int .i64 par), (2, .int .i64 id), (3, .int .i64 wt), (4, .bool thr), (10, .int .i64 0), (11, .int .i64 (i : Int)), (17, .bool ((!(isW wt)) || (decide (id < 1))))] (fun _ => by kernel_rfl) (endR ?_) : RT _ _ _ _ _ _ 1 _)
    refine condR (b := (!(isW wt)) || (decide (id < 1))) (by kernel_rfl) (fun _ => by kernel_rfl) (fun h1 => ?_) (fun h1 => ?_)
    · skip
      have hz : raddN L par id wt thr = (10, L) := by rw [raddN, if_pos (by simpa [Bool.or_eq_true] using h1)]
      refine seqR (by kernel_rfl) ?_
      refine regionR 1 (by kernel_rfl) (by kernel_rfl) ?_
      refine (run0 (z := 0) 1 [0, 1, 2, 3, 4, 10, 11] [(0, .pointer (some ⟨t, 0, none⟩)), (1, .int .i64 par), (2, .int .i64 id), (3, .int .i64 wt), (4, .bool thr), (10, .int .i64 10), (11, .int .i64 (i : Int))] (fun _ => by kernel_rfl) (endR ?_) : RT _ _ _ _ _ _ 1 _)
      refine retR (by kernel_rfl) ?_
      refine blockV ?_
      refine thenV ?_
      refine done0 (.int .i64 10) (fun _ => by kernel_rfl) (fun w hs => ?_) .ret (.inr rfl)
      exact ⟨(), by rw [hz], by rw [hz]; exact Sat.closeRt hne hs⟩
    · skip
      have h1' : ¬ (isW wt = false ∨ id < 1) := by simp at h1 ⊢; exact h1
      refine seqR (by kernel_rfl) ?_
      refine regionR 14 (by kernel_rfl) (by kernel_rfl) ?_
      refine (run0 (z := 11) 3 [0, 1, 2, 3, 4, 10, 11, 28] [(0, .pointer (some ⟨t, 0, none⟩)), (1, .int .i64 par), (2, .int .i64 id), (3, .int .i64 wt), (4, .bool thr), (10, .int .i64 0), (11, .int .i64 (i : Int)), (28, .bool (decide ((i : Int) < 0)))] (fun _ => by kernel_rfl) ?_ : RT _ _ _ _ _ _ 14 _)
      refine (segR (ι := Unit) (z := 1) 10 (fun _ => [(0, .pointer (some ⟨t, 0, none⟩)), (1, .int .i64 par), (2, .int .i64 id), (3, .int .i64 wt), (4, .bool thr), (10, .int .i64 0), (11, .int .i64 (i : Int)), (38, .bool ((decide ((i : Int) < 0)) || p.thr))]) (fun _ => (blk t 65 [.slice (some ⟨b, o, none⟩) L.length c] :: row rnE 62 (.slice (some ⟨b, o, none⟩) L.length c) L :: H)) ?_ (fun _ => ?_) : RT _ _ _ _ _ _ 11 _)
      · cases hg3 : (decide ((i : Int) < 0)) with
        | true =>
          refine (run0 (z := 0) 10 [0, 1, 2, 3, 4, 10, 11, 38] [(0, .pointer (some ⟨t, 0, none⟩)), (1, .int .i64 par), (2, .int .i64 id), (3, .int .i64 wt), (4, .bool thr), (10, .int .i64 0), (11, .int .i64 (i : Int)), (38, .bool true)] (fun _ => by kernel_rfl) (endR ?_) : RT _ _ _ _ _ _ 10 _)
          refine PT.keep (L' := [(0, .pointer (some ⟨t, 0, none⟩)), (1, .int .i64 par), (2, .int .i64 id), (3, .int .i64 wt), (4, .bool thr), (10, .int .i64 0), (11, .int .i64 (i : Int)), (38, .bool (true || p.thr))]) [0, 1, 2, 3, 4, 10, 11, 38] rfl ?_
          exact midR () rfl rfl
        | false =>
          refine (runR (H := (blk t 65 [.slice (some ⟨b, o, none⟩) L.length c] :: row rnE 62 (.slice (some ⟨b, o, none⟩) L.length c) L :: H)) (z := 5) 5 [0, 1, 2, 3, 4, 10, 11, 28, 32, 33] [(0, .pointer (some ⟨t, 0, none⟩)), (1, .int .i64 par), (2, .int .i64 id), (3, .int .i64 wt), (4, .bool thr), (10, .int .i64 0), (11, .int .i64 (i : Int)), (28, .bool false), (32, .slice (some ⟨b, o, none⟩) L.length c), (33, .int .i64 (i : Int))] [(⟨t, 0, none⟩, .slice (some ⟨b, o, none⟩) L.length c)] (hasC (blkAt (T := 65) (cs := [.slice (some ⟨b, o, none⟩) L.length c]) 0 rfl rfl) has0) (fun _ => by kernel_rfl) ?_ : RT _ _ _ _ _ _ 10 _)
          refine (stepR (z := 4) (yldS (idxY 63 (.tmp 32) (.tmp 33) b o L.length c i 7 62 (i : Int) .i64 (some 34) (fun _ => by kernel_rfl) (by kernel_rfl) (by kernel_rfl) (fun _ => by kernel_rfl) (fun _ => by kernel_rfl) Tryz.underlying63 (by kernel_rfl) (by first | rfl | assumption | simp) (by first | omega | (simp; done) | (simp; omega) | (simp at *; omega)))) (fun _ => ?_) : RT _ _ _ _ _ _ 5 _)
          refine (runR (H := (blk t 65 [.slice (some ⟨b, o, none⟩) L.length c] :: row rnE 62 (.slice (some ⟨b, o, none⟩) L.length c) L :: H)) (z := 0) 4 [0, 1, 2, 3, 4, 10, 11, 38] [(0, .pointer (some ⟨t, 0, none⟩)), (1, .int .i64 par), (2, .int .i64 id), (3, .int .i64 wt), (4, .bool thr), (10, .int .i64 0), (11, .int .i64 (i : Int)), (38, .bool p.thr)] [(⟨b, o + i * 7 + 4, none⟩, .bool p.thr)] (hasC (rowCell (E := rnE) (xs := L) 1 rfl (x := p) hi (j := 4) rfl) has0) (fun _ => by kernel_rfl) (endR ?_) : RT _ _ _ _ _ _ 4 _)
          refine PT.keep (L' := [(0, .pointer (some ⟨t, 0, none⟩)), (1, .int .i64 par), (2, .int .i64 id), (3, .int .i64 wt), (4, .bool thr), (10, .int .i64 0), (11, .int .i64 (i : Int)), (38, .bool (false || p.thr))]) [0, 1, 2, 3, 4, 10, 11, 38] rfl ?_
          exact midR () rfl rfl
      refine (run0 (z := 0) 1 [0, 1, 2, 3, 4, 10, 11, 25] [(0, .pointer (some ⟨t, 0, none⟩)), (1, .int .i64 par), (2, .int .i64 id), (3, .int .i64 wt), (4, .bool thr), (10, .int .i64 0), (11, .int .i64 (i : Int)), (25, .bool ((decide ((i : Int) < 0)) || p.thr))] (fun _ => by kernel_rfl) (endR ?_) : RT _ _ _ _ _ _ 1 _)
      cases hpt : p.thr with
      | true =>
        rw [show ((decide ((i : Int) < 0)) || true) = true from by simp]
        have hz : raddN L par id wt thr = (13, L) := by rw [raddN, if_neg h1', hgp]; simp only [hpt, if_true]
        refine condR (b := true) (by kernel_rfl) (fun _ => by kernel_rfl) (fun _ => ?_) (fun h => by cases h)
        refine seqR (by kernel_rfl) ?_
        refine regionR 1 (by kernel_rfl) (by kernel_rfl) ?_
        refine (run0 (z := 0) 1 [0, 1, 2, 3, 4, 10, 11] [(0, .pointer (some ⟨t, 0, none⟩)), (1, .int .i64 par), (2, .int .i64 id), (3, .int .i64 wt), (4, .bool thr), (10, .int .i64 13), (11, .int .i64 (i : Int))] (fun _ => by kernel_rfl) (endR ?_) : RT _ _ _ _ _ _ 1 _)
        refine retR (by kernel_rfl) ?_
        refine blockV ?_
        refine thenV ?_
        refine done0 (.int .i64 13) (fun _ => by kernel_rfl) (fun w hs => ?_) .ret (.inr rfl)
        exact ⟨(), by rw [hz], by rw [hz]; exact Sat.closeRt hne hs⟩
      | false =>
        rw [show ((decide ((i : Int) < 0)) || false) = false from by simp]
        refine condR (b := false) (by kernel_rfl) (fun _ => by kernel_rfl) (fun h => by cases h) (fun _ => ?_)
        refine seqR (by kernel_rfl) ?_
        refine regionR 5 (by kernel_rfl) (by kernel_rfl) ?_
        refine (run0 (z := 3) 2 [0, 1, 2, 3, 4, 10, 11, 40, 41] [(0, .pointer (some ⟨t, 0, none⟩)), (1, .int .i64 par), (2, .int .i64 id), (3, .int .i64 wt), (4, .bool thr), (10, .int .i64 0), (11, .int .i64 (i : Int)), (40, .pointer (some ⟨t, 0, none⟩)), (41, .int .i64 id)] (fun _ => by kernel_rfl) ?_ : RT _ _ _ _ _ _ 5 _)
        cases hgi : gt L id with
        | some y =>
          obtain ⟨j, hj, hjx⟩ := ixL_gt hnd hgi
          refine (stepR (z := 2) (callS 28 [.pointer (some ⟨t, 0, none⟩), .int .i64 id] (some 42) (fun _ => .int .i64 (ixL L id)) (fun _ => (blk t 65 [.slice (some ⟨b, o, none⟩) L.length c] :: row rnE 62 (.slice (some ⟨b, o, none⟩) L.length c) L :: H)) (fun _ => by kernel_rfl) (rat_walk H t b o c L id (by omega))) (fun _ => ?_) : RT _ _ _ _ _ _ 3 _)
          rw [show ixL L id = (j : Int) by exact hjx]
          refine (run0 (z := 0) 2 [0, 1, 2, 3, 4, 10, 11, 39] [(0, .pointer (some ⟨t, 0, none⟩)), (1, .int .i64 par), (2, .int .i64 id), (3, .int .i64 wt), (4, .bool thr), (10, .int .i64 0), (11, .int .i64 (i : Int)), (39, .bool (decide ((j : Int) ≥ 0)))] (fun _ => by kernel_rfl) (endR ?_) : RT _ _ _ _ _ _ 2 _)
          rw [show (decide ((j : Int) ≥ 0)) = true from by first | exact decide_eq_true (by omega) | (simp; done) | (simp; omega)]
          have hz : raddN L par id wt thr = (20, L) := by rw [raddN, if_neg h1', hgp]; simp [hpt, hgi]
          refine condR (b := true) (by kernel_rfl) (fun _ => by kernel_rfl) (fun _ => ?_) (fun h => by cases h)
          refine seqR (by kernel_rfl) ?_
          refine regionR 1 (by kernel_rfl) (by kernel_rfl) ?_
          refine (run0 (z := 0) 1 [0, 1, 2, 3, 4, 10, 11] [(0, .pointer (some ⟨t, 0, none⟩)), (1, .int .i64 par), (2, .int .i64 id), (3, .int .i64 wt), (4, .bool thr), (10, .int .i64 20), (11, .int .i64 (i : Int))] (fun _ => by kernel_rfl) (endR ?_) : RT _ _ _ _ _ _ 1 _)
          refine retR (by kernel_rfl) ?_
          refine blockV ?_
          refine thenV ?_
          refine done0 (.int .i64 20) (fun _ => by kernel_rfl) (fun w hs => ?_) .ret (.inr rfl)
          exact ⟨(), by rw [hz], by rw [hz]; exact Sat.closeRt hne hs⟩
        | none =>
          have hjx : ixL L id = -1 := ixL_no (gt_none.1 hgi)
          refine (stepR (z := 2) (callS 28 [.pointer (some ⟨t, 0, none⟩), .int .i64 id] (some 42) (fun _ => .int .i64 (ixL L id)) (fun _ => (blk t 65 [.slice (some ⟨b, o, none⟩) L.length c] :: row rnE 62 (.slice (some ⟨b, o, none⟩) L.length c) L :: H)) (fun _ => by kernel_rfl) (rat_walk H t b o c L id (by omega))) (fun _ => ?_) : RT _ _ _ _ _ _ 3 _)
          rw [show ixL L id = (-1) by exact hjx]
          refine (run0 (z := 0) 2 [0, 1, 2, 3, 4, 10, 11, 39] [(0, .pointer (some ⟨t, 0, none⟩)), (1, .int .i64 par), (2, .int .i64 id), (3, .int .i64 wt), (4, .bool thr), (10, .int .i64 0), (11, .int .i64 (i : Int)), (39, .bool false)] (fun _ => by kernel_rfl) (endR ?_) : RT _ _ _ _ _ _ 2 _)
          refine condR (b := false) (by kernel_rfl) (fun _ => by kernel_rfl) (fun h => by cases h) (fun _ => ?_)
          have hdl := deepN_le 6 L par
          refine seqR (by kernel_rfl) ?_
          refine joinR (fun (d : { d : Bool // d = true ↔ (thr = false ∧ 4 ≤ deepN 6 L par) }) => [(0, .pointer (some ⟨t, 0, none⟩)), (1, .int .i64 par), (2, .int .i64 id), (3, .int .i64 wt), (4, .bool thr), (10, .int .i64 0), (11, .int .i64 (i : Int)), (44, .bool d.1)]) (fun (_ : { d : Bool // d = true ↔ (thr = false ∧ 4 ≤ deepN 6 L par) }) => (blk t 65 [.slice (some ⟨b, o, none⟩) L.length c] :: row rnE 62 (.slice (some ⟨b, o, none⟩) L.length c) L :: H)) ?_ (fun d => ?_)
          · skip
            cases hthr : thr with
            | true =>
              refine regionR 10 (by kernel_rfl) (by kernel_rfl) ?_
              refine (run0 (z := 0) 10 [0, 1, 2, 3, 4, 10, 11, 44] [(0, .pointer (some ⟨t, 0, none⟩)), (1, .int .i64 par), (2, .int .i64 id), (3, .int .i64 wt), (4, .bool true), (10, .int .i64 0), (11, .int .i64 (i : Int)), (44, .bool false)] (fun _ => by kernel_rfl) (endR ?_) : RT _ _ _ _ _ _ 10 _)
              refine PT.keep (L' := [(0, .pointer (some ⟨t, 0, none⟩)), (1, .int .i64 par), (2, .int .i64 id), (3, .int .i64 wt), (4, .bool true), (10, .int .i64 0), (11, .int .i64 (i : Int)), (44, .bool false)]) [0, 1, 2, 3, 4, 10, 11, 44] rfl ?_
              exact midR (⟨false, by simp [hthr]⟩) rfl rfl
            | false =>
              refine regionR 10 (by kernel_rfl) (by kernel_rfl) ?_
              refine (run0 (z := 5) 5 [0, 1, 2, 3, 4, 10, 11, 47, 48, 49] [(0, .pointer (some ⟨t, 0, none⟩)), (1, .int .i64 par), (2, .int .i64 id), (3, .int .i64 wt), (4, .bool false), (10, .int .i64 0), (11, .int .i64 (i : Int)), (47, .bool true), (48, .pointer (some ⟨t, 0, none⟩)), (49, .int .i64 par)] (fun _ => by kernel_rfl) ?_ : RT _ _ _ _ _ _ 10 _)
              refine (stepR (z := 4) (callS 22 [.pointer (some ⟨t, 0, none⟩), .int .i64 par] (some 50) (fun _ => .int .i64 (deepN 6 L par : Int)) (fun _ => (blk t 65 [.slice (some ⟨b, o, none⟩) L.length c] :: row rnE 62 (.slice (some ⟨b, o, none⟩) L.length c) L :: H)) (fun _ => by kernel_rfl) (rdeep_walk H t b o c L hsk par)) (fun _ => ?_) : RT _ _ _ _ _ _ 5 _)
              refine (run0 (z := 0) 4 [0, 1, 2, 3, 4, 10, 11, 44] [(0, .pointer (some ⟨t, 0, none⟩)), (1, .int .i64 par), (2, .int .i64 id), (3, .int .i64 wt), (4, .bool false), (10, .int .i64 0), (11, .int .i64 (i : Int)), (44, .bool (decide ((IntKind.i64.wrap ((deepN 6 L par : Int) + 1)) > 4)))] (fun _ => by kernel_rfl) (endR ?_) : RT _ _ _ _ _ _ 4 _)
              rw [show IntKind.i64.wrap ((deepN 6 L par : Int) + 1) = ((deepN 6 L par : Int) + 1) by rw [w64 (by omega) (by omega)]]
              refine PT.keep (L' := [(0, .pointer (some ⟨t, 0, none⟩)), (1, .int .i64 par), (2, .int .i64 id), (3, .int .i64 wt), (4, .bool false), (10, .int .i64 0), (11, .int .i64 (i : Int)), (44, .bool (decide (((deepN 6 L par : Int) + 1) > 4)))]) [0, 1, 2, 3, 4, 10, 11, 44] rfl ?_
              exact midR (⟨decide (((deepN 6 L par : Int) + 1) > 4), by rw [decide_eq_true_eq]; simp [hthr]; omega⟩) rfl rfl
          obtain ⟨d, hd⟩ := d
          refine condR (b := d) (by kernel_rfl) (fun _ => by kernel_rfl) (fun h4 => ?_) (fun h4 => ?_)
          · skip
            have hz : raddN L par id wt thr = (12, L) := by rw [raddN, if_neg h1', hgp]; simp only [hpt, hgi]; simp only [Bool.false_eq_true, if_false, Option.isSome_none]; rw [if_pos (hd.1 h4)]
            refine seqR (by kernel_rfl) ?_
            refine regionR 1 (by kernel_rfl) (by kernel_rfl) ?_
            refine (run0 (z := 0) 1 [0, 1, 2, 3, 4, 10, 11] [(0, .pointer (some ⟨t, 0, none⟩)), (1, .int .i64 par), (2, .int .i64 id), (3, .int .i64 wt), (4, .bool thr), (10, .int .i64 12), (11, .int .i64 (i : Int))] (fun _ => by kernel_rfl) (endR ?_) : RT _ _ _ _ _ _ 1 _)
            refine retR (by kernel_rfl) ?_
            refine blockV ?_
            refine thenV ?_
            refine done0 (.int .i64 12) (fun _ => by kernel_rfl) (fun w hs => ?_) .ret (.inr rfl)
            exact ⟨(), by rw [hz], by rw [hz]; exact Sat.closeRt hne hs⟩
          · skip
            have h4' : ¬ (thr = false ∧ 4 ≤ deepN 6 L par) := fun h => by rw [hd.2 h] at h4; cases h4
            refine seqR (by kernel_rfl) ?_
            refine regionR 7 (by kernel_rfl) (by kernel_rfl) ?_
            refine (runR (H := (blk t 65 [.slice (some ⟨b, o, none⟩) L.length c] :: row rnE 62 (.slice (some ⟨b, o, none⟩) L.length c) L :: H)) (z := 0) 7 [0, 1, 2, 3, 4, 10, 11, 54] [(0, .pointer (some ⟨t, 0, none⟩)), (1, .int .i64 par), (2, .int .i64 id), (3, .int .i64 wt), (4, .bool thr), (10, .int .i64 0), (11, .int .i64 (i : Int)), (54, .bool (decide ((L.length : Int) ≥ 60)))] [(⟨t, 0, none⟩, .slice (some ⟨b, o, none⟩) L.length c)] (hasC (blkAt (T := 65) (cs := [.slice (some ⟨b, o, none⟩) L.length c]) 0 rfl rfl) has0) (fun _ => by kernel_rfl) (endR ?_) : RT _ _ _ _ _ _ 7 _)
            refine condR (b := decide ((L.length : Int) ≥ 60)) (by kernel_rfl) (fun _ => by kernel_rfl) (fun h5 => ?_) (fun h5 => ?_)
            · skip
              have h5 := of_decide_eq_true h5
              have hz : raddN L par id wt thr = (14, L) := by rw [raddN, if_neg h1', hgp]; simp only [hpt, hgi]; simp only [Bool.false_eq_true, if_false, Option.isSome_none]; rw [if_neg h4', if_pos (by omega)]
              refine seqR (by kernel_rfl) ?_
              refine regionR 1 (by kernel_rfl) (by kernel_rfl) ?_
              refine (run0 (z := 0) 1 [0, 1, 2, 3, 4, 10, 11] [(0, .pointer (some ⟨t, 0, none⟩)), (1, .int .i64 par), (2, .int .i64 id), (3, .int .i64 wt), (4, .bool thr), (10, .int .i64 14), (11, .int .i64 (i : Int))] (fun _ => by kernel_rfl) (endR ?_) : RT _ _ _ _ _ _ 1 _)
              refine retR (by kernel_rfl) ?_
              refine blockV ?_
              refine thenV ?_
              refine done0 (.int .i64 14) (fun _ => by kernel_rfl) (fun w hs => ?_) .ret (.inr rfl)
              exact ⟨(), by rw [hz], by rw [hz]; exact Sat.closeRt hne hs⟩
            · skip
              have h5 := of_decide_eq_false h5
              have hz : raddN L par id wt thr = (0, insN (newN id par wt p.now thr) L) := by rw [raddN, if_neg h1', hgp]; simp only [hpt, hgi]; simp only [Bool.false_eq_true, if_false, Option.isSome_none]; rw [if_neg h4', if_neg (by omega)]
              refine skipR (by kernel_rfl) ?_
              refine seqR (by kernel_rfl) ?_
              refine regionR 16 (by kernel_rfl) (by kernel_rfl) ?_
              refine (runR (H := (blk t 65 [.slice (some ⟨b, o, none⟩) L.length c] :: row rnE 62 (.slice (some ⟨b, o, none⟩) L.length c) L :: H)) (z := 8) 8 [0, 2, 4, 10, 61, 62, 63, 67, 68] [(0, .pointer (some ⟨t, 0, none⟩)), (2, .int .i64 id), (4, .bool thr), (10, .int .i64 0), (61, .int .i64 id), (62, .int .i64 par), (63, .int .i64 wt), (67, .slice (some ⟨b, o, none⟩) L.length c), (68, .int .i64 (i : Int))] [(⟨t, 0, none⟩, .slice (some ⟨b, o, none⟩) L.length c)] (hasC (blkAt (T := 65) (cs := [.slice (some ⟨b, o, none⟩) L.length c]) 0 rfl rfl) has0) (fun _ => by kernel_rfl) ?_ : RT _ _ _ _ _ _ 16 _)
              refine (stepR (z := 7) (yldS (idxY 63 (.tmp 67) (.tmp 68) b o L.length c i 7 62 (i : Int) .i64 (some 69) (fun _ => by kernel_rfl) (by kernel_rfl) (by kernel_rfl) (fun _ => by kernel_rfl) (fun _ => by kernel_rfl) Tryz.underlying63 (by kernel_rfl) (by first | rfl | assumption | simp) (by first | omega | (simp; done) | (simp; omega) | (simp at *; omega)))) (fun _ => ?_) : RT _ _ _ _ _ _ 8 _)
              refine (runR (H := (blk t 65 [.slice (some ⟨b, o, none⟩) L.length c] :: row rnE 62 (.slice (some ⟨b, o, none⟩) L.length c) L :: H)) (z := 2) 5 [0, 2, 10, 74] [(0, .pointer (some ⟨t, 0, none⟩)), (2, .int .i64 id), (10, .int .i64 0), (74, .agg #[.int .i64 id, .int .i64 par, .int .i64 wt, .int .i64 p.now, .bool thr, .bool false, .int .i64 0])] [(⟨b, o + i * 7 + 6, none⟩, .int .i64 p.now)] (hasC (rowCell (E := rnE) (xs := L) 1 rfl (x := p) hi (j := 6) rfl) has0) (fun _ => by kernel_rfl) ?_ : RT _ _ _ _ _ _ 7 _)
              refine (stepR (z := 1) (newS 62 [.int .i64 0, .int .i64 0, .int .i64 0, .int .i64 0, .bool false, .bool false, .int .i64 0] (some 12) (fun b => .pointer (some ⟨b, 0, none⟩)) (fun _ _ => by kernel_rfl)) (fun b1 => ?_) : RT _ _ _ _ _ _ 2 _)
              refine (stepR (z := 0) (storeS [(0, .int .i64 id), (1, .int .i64 par), (2, .int .i64 wt), (3, .int .i64 p.now), (4, .bool thr), (5, .bool false), (6, .int .i64 0)] [.int .i64 id, .int .i64 par, .int .i64 wt, .int .i64 p.now, .bool thr, .bool false, .int .i64 0] (fun _ => by kernel_rfl) (by kernel_rfl) (by kernel_rfl)) (fun _ => ?_) : RT _ _ _ _ _ _ 1 _)
              refine endR ?_
              refine seqR (by kernel_rfl) ?_
              refine regionR 1 (by kernel_rfl) (by kernel_rfl) ?_
              refine (run0 (z := 0) 1 [12, 0, 2, 10, 13] [(12, .pointer (some ⟨b1, 0, none⟩)), (0, .pointer (some ⟨t, 0, none⟩)), (2, .int .i64 id), (10, .int .i64 0), (13, .int .i64 0)] (fun _ => by kernel_rfl) (endR ?_) : RT _ _ _ _ _ _ 1 _)
              refine seqR (by kernel_rfl) ?_
              refine joinR (fun (q : { q : Nat // q ≤ L.length ∧ L.take q ++ [newN id par wt p.now thr] ++ L.drop q = insN (newN id par wt p.now thr) L }) => [(0, .pointer (some ⟨t, 0, none⟩)), (2, .int .i64 id), (10, .int .i64 0), (12, .pointer (some ⟨b1, 0, none⟩)), (13, .int .i64 (q.1 : Int))]) (fun (_ : { q : Nat // q ≤ L.length ∧ L.take q ++ [newN id par wt p.now thr] ++ L.drop q = insN (newN id par wt p.now thr) L }) => (blk b1 62 [.int .i64 id, .int .i64 par, .int .i64 wt, .int .i64 p.now, .bool thr, .bool false, .int .i64 0] :: blk t 65 [.slice (some ⟨b, o, none⟩) L.length c] :: row rnE 62 (.slice (some ⟨b, o, none⟩) L.length c) L :: H)) ?_ (fun q => ?_)
              · skip
                refine blockR 1 (by kernel_rfl) (by kernel_rfl) ?_
                refine PT.keep (L' := [(0, .pointer (some ⟨t, 0, none⟩)), (2, .int .i64 id), (10, .int .i64 0), (12, .pointer (some ⟨b1, 0, none⟩)), (13, .int .i64 0)]) [0, 2, 10, 12, 13] rfl ?_
                refine loopG (fun (q : Nat) => [(0, .pointer (some ⟨t, 0, none⟩)), (2, .int .i64 id), (10, .int .i64 0), (12, .pointer (some ⟨b1, 0, none⟩)), (13, .int .i64 (q : Int))]) (fun (q : Nat) => (blk b1 62 [.int .i64 id, .int .i64 par, .int .i64 wt, .int .i64 p.now, .bool thr, .bool false, .int .i64 0] :: blk t 65 [.slice (some ⟨b, o, none⟩) L.length c] :: row rnE 62 (.slice (some ⟨b, o, none⟩) L.length c) L :: H)) (fun k (q : Nat) => k + q = L.length ∧ ∀ (j : Nat) y, j < q → L[j]? = some y → y.id < id) L.length 0 (by kernel_rfl) ⟨by simp, fun j y hj => by omega⟩ ?_
                rintro k q ⟨hkq, hlt⟩
                rcases Nat.lt_or_ge q L.length with hq | hq
                · skip
                  obtain ⟨y, hy⟩ : ∃ y, L[q]? = some y := ⟨_, List.getElem?_eq_getElem hq⟩
                  refine seqR (by kernel_rfl) ?_
                  refine seqR (by kernel_rfl) ?_
                  refine regionR 20 (by kernel_rfl) (by kernel_rfl) ?_
                  refine (runR (H := (blk b1 62 [.int .i64 id, .int .i64 par, .int .i64 wt, .int .i64 p.now, .bool thr, .bool false, .int .i64 0] :: blk t 65 [.slice (some ⟨b, o, none⟩) L.length c] :: row rnE 62 (.slice (some ⟨b, o, none⟩) L.length c) L :: H)) (z := 12) 8 [0, 2, 10, 12, 13, 82] [(0, .pointer (some ⟨t, 0, none⟩)), (2, .int .i64 id), (10, .int .i64 0), (12, .pointer (some ⟨b1, 0, none⟩)), (13, .int .i64 (q : Int)), (82, .bool (decide ((q : Int) < (L.length : Int))))] [(⟨t, 0, none⟩, .slice (some ⟨b, o, none⟩) L.length c)] (hasC (blkAt (T := 65) (cs := [.slice (some ⟨b, o, none⟩) L.length c]) 1 rfl rfl) has0) (fun _ => by kernel_rfl) ?_ : RT _ _ _ _ _ _ 20 _)
                  refine (segR (ι := Unit) (z := 0) 12 (fun _ => [(0, .pointer (some ⟨t, 0, none⟩)), (2, .int .i64 id), (10, .int .i64 0), (12, .pointer (some ⟨b1, 0, none⟩)), (13, .int .i64 (q : Int)), (94, .bool ((decide ((q : Int) < (L.length : Int))) && (decide (y.id < id))))]) (fun _ => (blk b1 62 [.int .i64 id, .int .i64 par, .int .i64 wt, .int .i64 p.now, .bool thr, .bool false, .int .i64 0] :: blk t 65 [.slice (some ⟨b, o, none⟩) L.length c] :: row rnE 62 (.slice (some ⟨b, o, none⟩) L.length c) L :: H)) ?_ (fun _ => ?_) : RT _ _ _ _ _ _ 12 _)
                  · cases hg8 : (decide ((q : Int) < (L.length : Int))) with
                    | true =>
                      refine (runR (H := (blk b1 62 [.int .i64 id, .int .i64 par, .int .i64 wt, .int .i64 p.now, .bool thr, .bool false, .int .i64 0] :: blk t 65 [.slice (some ⟨b, o, none⟩) L.length c] :: row rnE 62 (.slice (some ⟨b, o, none⟩) L.length c) L :: H)) (z := 7) 5 [0, 2, 10, 12, 13, 82, 86, 87] [(0, .pointer (some ⟨t, 0, none⟩)), (2, .int .i64 id), (10, .int .i64 0), (12, .pointer (some ⟨b1, 0, none⟩)), (13, .int .i64 (q : Int)), (82, .bool true), (86, .slice (some ⟨b, o, none⟩) L.length c), (87, .int .i64 (q : Int))] [(⟨t, 0, none⟩, .slice (some ⟨b, o, none⟩) L.length c)] (hasC (blkAt (T := 65) (cs := [.slice (some ⟨b, o, none⟩) L.length c]) 1 rfl rfl) has0) (fun _ => by kernel_rfl) ?_ : RT _ _ _ _ _ _ 12 _)
                      refine (stepR (z := 6) (yldS (idxY 63 (.tmp 86) (.tmp 87) b o L.length c q 7 62 (q : Int) .i64 (some 88) (fun _ => by kernel_rfl) (by kernel_rfl) (by kernel_rfl) (fun _ => by kernel_rfl) (fun _ => by kernel_rfl) Tryz.underlying63 (by kernel_rfl) (by first | rfl | assumption | simp) (by first | omega | (simp; done) | (simp; omega) | (simp at *; omega)))) (fun _ => ?_) : RT _ _ _ _ _ _ 7 _)
                      refine (runR (H := (blk b1 62 [.int .i64 id, .int .i64 par, .int .i64 wt, .int .i64 p.now, .bool thr, .bool false, .int .i64 0] :: blk t 65 [.slice (some ⟨b, o, none⟩) L.length c] :: row rnE 62 (.slice (some ⟨b, o, none⟩) L.length c) L :: H)) (z := 0) 6 [0, 2, 10, 12, 13, 94] [(0, .pointer (some ⟨t, 0, none⟩)), (2, .int .i64 id), (10, .int .i64 0), (12, .pointer (some ⟨b1, 0, none⟩)), (13, .int .i64 (q : Int)), (94, .bool (decide (y.id < id)))] [(⟨b, o + q * 7, none⟩, .int .i64 y.id)] (hasC (rowCell (E := rnE) (xs := L) 2 rfl (x := y) hy (j := 0) rfl) has0) (fun _ => by kernel_rfl) (endR ?_) : RT _ _ _ _ _ _ 6 _)
                      refine PT.keep (L' := [(0, .pointer (some ⟨t, 0, none⟩)), (2, .int .i64 id), (10, .int .i64 0), (12, .pointer (some ⟨b1, 0, none⟩)), (13, .int .i64 (q : Int)), (94, .bool (true && (decide (y.id < id))))]) [0, 2, 10, 12, 13, 94] rfl ?_
                      exact midR () rfl rfl
                    | false =>
                      refine (run0 (z := 0) 12 [0, 2, 10, 12, 13, 94] [(0, .pointer (some ⟨t, 0, none⟩)), (2, .int .i64 id), (10, .int .i64 0), (12, .pointer (some ⟨b1, 0, none⟩)), (13, .int .i64 (q : Int)), (94, .bool false)] (fun _ => by kernel_rfl) (endR ?_) : RT _ _ _ _ _ _ 12 _)
                      refine PT.keep (L' := [(0, .pointer (some ⟨t, 0, none⟩)), (2, .int .i64 id), (10, .int .i64 0), (12, .pointer (some ⟨b1, 0, none⟩)), (13, .int .i64 (q : Int)), (94, .bool (false && (decide (y.id < id))))]) [0, 2, 10, 12, 13, 94] rfl ?_
                      exact midR () rfl rfl
                  refine endR ?_
                  by_cases h6 : y.id < id
                  · skip
                    rw [show ((decide ((q : Int) < (L.length : Int))) && (decide (y.id < id))) = true from by simp; omega]
                    refine condR (b := true) (by kernel_rfl) (fun _ => by kernel_rfl) (fun _ => ?_) (fun h => by cases h)
                    refine skipR (by kernel_rfl) ?_
                    refine blockR 2 (by kernel_rfl) (by kernel_rfl) ?_
                    refine regionR 3 (by kernel_rfl) (by kernel_rfl) ?_
                    refine (run0 (z := 0) 3 [0, 2, 10, 12, 13] [(0, .pointer (some ⟨t, 0, none⟩)), (2, .int .i64 id), (10, .int .i64 0), (12, .pointer (some ⟨b1, 0, none⟩)), (13, .int .i64 (IntKind.i64.wrap ((q : Int) + 1)))] (fun _ => by kernel_rfl) (endR ?_) : RT _ _ _ _ _ _ 3 _)
                    rw [show IntKind.i64.wrap ((q : Int) + 1) = ((q : Int) + 1) by rw [w64 (by omega) (by omega)]]
                    refine PT.keep (L' := [(0, .pointer (some ⟨t, 0, none⟩)), (2, .int .i64 id), (10, .int .i64 0), (12, .pointer (some ⟨b1, 0, none⟩)), (13, .int .i64 ((q : Int) + 1))]) [0, 2, 10, 12, 13] rfl ?_
                    exact againG (k - 1) (q + 1) rfl rfl (by omega) ⟨by omega, fun m z hm hz => by by_cases cj : m = q; (subst cj; rw [hy] at hz; cases hz; exact h6); exact hlt m z (by omega) hz⟩
                  · skip
                    rw [show ((decide ((q : Int) < (L.length : Int))) && (decide (y.id < id))) = false from by simp; omega]
                    refine condR (b := false) (by kernel_rfl) (fun _ => by kernel_rfl) (fun h => by cases h) (fun _ => ?_)
                    refine exitR 1 (by kernel_rfl) (by kernel_rfl) ?_
                    refine thenX ?_
                    refine thenX ?_
                    refine leaveR ?_
                    refine PT.keep (L' := [(0, .pointer (some ⟨t, 0, none⟩)), (2, .int .i64 id), (10, .int .i64 0), (12, .pointer (some ⟨b1, 0, none⟩)), (13, .int .i64 (q : Int))]) [0, 2, 10, 12, 13] rfl ?_
                    exact midR (⟨q, by omega, insN_at (n := newN id par wt p.now thr) (L := L) (k := q) (by omega) (fun j y hj hy => hlt j y hj hy) (fun z hz => by rw [hy] at hz; cases hz; exact h6)⟩) rfl rfl
                · skip
                  refine seqR (by kernel_rfl) ?_
                  refine seqR (by kernel_rfl) ?_
                  refine regionR 20 (by kernel_rfl) (by kernel_rfl) ?_
                  refine (runR (H := (blk b1 62 [.int .i64 id, .int .i64 par, .int .i64 wt, .int .i64 p.now, .bool thr, .bool false, .int .i64 0] :: blk t 65 [.slice (some ⟨b, o, none⟩) L.length c] :: row rnE 62 (.slice (some ⟨b, o, none⟩) L.length c) L :: H)) (z := 12) 8 [0, 2, 10, 12, 13, 82] [(0, .pointer (some ⟨t, 0, none⟩)), (2, .int .i64 id), (10, .int .i64 0), (12, .pointer (some ⟨b1, 0, none⟩)), (13, .int .i64 (q : Int)), (82, .bool (decide ((q : Int) < (L.length : Int))))] [(⟨t, 0, none⟩, .slice (some ⟨b, o, none⟩) L.length c)] (hasC (blkAt (T := 65) (cs := [.slice (some ⟨b, o, none⟩) L.length c]) 1 rfl rfl) has0) (fun _ => by kernel_rfl) ?_ : RT _ _ _ _ _ _ 20 _)
                  rw [show (decide ((q : Int) < (L.length : Int))) = false from by first | exact decide_eq_false (by omega) | (simp; done) | (simp; omega)]
                  refine (run0 (z := 0) 12 [0, 2, 10, 12, 13, 94] [(0, .pointer (some ⟨t, 0, none⟩)), (2, .int .i64 id), (10, .int .i64 0), (12, .pointer (some ⟨b1, 0, none⟩)), (13, .int .i64 (q : Int)), (94, .bool false)] (fun _ => by kernel_rfl) (endR ?_) : RT _ _ _ _ _ _ 12 _)
                  refine condR (b := false) (by kernel_rfl) (fun _ => by kernel_rfl) (fun h => by cases h) (fun _ => ?_)
                  refine exitR 1 (by kernel_rfl) (by kernel_rfl) ?_
                  refine thenX ?_
                  refine thenX ?_
                  refine leaveR ?_
                  refine PT.keep (L' := [(0, .pointer (some ⟨t, 0, none⟩)), (2, .int .i64 id), (10, .int .i64 0), (12, .pointer (some ⟨b1, 0, none⟩)), (13, .int .i64 (q : Int))]) [0, 2, 10, 12, 13] rfl ?_
                  exact midR (⟨q, by omega, insN_at (n := newN id par wt p.now thr) (L := L) (k := q) (by omega) (fun j y hj hy => hlt j y hj hy) (fun z hz => by rw [List.getElem?_eq_none hq] at hz; cases hz)⟩) rfl rfl
              obtain ⟨q, hq, hins⟩ := q
              refine PT.know (KR.le (s := ⟨some ⟨b, o, none⟩, c, L⟩) (rowKRat 2 rfl)) ?_
              rintro ⟨hcle, _⟩
              dsimp only at hcle
              refine PT.rowNil rnE 62 ?_
              refine seqR (by kernel_rfl) ?_
              refine drawR (fun w => Sat w (blk b1 62 [.int .i64 id, .int .i64 par, .int .i64 wt, .int .i64 p.now, .bool thr, .bool false, .int .i64 0] :: blk t 65 [.slice (some ⟨b, o, none⟩) L.length c] :: row rnE 62 (.slice (some ⟨b, o, none⟩) L.length c) L :: H)) [20] 21 (by kernel_rfl) (by kernel_rfl) (by kernel_rfl) (fun _ h => by first | exact h | exact h.tail | exact h.tail.tail | exact h.tail.tail.tail | exact h.tail.tail.tail.tail) ?_
              refine takesR [0, 1, 2, 3, 4, 5, 8, 11, 12, 13, 14, 15] [10, 97, 101, 102, 105, 111, 112] 9 [true, true, true, true, true, true, false, false, true, false, false, true, true, true, true, true, false, false, false, false, false] [(10, .int .i64 0), (97, .pointer (some ⟨t, 0, none⟩)), (101, .slice (some ⟨b, o, none⟩) L.length c), (102, .int .i64 (q : Int)), (105, .agg #[.int .i64 id, .int .i64 par, .int .i64 wt, .int .i64 p.now, .bool thr, .bool false, .int .i64 0]), (111, .slice (some ⟨b, o, none⟩) L.length c), (112, .int .i64 (q : Int))] [(⟨t, 0, none⟩, .slice (some ⟨b, o, none⟩) L.length c), (⟨b1, 0, none⟩, .int .i64 id), (⟨b1, 1, none⟩, .int .i64 par), (⟨b1, 2, none⟩, .int .i64 wt), (⟨b1, 3, none⟩, .int .i64 p.now), (⟨b1, 4, none⟩, .bool thr), (⟨b1, 5, none⟩, .bool false), (⟨b1, 6, none⟩, .int .i64 0), (⟨t, 0, none⟩, .slice (some ⟨b, o, none⟩) L.length c)] rfl (fun _ d _ _ _ h => by cases d <;> exact h) (fun _ h => by first | exact h | exact h.tail | exact h.tail.tail | exact h.tail.tail.tail | exact h.tail.tail.tail.tail) (hasC (blkAt (T := 65) (cs := [.slice (some ⟨b, o, none⟩) L.length c]) 1 rfl rfl) (hasC (blkAt (T := 62) (cs := [.int .i64 id, .int .i64 par, .int .i64 wt, .int .i64 p.now, .bool thr, .bool false, .int .i64 0]) 0 rfl rfl) (hasC (blkAt (T := 62) (cs := [.int .i64 id, .int .i64 par, .int .i64 wt, .int .i64 p.now, .bool thr, .bool false, .int .i64 0]) 0 rfl rfl) (hasC (blkAt (T := 62) (cs := [.int .i64 id, .int .i64 par, .int .i64 wt, .int .i64 p.now, .bool thr, .bool false, .int .i64 0]) 0 rfl rfl) (hasC (blkAt (T := 62) (cs := [.int .i64 id, .int .i64 par, .int .i64 wt, .int .i64 p.now, .bool thr, .bool false, .int .i64 0]) 0 rfl rfl) (hasC (blkAt (T := 62) (cs := [.int .i64 id, .int .i64 par, .int .i64 wt, .int .i64 p.now, .bool thr, .bool false, .int .i64 0]) 0 rfl rfl) (hasC (blkAt (T := 62) (cs := [.int .i64 id, .int .i64 par, .int .i64 wt, .int .i64 p.now, .bool thr, .bool false, .int .i64 0]) 0 rfl rfl) (hasC (blkAt (T := 62) (cs := [.int .i64 id, .int .i64 par, .int .i64 wt, .int .i64 p.now, .bool thr, .bool false, .int .i64 0]) 0 rfl rfl) (hasC (blkAt (T := 65) (cs := [.slice (some ⟨b, o, none⟩) L.length c]) 1 rfl rfl) has0))))))))) (fun _ => by kernel_rfl) ?_
              refine takeR1 6 8 [true, true, true, true, true, true, true, false, true, false, false, true, true, true, true, true, false, false, false, false, false] rfl rfl (by kernel_rfl) (fun _ d _ _ _ h => by cases d <;> exact h) (fun _ h => by first | exact h | exact h.tail | exact h.tail.tail | exact h.tail.tail.tail | exact h.tail.tail.tail.tail) (slcY 63 (.tmp 101) none (some (.tmp 102)) (some ⟨b, o, none⟩) L.length c 0 q 7 62 (some 103) (fun _ => by kernel_rfl) (by kernel_rfl) (by kernel_rfl) (fun _ => by kernel_rfl) (.inl ⟨rfl, rfl⟩) (.inr ⟨_, .i64, (q : Int), rfl, fun _ => by kernel_rfl, by first | rfl | omega⟩) Tryz.underlying63 (by kernel_rfl) (by omega) (by omega)) ?_
              refine takeR1 16 7 [true, true, true, true, true, true, true, false, true, false, false, true, true, true, true, true, true, false, false, false, false] rfl rfl (by kernel_rfl) (fun _ d _ _ _ h => by cases d <;> exact h) (fun _ h => by first | exact h | exact h.tail | exact h.tail.tail | exact h.tail.tail.tail | exact h.tail.tail.tail.tail) (slcY 63 (.tmp 111) (some (.tmp 112)) none (some ⟨b, o, none⟩) L.length c q L.length 7 62 (some 113) (fun _ => by kernel_rfl) (by kernel_rfl) (by kernel_rfl) (fun _ => by kernel_rfl) (.inr ⟨_, .i64, (q : Int), rfl, fun _ => by kernel_rfl, by first | rfl | omega⟩) (.inl ⟨rfl, rfl⟩) Tryz.underlying63 (by kernel_rfl) (by omega) (by omega)) ?_
              refine twoR 7 9 6 rfl (by kernel_rfl) ?_ ?_
              · skip
                refine chR 7 [true, true, true, true, true, true, true, true, true, false, false, true, true, true, true, true, true, false, false, false, false] rfl (appS (E := rnE) 63 (.const (.slice none 0 0)) (.tmp 103) none 0 [] (L.take q) (.slice (cutA (some ⟨b, o, none⟩) c 0 7) (q - 0) (c - 0)) (some 104) (fun _ => by kernel_rfl) (by kernel_rfl) (by kernel_rfl) (fun _ => by kernel_rfl) (fun _ => by kernel_rfl) Tryz.underlying63 (rnE_ety) (subRd (rowKRat 3 rfl) (by omega) (by omega)) (by simp; omega)) (fun _ _ h hn => by first | exact h | exact h.tail | exact h.tail.tail | exact h.tail.tail.tail | exact h.tail.tail.tail.tail | exact absurd hn (by decide)) (fun r2 => ?_)
                refine oneR 9 5 [true, true, true, true, true, true, true, true, true, true, false, true, true, true, true, true, true, false, false, false, false] rfl rfl (by kernel_rfl) (newS 62 [.int .i64 id, .int .i64 par, .int .i64 wt, .int .i64 p.now, .bool thr, .bool false, .int .i64 0] (some 106) (fun b => .slice (some ⟨b, 0, none⟩) 1 1) (fun _ _ => by kernel_rfl)) (fun _ _ h hn => by first | exact h | exact h.tail | exact h.tail.tail | exact h.tail.tail.tail | exact h.tail.tail.tail.tail | exact absurd hn (by decide)) (fun b3 => ?_)
                refine DT.pick 1 rfl ?_
                refine oneR 10 4 [true, true, true, true, true, true, true, true, true, true, true, true, true, true, true, true, true, false, false, false, false] rfl rfl (by kernel_rfl) (appS (E := rnE) 63 (.tmp 104) (.tmp 106) r2.1 r2.2 ([] ++ (L.take q)) [newN id par wt p.now thr] (.slice (some ⟨b3, 0, none⟩) 1 1) (some 107) (fun _ => by kernel_rfl) (by kernel_rfl) (by kernel_rfl) (fun _ => by kernel_rfl) (fun _ => by kernel_rfl) Tryz.underlying63 (rnE_ety) (blkRd (x := newN id par wt p.now thr) 1 rfl) (by simp; omega)) (fun _ _ h hn => by first | exact h | exact h.tail | exact h.tail.tail | exact h.tail.tail.tail | exact h.tail.tail.tail.tail | exact absurd hn (by decide)) (fun r4 => ?_)
                refine oneR 17 3 [true, true, true, true, true, true, true, true, true, true, true, true, true, true, true, true, true, true, false, false, false] rfl rfl (by kernel_rfl) (appS (E := rnE) 63 (.tmp 107) (.tmp 113) r4.1 r4.2 (([] ++ (L.take q)) ++ [newN id par wt p.now thr]) (L.drop q) (.slice (cutA (some ⟨b, o, none⟩) c q 7) (L.length - q) (c - q)) (some 114) (fun _ => by kernel_rfl) (by kernel_rfl) (by kernel_rfl) (fun _ => by kernel_rfl) (fun _ => by kernel_rfl) Tryz.underlying63 (rnE_ety) (dropRd (rowKRat 4 rfl) (by omega)) (by simp; omega)) (fun _ _ h hn => by first | exact h | exact h.tail | exact h.tail.tail | exact h.tail.tail.tail | exact h.tail.tail.tail.tail | exact absurd hn (by decide)) (fun r5 => ?_)
                refine takesR [18, 19] [114, 10, 116] 1 [true, true, true, true, true, true, true, true, true, true, true, true, true, true, true, true, true, true, true, true, false] [(114, .slice r5.1 (((([] ++ (L.take q)) ++ [newN id par wt p.now thr]) ++ (L.drop q)).length) r5.2), (10, .int .i64 0), (116, .pointer (some ⟨t, 0, none⟩))] [] rfl (fun _ d _ _ _ h => by cases d <;> exact h) (fun _ h => by first | exact h | exact h.tail | exact h.tail.tail | exact h.tail.tail.tail | exact h.tail.tail.tail.tail) has0 (fun _ => by kernel_rfl) ?_
                refine DT.pick 3 rfl ?_
                refine oneR 20 0 [true, true, true, true, true, true, true, true, true, true, true, true, true, true, true, true, true, true, true, true, true] rfl rfl (by kernel_rfl) (storeS [(0, .slice r5.1 (((([] ++ (L.take q)) ++ [newN id par wt p.now thr]) ++ (L.drop q)).length) r5.2)] [.slice r5.1 (((([] ++ (L.take q)) ++ [newN id par wt p.now thr]) ++ (L.drop q)).length) r5.2] (fun _ => by kernel_rfl) (by kernel_rfl) (by kernel_rfl)) (fun _ _ h hn => by first | exact h | exact h.tail | exact h.tail.tail | exact h.tail.tail.tail | exact h.tail.tail.tail.tail | exact absurd hn (by decide)) (fun _ => ?_)
                refine drawnR (by kernel_rfl) ?_
                refine seqR (by kernel_rfl) ?_
                refine regionR 1 (by kernel_rfl) (by kernel_rfl) ?_
                refine (run0 (z := 0) 1 [10] [(10, .int .i64 0)] (fun _ => by kernel_rfl) (endR ?_) : RT _ _ _ _ _ _ 1 _)
                refine retR (by kernel_rfl) ?_
                refine PT.pick 4 rfl ?_
                refine PT.drop ?_
                refine PT.pick 3 rfl ?_
                refine PT.drop ?_
                refine PT.pick 2 rfl ?_
                refine PT.drop ?_
                rw [show ((([] ++ (L.take q)) ++ [newN id par wt p.now thr]) ++ (L.drop q)) = (insN (newN id par wt p.now thr) L) by exact hins]
                refine done0 (.int .i64 0) (fun _ => by kernel_rfl) (fun w hs => ?_) .ret (.inr rfl)
                exact ⟨(), by rw [hz], by rw [hz]; exact Sat.closeRt (List.ne_nil_of_mem (insN_mem.2 (.inl rfl))) hs⟩
              · skip
                refine chR 9 [true, true, true, true, true, true, true, false, true, true, false, true, true, true, true, true, true, false, false, false, false] rfl (newS 62 [.int .i64 id, .int .i64 par, .int .i64 wt, .int .i64 p.now, .bool thr, .bool false, .int .i64 0] (some 106) (fun b => .slice (some ⟨b, 0, none⟩) 1 1) (fun _ _ => by kernel_rfl)) (fun _ _ h hn => by first | exact h | exact h.tail | exact h.tail.tail | exact h.tail.tail.tail | exact h.tail.tail.tail.tail | exact absurd hn (by decide)) (fun b2 => ?_)
                refine DT.pick 1 rfl ?_
                refine oneR 7 5 [true, true, true, true, true, true, true, true, true, true, false, true, true, true, true, true, true, false, false, false, false] rfl rfl (by kernel_rfl) (appS (E := rnE) 63 (.const (.slice none 0 0)) (.tmp 103) none 0 [] (L.take q) (.slice (cutA (some ⟨b, o, none⟩) c 0 7) (q - 0) (c - 0)) (some 104) (fun _ => by kernel_rfl) (by kernel_rfl) (by kernel_rfl) (fun _ => by kernel_rfl) (fun _ => by kernel_rfl) Tryz.underlying63 (rnE_ety) (subRd (rowKRat 4 rfl) (by omega) (by omega)) (by simp; omega)) (fun _ _ h hn => by first | exact h | exact h.tail | exact h.tail.tail | exact h.tail.tail.tail | exact h.tail.tail.tail.tail | exact absurd hn (by decide)) (fun r3 => ?_)
                refine oneR 10 4 [true, true, true, true, true, true, true, true, true, true, true, true, true, true, true, true, true, false, false, false, false] rfl rfl (by kernel_rfl) (appS (E := rnE) 63 (.tmp 104) (.tmp 106) r3.1 r3.2 ([] ++ (L.take q)) [newN id par wt p.now thr] (.slice (some ⟨b2, 0, none⟩) 1 1) (some 107) (fun _ => by kernel_rfl) (by kernel_rfl) (by kernel_rfl) (fun _ => by kernel_rfl) (fun _ => by kernel_rfl) Tryz.underlying63 (rnE_ety) (blkRd (x := newN id par wt p.now thr) 1 rfl) (by simp; omega)) (fun _ _ h hn => by first | exact h | exact h.tail | exact h.tail.tail | exact h.tail.tail.tail | exact h.tail.tail.tail.tail | exact absurd hn (by decide)) (fun r4 => ?_)
                refine oneR 17 3 [true, true, true, true, true, true, true, true, true, true, true, true, true, true, true, true, true, true, false, false, false] rfl rfl (by kernel_rfl) (appS (E := rnE) 63 (.tmp 107) (.tmp 113) r4.1 r4.2 (([] ++ (L.take q)) ++ [newN id par wt p.now thr]) (L.drop q) (.slice (cutA (some ⟨b, o, none⟩) c q 7) (L.length - q) (c - q)) (some 114) (fun _ => by kernel_rfl) (by kernel_rfl) (by kernel_rfl) (fun _ => by kernel_rfl) (fun _ => by kernel_rfl) Tryz.underlying63 (rnE_ety) (dropRd (rowKRat 4 rfl) (by omega)) (by simp; omega)) (fun _ _ h hn => by first | exact h | exact h.tail | exact h.tail.tail | exact h.tail.tail.tail | exact h.tail.tail.tail.tail | exact absurd hn (by decide)) (fun r5 => ?_)
                refine takesR [18, 19] [114, 10, 116] 1 [true, true, true, true, true, true, true, true, true, true, true, true, true, true, true, true, true, true, true, true, false] [(114, .slice r5.1 (((([] ++ (L.take q)) ++ [newN id par wt p.now thr]) ++ (L.drop q)).length) r5.2), (10, .int .i64 0), (116, .pointer (some ⟨t, 0, none⟩))] [] rfl (fun _ d _ _ _ h => by cases d <;> exact h) (fun _ h => by first | exact h | exact h.tail | exact h.tail.tail | exact h.tail.tail.tail | exact h.tail.tail.tail.tail) has0 (fun _ => by kernel_rfl) ?_
                refine DT.pick 3 rfl ?_
                refine oneR 20 0 [true, true, true, true, true, true, true, true, true, true, true, true, true, true, true, true, true, true, true, true, true] rfl rfl (by kernel_rfl) (storeS [(0, .slice r5.1 (((([] ++ (L.take q)) ++ [newN id par wt p.now thr]) ++ (L.drop q)).length) r5.2)] [.slice r5.1 (((([] ++ (L.take q)) ++ [newN id par wt p.now thr]) ++ (L.drop q)).length) r5.2] (fun _ => by kernel_rfl) (by kernel_rfl) (by kernel_rfl)) (fun _ _ h hn => by first | exact h | exact h.tail | exact h.tail.tail | exact h.tail.tail.tail | exact h.tail.tail.tail.tail | exact absurd hn (by decide)) (fun _ => ?_)
                refine drawnR (by kernel_rfl) ?_
                refine seqR (by kernel_rfl) ?_
                refine regionR 1 (by kernel_rfl) (by kernel_rfl) ?_
                refine (run0 (z := 0) 1 [10] [(10, .int .i64 0)] (fun _ => by kernel_rfl) (endR ?_) : RT _ _ _ _ _ _ 1 _)
                refine retR (by kernel_rfl) ?_
                refine PT.pick 4 rfl ?_
                refine PT.drop ?_
                refine PT.pick 3 rfl ?_
                refine PT.drop ?_
                refine PT.pick 2 rfl ?_
                refine PT.drop ?_
                rw [show ((([] ++ (L.take q)) ++ [newN id par wt p.now thr]) ++ (L.drop q)) = (insN (newN id par wt p.now thr) L) by exact hins]
                refine done0 (.int .i64 0) (fun _ => by kernel_rfl) (fun w hs => ?_) .ret (.inr rfl)
                exact ⟨(), by rw [hz], by rw [hz]; exact Sat.closeRt (List.ne_nil_of_mem (insN_mem.2 (.inl rfl))) hs⟩
end Go.Proofs.YtjbjngikaiggdaaGreatDoor
set_option linter.unusedVariables false
set_option linter.unusedSimpArgs false
namespace Go.Proofs.YtjbjngikaiggdaaGreatDoor
open Go.RowKit G
theorem rnext_walk (H : List SP) {p w_ : Int} (hp : 0 ≤ p ∧ p ≤ 1099511627776) (hw : isW w_ = true) : ∀ w, Sat w H → Calls Tryz.prog 40 #[.int .i64 p, .int .i64 w_] w (Ret (ι := Unit) (fun _ => .int .i64 (p + strd w_)) fun _ => H) := by
  have hs := strd_pos hw
  refine enterG (fn := Tryz.f40) 9 [.int .i64 p, .int .i64 w_] Tryz.func40 (by kernel_rfl) (by kernel_rfl) (by kernel_rfl) ?_
  refine seqR (by kernel_rfl) ?_
  refine regionR 1 (by kernel_rfl) (by kernel_rfl) ?_
  refine (run0 (z := 0) 1 [0, 1, 4] [(0, .int .i64 p), (1, .int .i64 w_), (4, .int .i64 0)] (fun _ => by kernel_rfl) (endR ?_) : RT _ _ _ _ _ _ 1 _)
  refine seqR (by kernel_rfl) ?_
  refine regionR 5 (by kernel_rfl) (by kernel_rfl) ?_
  refine (run0 (z := 3) 2 [4, 5, 6] [(4, .int .i64 0), (5, .int .i64 p), (6, .int .i64 w_)] (fun _ => by kernel_rfl) ?_ : RT _ _ _ _ _ _ 5 _)
  refine (stepR (z := 2) (callS 56 [.int .i64 w_] (some 7) (fun _ => .int .i64 (strd w_)) (fun (_ : Unit) => (H)) (fun _ => by kernel_rfl) (rOf_walk _ w_)) (fun _ => ?_) : RT _ _ _ _ _ _ 3 _)
  refine (run0 (z := 0) 2 [4] [(4, .int .i64 (IntKind.i64.wrap (p + (strd w_))))] (fun _ => by kernel_rfl) (endR ?_) : RT _ _ _ _ _ _ 2 _)
  refine retR (by kernel_rfl) ?_
  rw [show IntKind.i64.wrap (p + (strd w_)) = (p + (strd w_)) by rw [w64 (by omega) (by omega)]]
  refine done0 (.int .i64 (p + (strd w_))) (fun _ => by kernel_rfl) (fun w hs => ?_) .ret (.inr rfl)
  exact ⟨(), rfl, hs⟩
theorem least_is {l : List Nr} (hn : (l.map (·.id)).Nodup) {y : Nr} (hy : y ∈ l) (h : ∀ z ∈ l, lessN z y = false) : least l = some y := by
  cases hl : least l with
  | none => rw [least_none.1 hl] at hy; cases hy
  | some m =>
    obtain ⟨hm, hmin⟩ := least_some hl
    have h1 := h m hm
    have h2 := hmin y hy
    have : m.id = y.id := by
      simp only [lessN, Bool.or_eq_false_iff, decide_eq_false_iff_not, Bool.and_eq_false_imp, decide_eq_true_eq] at h1 h2
      by_cases c : m.pass = y.pass
      · have := h1.2 c; have := h2.2 c.symm; omega
      · omega
    rw [nd_eq hn hm hy this]
theorem kidR_nd {N : List Nr} (hn : (N.map (·.id)).Nodup) (k : Int) : ((kidR N k).map (·.id)).Nodup := List.Nodup.sublist (List.Sublist.map _ List.filter_sublist) hn
/-- The best so far. -/
def Best (M : List Nr) (g : Int) (u : Nat) (best : Int) : Prop :=
  (best = -1 ∧ ∀ (j : Nat) z, j < u → M[j]? = some z → (z.par == g && z.rdy) = false) ∨
  ∃ (m : Nat) (y : Nr), best = (m : Int) ∧ m < u ∧ M[m]? = some y ∧ y.par = g ∧ y.rdy = true ∧ ∀ (j : Nat) z, j < u → M[j]? = some z → z.par = g → z.rdy = true → lessN z y = false
theorem Best.start (M : List Nr) (g : Int) : Best M g 0 (-1) := .inl ⟨rfl, fun j z hj => by omega⟩
theorem Best.no {M : List Nr} {g : Int} {u : Nat} {best : Int} (h : Best M g u best) {x : Nr} (hx : M[u]? = some x) (hn : (x.par == g && x.rdy) = false) : Best M g (u + 1) best := by
  rcases h with ⟨h1, h2⟩ | ⟨m, y, h1, h2, h3, h4, h5, h6⟩
  · refine .inl ⟨h1, fun j z hj hz => ?_⟩
    by_cases c : j = u
    · subst c; rw [hx] at hz; cases hz; exact hn
    · exact h2 j z (by omega) hz
  · refine .inr ⟨m, y, h1, by omega, h3, h4, h5, fun j z hj hz hp hr => ?_⟩
    by_cases c : j = u
    · subst c; rw [hx] at hz; cases hz; simp [hp, hr] at hn
    · exact h6 j z (by omega) hz hp hr
theorem Best.new {M : List Nr} {g : Int} {u : Nat} {best : Int} (h : Best M g u best) {x : Nr} (hx : M[u]? = some x) (hp : x.par = g) (hr : x.rdy = true) (hb : ∀ (m : Nat) y, best = (m : Int) → M[m]? = some y → x.pass < y.pass) : Best M g (u + 1) (u : Int) := by
  refine .inr ⟨u, x, rfl, by omega, hx, hp, hr, fun j z hj hz hzp hzr => ?_⟩
  by_cases c : j = u
  · subst c; rw [hx] at hz; cases hz; simp [lessN]
  · rcases h with ⟨h1, h2⟩ | ⟨m, y, h1, h2, h3, h4, h5, h6⟩
    · have := h2 j z (by omega) hz; simp [hzp, hzr] at this
    · have h7 := h6 j z (by omega) hz hzp hzr
      have h8 := hb m y h1 h3
      simp only [lessN, Bool.or_eq_false_iff, decide_eq_false_iff_not, Bool.and_eq_false_imp, decide_eq_true_eq] at h7 ⊢
      exact ⟨by omega, fun e => by omega⟩
theorem Best.keep {M : List Nr} (hs : (M.map (·.id)).Pairwise (· < ·)) {g : Int} {u m : Nat} {y : Nr} (h : Best M g u (m : Int)) (hm : M[m]? = some y) {x : Nr} (hx : M[u]? = some x) (hb : ¬ x.pass < y.pass) : Best M g (u + 1) (m : Int) := by
  rcases h with ⟨h1, _⟩ | ⟨m', y', h1, h2, h3, h4, h5, h6⟩
  · omega
  · have : m' = m := by omega
    subst this
    rw [h3] at hm; cases hm
    refine .inr ⟨m', y, rfl, by omega, h3, h4, h5, fun j z hj hz hp hr => ?_⟩
    by_cases c : j = u
    · subst c; rw [hx] at hz; cases hz
      have hlt : y.id < x.id := by
        have := List.pairwise_iff_getElem.1 hs m' j (by rw [List.length_map]; exact (List.getElem?_eq_some_iff.1 h3).1) (by rw [List.length_map]; exact (List.getElem?_eq_some_iff.1 hx).1) h2
        simp only [List.getElem_map] at this
        rw [(List.getElem?_eq_some_iff.1 h3).2, (List.getElem?_eq_some_iff.1 hx).2] at this
        exact this
      simp only [lessN, Bool.or_eq_false_iff, decide_eq_false_iff_not, Bool.and_eq_false_imp, decide_eq_true_eq]
      exact ⟨hb, fun _ => by omega⟩
    · exact h6 j z (by omega) hz hp hr
theorem Best.done {M : List Nr} (hn : (M.map (·.id)).Nodup) {g : Int} {best : Int} (h : Best M g M.length best) (hk : KX M g) : ∃ (m : Nat) (y : Nr), best = (m : Int) ∧ M[m]? = some y ∧ y.par = g ∧ y.rdy = true ∧ least (kidR M g) = some y := by
  rcases h with ⟨_, h2⟩ | ⟨m, y, h1, _, h3, h4, h5, h6⟩
  · obtain ⟨z, hz, hp, hr⟩ := hk
    obtain ⟨j, hj⟩ := List.mem_iff_getElem?.1 hz
    have := h2 j z (List.getElem?_eq_some_iff.1 hj).1 hj
    simp [hp, hr] at this
  · refine ⟨m, y, h1, h3, h4, h5, least_is (kidR_nd hn g) (mem_kidR.2 ⟨List.mem_of_getElem? h3, h4, h5⟩) fun z hz => ?_⟩
    obtain ⟨a, b, c⟩ := mem_kidR.1 hz
    obtain ⟨j, hj⟩ := List.mem_iff_getElem?.1 a
    exact h6 j z (List.getElem?_eq_some_iff.1 hj).1 hj b c
/-! ## the way down -/
def wIds (L : List Nr) (wy : List Int) : List Int := wy.map fun a => (L.map (·.id)).getD a.toNat 0
structure RrI (L : List Nr) (rk : Int → Nat) (f : Nat) (M : List Nr) (i : Nat) (wy : List Int) (x : Nr) : Prop where
  sk : SK M
  rkk : RK M rk
  dn : DN rk (rk x.id) M
  at' : M[i]? = some x
  rdy : x.rdy = true
  fu : f + rk x.id = 7
  wl : f + wy.length = 6
  down : downN 6 L 0 [] = downN f M x.id (wIds L wy)
  rd : ∀ z ∈ M, z.thr = false → (z.rdy = true ↔ KX M z.id)
  ids : M.map (·.id) = L.map (·.id)
  way : ∀ a ∈ wy, ∃ j : Nat, a = (j : Int) ∧ j < M.length
theorem root_first {L : List Nr} (hs : SK L) (hsr : (L.map (·.id)).Pairwise (· < ·)) : ∃ r, L[0]? = some r ∧ r.id = 0 := by
  obtain ⟨r, hr, r0⟩ := hs.root
  obtain ⟨i, hi⟩ := List.mem_iff_getElem?.1 hr
  have hil := (List.getElem?_eq_some_iff.1 hi).1
  refine ⟨L[0]'(by omega), List.getElem?_eq_getElem (by omega), ?_⟩
  have h0 := hs.pos (List.getElem_mem (show 0 < L.length by omega))
  by_cases c : i = 0
  · subst c; rw [(List.getElem?_eq_some_iff.1 hi).2, r0]
  · have := List.pairwise_iff_getElem.1 hsr 0 i (by rw [List.length_map]; omega) (by rw [List.length_map]; omega) (by omega)
    simp only [List.getElem_map] at this
    rw [(List.getElem?_eq_some_iff.1 hi).2, r0] at this
    omega
theorem any_root {L : List Nr} (hw : WFN L) {r : Nr} (hr : r ∈ L) (r0 : r.id = 0) : (L.any fun x => x.par == 0 && x.rdy) = r.rdy := by
  have h := hw.rd r hr (hw.sk.rt r hr r0).2
  rw [r0] at h
  cases hrd : r.rdy with
  | true => rw [any_kid, kidR_KX]; exact h.1 hrd
  | false =>
    cases ha : L.any fun x => x.par == 0 && x.rdy with
    | false => rfl
    | true => rw [h.2 (kidR_KX.1 (any_kid.1 ha))] at hrd; cases hrd
theorem RrI.start {L : List Nr} {rk : Int → Nat} (hw : WFN L) (hrk : RK L rk) {r : Nr} (h0 : L[0]? = some r) (r0 : r.id = 0) (hrd : r.rdy = true) : RrI L rk 6 L 0 [] r :=
  ⟨hw.sk, hrk, hw.dn rk _, h0, hrd, by rw [(hrk r (List.mem_of_getElem? h0)).1 r0], rfl, by rw [r0]; rfl, hw.rd, rfl, fun a ha => by cases ha⟩
theorem RrI.leaf {L : List Nr} {rk : Int → Nat} {f : Nat} {M : List Nr} {i : Nat} {wy : List Int} {x : Nr} (h : RrI L rk f M i wy x) (ht : x.thr = true) : downN 6 L 0 [] = (x.id, (wIds L wy).foldl shiftN M) := by
  have hx := List.mem_of_getElem? h.at'
  have hr := (h.rkk x hx).2.2.1
  have hf := h.fu
  obtain ⟨g, rfl⟩ : ∃ g, f = g + 1 := ⟨f - 1, by omega⟩
  have hk : kidR M x.id = [] := by
    cases hkk : kidR M x.id with
    | nil => rfl
    | cons y ys =>
      have hy : y ∈ kidR M x.id := by rw [hkk]; simp
      obtain ⟨h1, h2, _⟩ := mem_kidR.1 hy
      exact absurd h2 (thr_leaf h.sk hx ht y h1)
  rw [h.down, downN, hk]; rfl
theorem RrI.next {L : List Nr} {rk : Int → Nat} {f : Nat} {M : List Nr} {i : Nat} {wy : List Int} {x : Nr} (h : RrI L rk f M i wy x) {m : Nat} {y : Nr} (hm : M[m]? = some y) (hyp : y.par = x.id) (hyr : y.rdy = true) (hl : least (kidR M x.id) = some y) :
    RrI L rk (f - 1) (upN (upN M x.id (nwF y.pass)) y.id (psF (y.pass + strd y.wt))) m (wy ++ [(i : Int)]) (psF (y.pass + strd y.wt) y) ∧ y.id ≠ x.id ∧ f - 1 < f := by
  have hx := List.mem_of_getElem? h.at'
  have hy := List.mem_of_getElem? hm
  have hry := RK.up h.sk h.rkk hy hx hyp.symm
  have hrx := h.rkk.pos hx
  have hry5 := (h.rkk y hy).2.2.1
  have hf := h.fu
  have hil := (List.getElem?_eq_some_iff.1 h.at').1
  have hml := (List.getElem?_eq_some_iff.1 hm).1
  have hne : y.id ≠ x.id := fun e => by rw [e] at hry; omega
  obtain ⟨g, rfl⟩ : ∃ g, f = g + 1 := ⟨f - 1, by omega⟩
  obtain ⟨hd2, _, _⟩ := h.dn.step h.sk h.rkk hx hy hyp hyr (least_some hl).2
  have s1 : Skel (nwF y.pass) := nwF_skel _
  have s2 : Skel (psF (y.pass + strd y.wt)) := psF_skel _
  have hsk2 := (h.sk.upN s1 (k := x.id)).upN s2 (k := y.id)
  have hids : (upN (upN M x.id (nwF y.pass)) y.id (psF (y.pass + strd y.wt))).map (·.id) = L.map (·.id) := by rw [upN_id s2.id, upN_id s1.id, h.ids]
  have hm1 := up_at h.sk.nd h.at' hm hne (nwF y.pass)
  have hm2 : (upN (upN M x.id (nwF y.pass)) y.id (psF (y.pass + strd y.wt)))[m]? = some (psF (y.pass + strd y.wt) y) := by
    rw [upN, List.getElem?_map, hm1]; simp
  have hl2 : (upN (upN M x.id (nwF y.pass)) y.id (psF (y.pass + strd y.wt))).length = M.length := by simp [upN]
  have e0 : upN (upN M x.id (nwF y.pass)) y.id (psF (y.pass + strd y.wt)) = M.map (fun z => (fun z => if z.id == y.id then psF (y.pass + strd y.wt) z else z) ((fun z => if z.id == x.id then nwF y.pass z else z) z)) := by rw [upN, upN, List.map_map]; rfl
  have st : Still (fun z => (fun z => if z.id == y.id then psF (y.pass + strd y.wt) z else z) ((fun z => if z.id == x.id then nwF y.pass z else z) z)) := (Still.ite (nwF_still _)).comp (Still.ite (psF_still _))
  refine ⟨⟨hsk2, (h.rkk.ups s1).ups s2, hd2, hm2, hyr, by show g + 1 - 1 + rk y.id = 7; omega, by have := h.wl; simp; omega, ?_, ?_, hids, ?_⟩, hne, by omega⟩
  · have hw : wIds L (wy ++ [(i : Int)]) = wIds L wy ++ [x.id] := by
      rw [wIds, List.map_append]
      congr 1
      simp only [List.map_cons, List.map_nil, Int.toNat_natCast]
      rw [← h.ids, List.getD_eq_getElem?_getD, List.getElem?_map, h.at']; rfl
    rw [h.down, downN, hl, hw]; rfl
  · rw [e0]
    intro z hz ht
    obtain ⟨v, hv, rfl⟩ := List.mem_map.1 hz
    rw [KX.still st, st.rdy, st.sk.id]
    exact h.rd v hv (by rw [← st.sk.thr]; exact ht)
  · intro a ha
    rcases List.mem_append.1 ha with ha | ha
    · obtain ⟨j, hj, hjl⟩ := h.way a ha; exact ⟨j, hj, by rw [hl2]; exact hjl⟩
    · simp at ha; exact ⟨i, ha, by rw [hl2]; exact hil⟩
end Go.Proofs.YtjbjngikaiggdaaGreatDoor
