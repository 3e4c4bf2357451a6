/- tree: has, Remove, Weight, Add. Conditions: none. -/
import Derived.Test.YtjbjngikaiggdaaGreatTx
import Derived.Test.YtjbjngikaiggdaaGreatGn
set_option linter.unusedVariables false
set_option linter.unusedSimpArgs false
namespace Go.Proofs.YtjbjngikaiggdaaGreat
open Go.RowKit G
theorem nodup_len {l : List Nat} {n : Nat} (h : l.Nodup) (hb : ∀ j ∈ l, j < n) : l.length ≤ n := by
  have := h.length_le_of_subset (l₂ := List.range n) (fun j hj => List.mem_range.2 (hb j hj))
  simpa using this
theorem kp_at {T : List Nd} {j : Nat} {k : Int} {v : Value} (h : (T.map kp)[j]? = some (k, v)) : ∃ z, T[j]? = some z ∧ k = z.n.id ∧ v = .pointer (some ⟨z.b, 0, none⟩) := by
  rw [List.getElem?_map] at h
  obtain ⟨z, h1, h2⟩ := Option.map_eq_some_iff.1 h
  simp only [kp, Prod.mk.injEq] at h2
  exact ⟨z, h1, h2.1.symm, h2.2.symm⟩
set_option maxRecDepth 100000 in
theorem has_walk {N : List Nr} {T : List Nd} (hT : OkT N T) (H : List SP) (t mb : Nat) (g : Int) : ∀ w, Sat w (blk t 57 [.map (some mb)] :: mapS mb (T.map kp) :: (nodesL T ++ H)) → Calls Tryz.prog 27 #[.pointer (some ⟨t, 0, none⟩), .int .i64 g] w (Ret (ι := Unit) (fun _ => .bool (N.any (fun x => x.par == g))) fun _ => blk t 57 [.map (some mb)] :: mapS mb (T.map kp) :: (nodesL T ++ H)) := by
  refine enterG (fn := Tryz.f27) 23 [.pointer (some ⟨t, 0, none⟩), .int .i64 g] Tryz.func27 (by kernel_rfl) (by kernel_rfl) (by kernel_rfl) ?_
  refine seqR (by kernel_rfl) ?_
  refine regionR 1 (by kernel_rfl) (by kernel_rfl) ?_
  refine (run0 (z := 0) 1 [0, 1, 4] [(0, .pointer (some ⟨t, 0, none⟩)), (1, .int .i64 g), (4, .bool false)] (fun _ => by kernel_rfl) (endR ?_) : RT _ _ _ _ _ _ 1 _)
  refine seqR (by kernel_rfl) ?_
  refine seqR (by kernel_rfl) ?_
  refine regionR 5 (by kernel_rfl) (by kernel_rfl) ?_
  refine (runR (H := (blk t 57 [.map (some mb)] :: mapS mb (T.map kp) :: (nodesL T ++ H))) (z := 1) 4 [1, 4, 10] [(1, .int .i64 g), (4, .bool false), (10, .map (some mb))] [(⟨t, 0, none⟩, .map (some mb))] (hasC (blkAt (T := 57) (cs := [.map (some mb)]) 0 rfl rfl) has0) (fun _ => by kernel_rfl) ?_ : RT _ _ _ _ _ _ 5 _)
  refine (RT.pick 1 rfl ?_ : RT _ _ _ (blk t 57 [.map (some mb)] :: mapS mb (T.map kp) :: (nodesL T ++ H)) _ _ 1 _)
  refine (stepR (z := 0) (rangeS 55 (.tmp 10) mb (T.map kp) 3 50 (some 11) (fun _ => by kernel_rfl) (by kernel_rfl) (by kernel_rfl) (fun _ => by kernel_rfl) Tryz.underlying55) (fun it1 => ?_) : RT _ _ _ _ _ _ 1 _)
  refine endR ?_
  refine blockR 0 (by kernel_rfl) (by kernel_rfl) ?_
  refine PT.keep (L' := [(1, .int .i64 g), (4, .bool false), (11, .pointer (some ⟨it1, 0, none⟩))]) [1, 4, 11] rfl ?_
  refine loopG (fun (dn : List Nat) => [(1, .int .i64 g), (4, .bool false), (11, .pointer (some ⟨it1, 0, none⟩))]) (fun (dn : List Nat) => (rngS it1 mb (T.map kp) dn :: blk t 57 [.map (some mb)] :: (nodesL T ++ H))) (fun k (dn : List Nat) => k + dn.length = T.length ∧ dn.Nodup ∧ ∀ j ∈ dn, ∃ z, T[j]? = some z ∧ z.n.par ≠ g) T.length [] (by kernel_rfl) ⟨rfl, List.nodup_nil, fun _ h => by cases h⟩ ?_
  rintro k dn ⟨hk, hnd, hno⟩
  refine seqR (by kernel_rfl) ?_
  refine regionR 2 (by kernel_rfl) (by kernel_rfl) ?_
  refine nextR (z := 1) (.tmp 11) it1 mb (T.map kp) dn (some 12) (fun _ => by kernel_rfl) (by kernel_rfl) (by kernel_rfl) (fun _ => by kernel_rfl) (fun h0  => ?_) (fun j kk vv hj hnj => ?_)
  · skip
    refine (run0 (z := 0) 1 [1, 4, 11, 13] [(1, .int .i64 g), (4, .bool false), (11, .pointer (some ⟨it1, 0, none⟩)), (13, .bool false)] (fun _ => by kernel_rfl) (endR ?_) : RT _ _ _ _ _ _ 1 _)
    refine seqR (by kernel_rfl) ?_
    refine condR (b := false) (by kernel_rfl) (fun _ => by kernel_rfl) (fun h => by cases h) (fun _ => ?_)
    refine exitR 0 (by kernel_rfl) (by kernel_rfl) ?_
    refine thenX ?_
    refine thenX ?_
    refine leaveR ?_
    refine seqR (by kernel_rfl) ?_
    refine regionR 1 (by kernel_rfl) (by kernel_rfl) ?_
    refine (run0 (z := 0) 1 [4] [(4, .bool false)] (fun _ => by kernel_rfl) (endR ?_) : RT _ _ _ _ _ _ 1 _)
    refine retR (by kernel_rfl) ?_
    refine PT.rngEnd ?_
    refine PT.pick 1 rfl ?_
    refine done0 (.bool false) (fun _ => by kernel_rfl) (fun w hs => ?_) .ret (.inr rfl)
    exact ⟨(), by rw [List.any_eq_false.2 fun y hy => by obtain ⟨i, z, hi, hz⟩ := hT.of_n hy; obtain ⟨z', h1, h2⟩ := hno i (h0 i (by rw [List.length_map]; exact (List.getElem?_eq_some_iff.1 hi).1)); rw [hi] at h1; cases h1; rw [← hz]; simpa using h2], hs⟩
  · skip
    obtain ⟨z, hz, rfl, rfl⟩ := kp_at hj
    refine (run0 (z := 0) 1 [1, 4, 11, 13] [(1, .int .i64 g), (4, .bool false), (11, .pointer (some ⟨it1, 0, none⟩)), (13, .bool true)] (fun _ => by kernel_rfl) (endR ?_) : RT _ _ _ _ _ _ 1 _)
    refine seqR (by kernel_rfl) ?_
    refine condR (b := true) (by kernel_rfl) (fun _ => by kernel_rfl) (fun _ => ?_) (fun h => by cases h)
    refine skipR (by kernel_rfl) ?_
    refine blockR 1 (by kernel_rfl) (by kernel_rfl) ?_
    refine seqR (by kernel_rfl) ?_
    refine regionR 3 (by kernel_rfl) (by kernel_rfl) ?_
    refine (stepR (z := 2) (yldS (entryY (H := (rngS it1 mb (T.map kp) (dn ++ [j]) :: blk t 57 [.map (some mb)] :: (nodesL T ++ H))) (.tmp 11) it1 mb (T.map kp) dn j z.n.id (.pointer (some ⟨z.b, 0, none⟩)) 0 (some 14) (fun _ => by kernel_rfl) (by kernel_rfl) (by kernel_rfl) (fun _ => by kernel_rfl) rfl hj)) (fun _ => ?_) : RT _ _ _ _ _ _ 3 _)
    refine (run0 (z := 0) 2 [1, 4, 11, 6] [(1, .int .i64 g), (4, .bool false), (11, .pointer (some ⟨it1, 0, none⟩)), (6, .pointer (some ⟨z.b, 0, none⟩))] (fun _ => by kernel_rfl) (endR ?_) : RT _ _ _ _ _ _ 2 _)
    refine seqR (by kernel_rfl) ?_
    refine regionR 7 (by kernel_rfl) (by kernel_rfl) ?_
    refine (runR (H := (rngS it1 mb (T.map kp) (dn ++ [j]) :: blk t 57 [.map (some mb)] :: (nodesL T ++ H))) (z := 0) 7 [1, 4, 11, 22] [(1, .int .i64 g), (4, .bool false), (11, .pointer (some ⟨it1, 0, none⟩)), (22, .bool (z.n.par == g))] [(⟨z.b, 1, none⟩, .int .i64 z.n.par)] (hasC (up (up (nodeAt (T := T) (List.mem_of_getElem? hz) (j := 1) rfl))) has0) (fun _ => by kernel_rfl) (endR ?_) : RT _ _ _ _ _ _ 7 _)
    refine condR (b := z.n.par == g) (by kernel_rfl) (fun _ => by kernel_rfl) (fun h1 => ?_) (fun h1 => ?_)
    · skip
      refine seqR (by kernel_rfl) ?_
      refine regionR 1 (by kernel_rfl) (by kernel_rfl) ?_
      refine (run0 (z := 0) 1 [1, 4, 11] [(1, .int .i64 g), (4, .bool true), (11, .pointer (some ⟨it1, 0, none⟩))] (fun _ => by kernel_rfl) (endR ?_) : RT _ _ _ _ _ _ 1 _)
      refine retR (by kernel_rfl) ?_
      refine blockV ?_
      refine thenV ?_
      refine blockV ?_
      refine thenV ?_
      refine PT.rngEnd ?_
      refine PT.pick 1 rfl ?_
      refine done0 (.bool true) (fun _ => by kernel_rfl) (fun w hs => ?_) .ret (.inr rfl)
      exact ⟨(), by rw [List.any_eq_true.2 ⟨z.n, hT.mem_n (List.mem_of_getElem? hz), h1⟩], hs⟩
    · skip
      refine skipR (by kernel_rfl) ?_
      have hl := nodup_len (l := dn ++ [j]) (n := T.length) (List.nodup_append.2 ⟨hnd, by simp, by intro a ha b hb; simp at hb; subst hb; exact fun e => hnj (e ▸ ha)⟩) (by intro a ha; rcases List.mem_append.1 ha with ha | ha; (obtain ⟨z', h1, _⟩ := hno a ha; exact (List.getElem?_eq_some_iff.1 h1).1); (simp at ha; subst ha; exact (List.getElem?_eq_some_iff.1 hz).1))
      rw [List.length_append, List.length_singleton] at hl
      refine PT.keep (L' := [(1, .int .i64 g), (4, .bool false), (11, .pointer (some ⟨it1, 0, none⟩))]) [1, 4, 11] rfl ?_
      exact againG (k - 1) (dn ++ [j]) rfl rfl (by omega) ⟨by rw [List.length_append, List.length_singleton]; omega, List.nodup_append.2 ⟨hnd, by simp, by intro a ha b hb; simp at hb; subst hb; exact fun e => hnj (e ▸ ha)⟩, by intro a ha; rcases List.mem_append.1 ha with ha | ha; exact hno a ha; (simp at ha; subst ha; exact ⟨z, hz, by simpa using h1⟩)⟩
end Go.Proofs.YtjbjngikaiggdaaGreat
