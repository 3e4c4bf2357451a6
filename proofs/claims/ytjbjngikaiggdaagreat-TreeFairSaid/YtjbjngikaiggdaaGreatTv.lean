/- tree: Remove, Weight, Add. Conditions: none. -/
import Derived.Test.YtjbjngikaiggdaaGreatTy
import Derived.Test.YtjbjngikaiggdaaGreatTs
set_option linter.unusedVariables false
set_option linter.unusedSimpArgs false
namespace Go.Proofs.YtjbjngikaiggdaaGreat
open Go.RowKit G
theorem kid_none {N : List Nr} {k : Int} (h : N.any (fun x => x.par == k) = false) : kidR N k = [] ∧ ∀ x ∈ N, x.par ≠ k := by
  have h1 : ∀ x ∈ N, x.par ≠ k := fun x hx => by simpa using List.any_eq_false.1 h x hx
  refine ⟨?_, h1⟩
  rw [kidR, List.filter_eq_nil_iff]
  intro x hx
  simp [h1 x hx]
set_option maxRecDepth 100000 in
theorem remove_walk {N : List Nr} {T : List Nd} (hT : OkT N T) (hsk : SK N) (hlb : LB N) (H : List SP) (t mb : Nat) (id : Int) : ∀ w, Sat w (blk t 57 [.map (some mb)] :: mapS mb (T.map kp) :: (nodesL T ++ H)) → Calls Tryz.prog 13 #[.pointer (some ⟨t, 0, none⟩), .int .i64 id] w (Ret (ι := { T' : List Nd // OkT (removeN N id).2 T' }) (fun _ => pqErr (removeN N id).1) fun T' => blk t 57 [.map (some mb)] :: mapS mb (T'.1.map kp) :: (nodesL T'.1 ++ H)) := by
  refine enterG (fn := Tryz.f13) 37 [.pointer (some ⟨t, 0, none⟩), .int .i64 id] Tryz.func13 (by kernel_rfl) (by kernel_rfl) (by kernel_rfl) ?_
  cases hg : gt N id with
  | none =>
    refine seqR (by kernel_rfl) ?_
    refine regionR 1 (by kernel_rfl) (by kernel_rfl) ?_
    refine (run0 (z := 0) 1 [0, 1, 4] [(0, .pointer (some ⟨t, 0, none⟩)), (1, .int .i64 id), (4, .nilIface)] (fun _ => by kernel_rfl) (endR ?_) : RT _ _ _ _ _ _ 1 _)
    refine seqR (by kernel_rfl) ?_
    refine regionR 11 (by kernel_rfl) (by kernel_rfl) ?_
    refine (runR (H := (blk t 57 [.map (some mb)] :: mapS mb (T.map kp) :: (nodesL T ++ H))) (z := 6) 5 [0, 1, 4, 11, 12] [(0, .pointer (some ⟨t, 0, none⟩)), (1, .int .i64 id), (4, .nilIface), (11, .map (some mb)), (12, .int .i64 id)] [(⟨t, 0, none⟩, .map (some mb))] (hasC (blkAt (T := 57) (cs := [.map (some mb)]) 0 rfl rfl) has0) (fun _ => by kernel_rfl) ?_ : RT _ _ _ _ _ _ 11 _)
    refine (stepR (z := 5) (yldS (lookY 55 (.tmp 11) (.tmp 12) true mb id (T.map kp) (.pointer none) (.tuple #[.pointer none, .bool false]) 3 50 (some 13) (fun _ => by kernel_rfl) (by kernel_rfl) (by kernel_rfl) (fun _ => by kernel_rfl) (fun _ => by kernel_rfl) Tryz.underlying55 (by kernel_rfl) (fun _ => by kernel_rfl) (mapAt (H := (blk t 57 [.map (some mb)] :: mapS mb (T.map kp) :: (nodesL T ++ H))) (i := 1) rfl) (by rw [lk_none hT hg]; rfl))) (fun _ => ?_) : RT _ _ _ _ _ _ 6 _)
    refine (run0 (z := 0) 5 [0, 1, 4, 5, 6] [(0, .pointer (some ⟨t, 0, none⟩)), (1, .int .i64 id), (4, .nilIface), (5, .pointer none), (6, .bool false)] (fun _ => by kernel_rfl) (endR ?_) : RT _ _ _ _ _ _ 5 _)
    refine seqR (by kernel_rfl) ?_
    refine blockR 0 (by kernel_rfl) (by kernel_rfl) ?_
    refine seqR (by kernel_rfl) ?_
    refine regionR 7 (by kernel_rfl) (by kernel_rfl) ?_
    refine (run0 (z := 0) 7 [0, 1, 4, 5, 16] [(0, .pointer (some ⟨t, 0, none⟩)), (1, .int .i64 id), (4, .nilIface), (5, .pointer none), (16, .bool true)] (fun _ => by kernel_rfl) (endR ?_) : RT _ _ _ _ _ _ 7 _)
    refine condR (b := true) (by kernel_rfl) (fun _ => by kernel_rfl) (fun _ => ?_) (fun h => by cases h)
    refine seqR (by kernel_rfl) ?_
    refine regionR 2 (by kernel_rfl) (by kernel_rfl) ?_
    refine (run0 (z := 0) 2 [0, 1, 4, 5] [(0, .pointer (some ⟨t, 0, none⟩)), (1, .int .i64 id), (4, .iface 46 (.int .i64 13)), (5, .pointer none)] (fun _ => by kernel_rfl) (endR ?_) : RT _ _ _ _ _ _ 2 _)
    refine retR (by kernel_rfl) ?_
    refine blockV ?_
    refine thenV ?_
    have hrn : removeN N id = (13, N) := by rw [removeN, if_pos (.inl (by rw [hg]; rfl))]
    refine done0 (.iface 46 (.int .i64 13)) (fun _ => by kernel_rfl) (fun w hs => ?_) .ret (.inr rfl)
    exact ⟨⟨T, by rw [hrn]; exact hT⟩, by show _ = Ending.returned (pqErr (removeN N id).1); rw [hrn]; rfl, hs⟩
  | some y =>
    obtain ⟨i, z, hi, hzn, hzk⟩ := hT.get hg
    refine seqR (by kernel_rfl) ?_
    refine regionR 1 (by kernel_rfl) (by kernel_rfl) ?_
    refine (run0 (z := 0) 1 [0, 1, 4] [(0, .pointer (some ⟨t, 0, none⟩)), (1, .int .i64 id), (4, .nilIface)] (fun _ => by kernel_rfl) (endR ?_) : RT _ _ _ _ _ _ 1 _)
    refine seqR (by kernel_rfl) ?_
    refine regionR 11 (by kernel_rfl) (by kernel_rfl) ?_
    refine (runR (H := (blk t 57 [.map (some mb)] :: mapS mb (T.map kp) :: (nodesL T ++ H))) (z := 6) 5 [0, 1, 4, 11, 12] [(0, .pointer (some ⟨t, 0, none⟩)), (1, .int .i64 id), (4, .nilIface), (11, .map (some mb)), (12, .int .i64 id)] [(⟨t, 0, none⟩, .map (some mb))] (hasC (blkAt (T := 57) (cs := [.map (some mb)]) 0 rfl rfl) has0) (fun _ => by kernel_rfl) ?_ : RT _ _ _ _ _ _ 11 _)
    refine (stepR (z := 5) (yldS (lookY 55 (.tmp 11) (.tmp 12) true mb id (T.map kp) (.pointer none) (.tuple #[.pointer (some ⟨z.b, 0, none⟩), .bool true]) 3 50 (some 13) (fun _ => by kernel_rfl) (by kernel_rfl) (by kernel_rfl) (fun _ => by kernel_rfl) (fun _ => by kernel_rfl) Tryz.underlying55 (by kernel_rfl) (fun _ => by kernel_rfl) (mapAt (H := (blk t 57 [.map (some mb)] :: mapS mb (T.map kp) :: (nodesL T ++ H))) (i := 1) rfl) (by rw [lk_some hT hsk.nd hi hzk]; rfl))) (fun _ => ?_) : RT _ _ _ _ _ _ 6 _)
    refine (run0 (z := 0) 5 [0, 1, 4, 5, 6] [(0, .pointer (some ⟨t, 0, none⟩)), (1, .int .i64 id), (4, .nilIface), (5, .pointer (some ⟨z.b, 0, none⟩)), (6, .bool true)] (fun _ => by kernel_rfl) (endR ?_) : RT _ _ _ _ _ _ 5 _)
    refine seqR (by kernel_rfl) ?_
    refine blockR 0 (by kernel_rfl) (by kernel_rfl) ?_
    refine seqR (by kernel_rfl) ?_
    refine regionR 7 (by kernel_rfl) (by kernel_rfl) ?_
    refine (run0 (z := 0) 7 [0, 1, 4, 5, 16] [(0, .pointer (some ⟨t, 0, none⟩)), (1, .int .i64 id), (4, .nilIface), (5, .pointer (some ⟨z.b, 0, none⟩)), (16, .bool (id == 0))] (fun _ => by kernel_rfl) (endR ?_) : RT _ _ _ _ _ _ 7 _)
    refine condR (b := id == 0) (by kernel_rfl) (fun _ => by kernel_rfl) (fun h1 => ?_) (fun h1 => ?_)
    · skip
      have h0 : id = 0 := by simpa using h1
      have hrn : removeN N id = (13, N) := by rw [removeN, if_pos (.inr h0)]
      refine seqR (by kernel_rfl) ?_
      refine regionR 2 (by kernel_rfl) (by kernel_rfl) ?_
      refine (run0 (z := 0) 2 [0, 1, 4, 5] [(0, .pointer (some ⟨t, 0, none⟩)), (1, .int .i64 id), (4, .iface 46 (.int .i64 13)), (5, .pointer (some ⟨z.b, 0, none⟩))] (fun _ => by kernel_rfl) (endR ?_) : RT _ _ _ _ _ _ 2 _)
      refine retR (by kernel_rfl) ?_
      refine blockV ?_
      refine thenV ?_
      refine done0 (.iface 46 (.int .i64 13)) (fun _ => by kernel_rfl) (fun w hs => ?_) .ret (.inr rfl)
      exact ⟨⟨T, by rw [hrn]; exact hT⟩, by show _ = Ending.returned (pqErr (removeN N id).1); rw [hrn]; rfl, hs⟩
    · skip
      have h0 : ¬ id = 0 := by simpa using h1
      have hn0 : ¬ ((gt N id).isNone = true ∨ id = 0) := by rw [hg]; simpa using h0
      refine seqR (by kernel_rfl) ?_
      refine regionR 4 (by kernel_rfl) (by kernel_rfl) ?_
      refine (run0 (z := 2) 2 [0, 1, 4, 5, 25, 26] [(0, .pointer (some ⟨t, 0, none⟩)), (1, .int .i64 id), (4, .nilIface), (5, .pointer (some ⟨z.b, 0, none⟩)), (25, .pointer (some ⟨t, 0, none⟩)), (26, .int .i64 id)] (fun _ => by kernel_rfl) ?_ : RT _ _ _ _ _ _ 4 _)
      refine (stepR (z := 1) (callS 27 [.pointer (some ⟨t, 0, none⟩), .int .i64 id] (some 27) (fun _ => .bool (N.any (fun x => x.par == id))) (fun (_ : Unit) => (blk t 57 [.map (some mb)] :: mapS mb (T.map kp) :: (nodesL T ++ H))) (fun _ => by kernel_rfl) (has_walk hT H t mb id)) (fun _ => ?_) : RT _ _ _ _ _ _ 2 _)
      refine (run0 (z := 0) 1 [0, 1, 4, 5, 24] [(0, .pointer (some ⟨t, 0, none⟩)), (1, .int .i64 id), (4, .nilIface), (5, .pointer (some ⟨z.b, 0, none⟩)), (24, .bool (N.any (fun x => x.par == id)))] (fun _ => by kernel_rfl) (endR ?_) : RT _ _ _ _ _ _ 1 _)
      refine condR (b := N.any (fun x => x.par == id)) (by kernel_rfl) (fun _ => by kernel_rfl) (fun h2 => ?_) (fun h2 => ?_)
      · skip
        have hrn : removeN N id = (10, N) := by rw [removeN, if_neg hn0, if_pos h2]
        refine seqR (by kernel_rfl) ?_
        refine regionR 2 (by kernel_rfl) (by kernel_rfl) ?_
        refine (run0 (z := 0) 2 [0, 1, 4, 5] [(0, .pointer (some ⟨t, 0, none⟩)), (1, .int .i64 id), (4, .iface 46 (.int .i64 10)), (5, .pointer (some ⟨z.b, 0, none⟩))] (fun _ => by kernel_rfl) (endR ?_) : RT _ _ _ _ _ _ 2 _)
        refine retR (by kernel_rfl) ?_
        refine blockV ?_
        refine thenV ?_
        refine done0 (.iface 46 (.int .i64 10)) (fun _ => by kernel_rfl) (fun w hs => ?_) .ret (.inr rfl)
        exact ⟨⟨T, by rw [hrn]; exact hT⟩, by show _ = Ending.returned (pqErr (removeN N id).1); rw [hrn]; rfl, hs⟩
      · skip
        have hrn : removeN N id = (0, (restN 6 N id).filter (fun x => !(x.id == id))) := by rw [removeN, if_neg hn0, if_neg (by rw [h2]; simp)]
        obtain ⟨hkd, hnp⟩ := kid_none h2
        refine skipR (by kernel_rfl) ?_
        refine seqR (by kernel_rfl) ?_
        refine regionR 3 (by kernel_rfl) (by kernel_rfl) ?_
        refine (run0 (z := 1) 2 [0, 1, 4, 29, 30] [(0, .pointer (some ⟨t, 0, none⟩)), (1, .int .i64 id), (4, .nilIface), (29, .pointer (some ⟨t, 0, none⟩)), (30, .pointer (some ⟨z.b, 0, none⟩))] (fun _ => by kernel_rfl) ?_ : RT _ _ _ _ _ _ 3 _)
        refine (stepR (z := 0) (callS 20 [.pointer (some ⟨t, 0, none⟩), .pointer (some ⟨z.b, 0, none⟩)] (some 31) (fun (T' : { T' : List Nd // OkT (restN 6 N z.n.id) T' ∧ SameT T T' }) => .tuple #[]) (fun (T' : { T' : List Nd // OkT (restN 6 N z.n.id) T' ∧ SameT T T' }) => blk t 57 [.map (some mb)] :: mapS mb (T'.1.map kp) :: (nodesL T'.1 ++ H)) (fun _ => by kernel_rfl) (rests_walk hT hsk hlb hi H t mb)) (fun (T' : { T' : List Nd // OkT (restN 6 N z.n.id) T' ∧ SameT T T' }) => ?_) : RT _ _ _ _ _ _ 1 _)
        obtain ⟨T1, hT1, hsm⟩ := T'
        rw [hzk] at hT1
        obtain ⟨g, hg1, hg2, hg3⟩ := restN_map 6 N id
        have hs1 : SK (restN 6 N id) := hg3 ▸ hsk.map g hg1
        have hoff := rest_off hsk hg hkd
        obtain ⟨z1, hz1, hz1k, _⟩ := hsm.at hi
        obtain ⟨v, hv⟩ : ∃ v, T1.find? (fun x => x.n.id == id) = some v := Option.isSome_iff_exists.1 (List.find?_isSome.2 ⟨z1, List.mem_of_getElem? hz1, by simp [hz1k, hzk]⟩)
        refine PT.sat (fun _ hs => Sat.nds (erase_perm hv) hs) ?_
        refine endR ?_
        refine seqR (by kernel_rfl) ?_
        refine regionR 6 (by kernel_rfl) (by kernel_rfl) ?_
        refine (runR (H := (blk t 57 [.map (some mb)] :: mapS mb (T1.map kp) :: (nodesL (v :: T1.eraseP (fun x => x.n.id == id)) ++ H))) (z := 1) 5 [4, 35, 36] [(4, .nilIface), (35, .map (some mb)), (36, .int .i64 id)] [(⟨t, 0, none⟩, .map (some mb))] (hasC (blkAt (T := 57) (cs := [.map (some mb)]) 0 rfl rfl) has0) (fun _ => by kernel_rfl) ?_ : RT _ _ _ _ _ _ 6 _)
        refine (RT.pick 1 rfl ?_ : RT _ _ _ (blk t 57 [.map (some mb)] :: mapS mb (T1.map kp) :: (nodesL (v :: T1.eraseP (fun x => x.n.id == id)) ++ H)) _ _ 1 _)
        refine (stepR (z := 0) (delS 55 3 50 (.tmp 35) (.tmp 36) mb id (T1.map kp) #[55, 3] rfl (fun _ => by kernel_rfl) (by kernel_rfl) (by kernel_rfl) (fun _ => by kernel_rfl) (fun _ => by kernel_rfl) Tryz.underlying55 (by kernel_rfl)) (fun _ => ?_) : RT _ _ _ _ _ _ 1 _)
        refine endR ?_
        refine seqR (by kernel_rfl) ?_
        refine regionR 1 (by kernel_rfl) (by kernel_rfl) ?_
        refine (run0 (z := 0) 1 [4] [(4, .nilIface)] (fun _ => by kernel_rfl) (endR ?_) : RT _ _ _ _ _ _ 1 _)
        refine retR (by kernel_rfl) ?_
        refine done0 (.nilIface) (fun _ => by kernel_rfl) (fun w hs => ?_) .ret (.inr rfl)
        exact ⟨⟨T1.eraseP (fun x => x.n.id == id), by rw [hrn]; exact hT1.erase hs1 hoff⟩, by show _ = Ending.returned (pqErr (removeN N id).1); rw [hrn]; rfl, by show Sat _ (blk t 57 [.map (some mb)] :: mapS mb ((T1.eraseP (fun x => x.n.id == id)).map kp) :: (nodesL (T1.eraseP (fun x => x.n.id == id)) ++ H)); rw [← del_kp]; exact ((((hs.pick 2 rfl).tail).pick 2 rfl).tail).pick 1 rfl⟩
theorem scale_range {p n f t : Int} (hp : 0 ≤ p) (hn : 0 ≤ n ∧ n ≤ 16777216) (hf : isW f = true) (ht : isW t = true) (hpn : p ≤ n + strd f) : 0 ≤ scaleN p n f t ∧ scaleN p n f t ≤ n + strd t ∧ (n ≤ p → n ≤ scaleN p n f t) := by
  have h1 := strd_pos hf
  have h2 := strd_pos ht
  unfold scaleN
  split
  · omega
  · rename_i hc
    have hc : ¬ p ≤ n := fun h => hc (.inl h)
    have hm : 0 ≤ (p - n) * strd t := Int.mul_nonneg (by omega) (by omega)
    have hd := tdiv_le hm h1.1
    have hle : ((p - n) * strd t).tdiv (strd f) ≤ strd t := by
      rw [Int.tdiv_eq_ediv_of_nonneg hm]
      refine Int.ediv_le_of_le_mul h1.1 ?_
      rw [Int.mul_comm (strd t)]
      exact Int.mul_le_mul_of_nonneg_right (by omega) (by omega)
    omega
def wtF (W : Int) (x : Nr) : Nr := { x with wt := W }
theorem wtF_skel (W : Int) : Skel (wtF W) := ⟨fun _ => rfl, fun _ => rfl, fun _ => rfl⟩
set_option maxRecDepth 100000 in
theorem weight_walk {N : List Nr} {T : List Nd} (hT : OkT N T) (hw : WFN N) (H : List SP) (t mb : Nat) (id W : Int) : ∀ w, Sat w (blk t 57 [.map (some mb)] :: mapS mb (T.map kp) :: (nodesL T ++ H)) → Calls Tryz.prog 9 #[.pointer (some ⟨t, 0, none⟩), .int .i64 id, .int .i64 W] w (Ret (ι := { T' : List Nd // OkT (weightN N id W).2 T' ∧ SameT T T' }) (fun _ => pqErr (weightN N id W).1) fun T' => blk t 57 [.map (some mb)] :: mapS mb (T'.1.map kp) :: (nodesL T'.1 ++ H)) := by
  have hsk := hw.sk
  have hlb := hw.lb
  refine enterG (fn := Tryz.f9) 66 [.pointer (some ⟨t, 0, none⟩), .int .i64 id, .int .i64 W] Tryz.func9 (by kernel_rfl) (by kernel_rfl) (by kernel_rfl) ?_
  cases hg : gt N id with
  | none =>
    refine seqR (by kernel_rfl) ?_
    refine regionR 1 (by kernel_rfl) (by kernel_rfl) ?_
    refine (run0 (z := 0) 1 [0, 1, 2, 6] [(0, .pointer (some ⟨t, 0, none⟩)), (1, .int .i64 id), (2, .int .i64 W), (6, .nilIface)] (fun _ => by kernel_rfl) (endR ?_) : RT _ _ _ _ _ _ 1 _)
    refine seqR (by kernel_rfl) ?_
    refine regionR 11 (by kernel_rfl) (by kernel_rfl) ?_
    refine (runR (H := (blk t 57 [.map (some mb)] :: mapS mb (T.map kp) :: (nodesL T ++ H))) (z := 6) 5 [0, 1, 2, 6, 14, 15] [(0, .pointer (some ⟨t, 0, none⟩)), (1, .int .i64 id), (2, .int .i64 W), (6, .nilIface), (14, .map (some mb)), (15, .int .i64 id)] [(⟨t, 0, none⟩, .map (some mb))] (hasC (blkAt (T := 57) (cs := [.map (some mb)]) 0 rfl rfl) has0) (fun _ => by kernel_rfl) ?_ : RT _ _ _ _ _ _ 11 _)
    refine (stepR (z := 5) (yldS (lookY 55 (.tmp 14) (.tmp 15) true mb id (T.map kp) (.pointer none) (.tuple #[.pointer none, .bool false]) 3 50 (some 16) (fun _ => by kernel_rfl) (by kernel_rfl) (by kernel_rfl) (fun _ => by kernel_rfl) (fun _ => by kernel_rfl) Tryz.underlying55 (by kernel_rfl) (fun _ => by kernel_rfl) (mapAt (H := (blk t 57 [.map (some mb)] :: mapS mb (T.map kp) :: (nodesL T ++ H))) (i := 1) rfl) (by rw [lk_none hT hg]; rfl))) (fun _ => ?_) : RT _ _ _ _ _ _ 6 _)
    refine (run0 (z := 0) 5 [0, 1, 2, 6, 7, 8] [(0, .pointer (some ⟨t, 0, none⟩)), (1, .int .i64 id), (2, .int .i64 W), (6, .nilIface), (7, .pointer none), (8, .bool false)] (fun _ => by kernel_rfl) (endR ?_) : RT _ _ _ _ _ _ 5 _)
    refine seqR (by kernel_rfl) ?_
    refine blockR 0 (by kernel_rfl) (by kernel_rfl) ?_
    refine seqR (by kernel_rfl) ?_
    refine regionR 4 (by kernel_rfl) (by kernel_rfl) ?_
    refine (run0 (z := 3) 1 [0, 1, 2, 6, 7, 8, 20] [(0, .pointer (some ⟨t, 0, none⟩)), (1, .int .i64 id), (2, .int .i64 W), (6, .nilIface), (7, .pointer none), (8, .bool false), (20, .int .i64 W)] (fun _ => by kernel_rfl) ?_ : RT _ _ _ _ _ _ 4 _)
    refine (stepR (z := 2) (callS 18 [.int .i64 W] (some 21) (fun _ => .bool (isW W)) (fun (_ : Unit) => (blk t 57 [.map (some mb)] :: mapS mb (T.map kp) :: (nodesL T ++ H))) (fun _ => by kernel_rfl) (strIs_walk _ W)) (fun _ => ?_) : RT _ _ _ _ _ _ 3 _)
    refine (run0 (z := 0) 2 [0, 1, 2, 6, 7, 8, 19] [(0, .pointer (some ⟨t, 0, none⟩)), (1, .int .i64 id), (2, .int .i64 W), (6, .nilIface), (7, .pointer none), (8, .bool false), (19, .bool (!(isW W)))] (fun _ => by kernel_rfl) (endR ?_) : RT _ _ _ _ _ _ 2 _)
    refine condR (b := !(isW W)) (by kernel_rfl) (fun _ => by kernel_rfl) (fun h1 => ?_) (fun h1 => ?_)
    · skip
      have hwf : isW W = false := by simpa using h1
      have hrn : weightN N id W = (10, N) := by rw [weightN, if_pos hwf]
      refine seqR (by kernel_rfl) ?_
      refine regionR 2 (by kernel_rfl) (by kernel_rfl) ?_
      refine (run0 (z := 0) 2 [0, 2, 6, 7] [(0, .pointer (some ⟨t, 0, none⟩)), (2, .int .i64 W), (6, .iface 46 (.int .i64 10)), (7, .pointer none)] (fun _ => by kernel_rfl) (endR ?_) : RT _ _ _ _ _ _ 2 _)
      refine retR (by kernel_rfl) ?_
      refine blockV ?_
      refine thenV ?_
      refine done0 (.iface 46 (.int .i64 10)) (fun _ => by kernel_rfl) (fun w hs => ?_) .ret (.inr rfl)
      exact ⟨⟨T, by rw [hrn]; exact hT, SameT.refl T⟩, by show _ = Ending.returned (pqErr (weightN N id W).1); rw [hrn]; rfl, hs⟩
    · skip
      have hwf : ¬ isW W = false := by simpa using h1
      have hrn : weightN N id W = (13, N) := by rw [weightN, if_neg hwf, hg]
      refine seqR (by kernel_rfl) ?_
      refine regionR 7 (by kernel_rfl) (by kernel_rfl) ?_
      refine (run0 (z := 0) 7 [0, 2, 6, 7, 24] [(0, .pointer (some ⟨t, 0, none⟩)), (2, .int .i64 W), (6, .nilIface), (7, .pointer none), (24, .bool true)] (fun _ => by kernel_rfl) (endR ?_) : RT _ _ _ _ _ _ 7 _)
      refine condR (b := true) (by kernel_rfl) (fun _ => by kernel_rfl) (fun _ => ?_) (fun h => by cases h)
      refine seqR (by kernel_rfl) ?_
      refine regionR 2 (by kernel_rfl) (by kernel_rfl) ?_
      refine (run0 (z := 0) 2 [0, 2, 6, 7] [(0, .pointer (some ⟨t, 0, none⟩)), (2, .int .i64 W), (6, .iface 46 (.int .i64 13)), (7, .pointer none)] (fun _ => by kernel_rfl) (endR ?_) : RT _ _ _ _ _ _ 2 _)
      refine retR (by kernel_rfl) ?_
      refine blockV ?_
      refine thenV ?_
      refine done0 (.iface 46 (.int .i64 13)) (fun _ => by kernel_rfl) (fun w hs => ?_) .ret (.inr rfl)
      exact ⟨⟨T, by rw [hrn]; exact hT, SameT.refl T⟩, by show _ = Ending.returned (pqErr (weightN N id W).1); rw [hrn]; rfl, hs⟩
  | some y =>
    obtain ⟨i, z, hi, hzn, hzk⟩ := hT.get hg
    have hm := List.mem_of_getElem? hi
    refine seqR (by kernel_rfl) ?_
    refine regionR 1 (by kernel_rfl) (by kernel_rfl) ?_
    refine (run0 (z := 0) 1 [0, 1, 2, 6] [(0, .pointer (some ⟨t, 0, none⟩)), (1, .int .i64 id), (2, .int .i64 W), (6, .nilIface)] (fun _ => by kernel_rfl) (endR ?_) : RT _ _ _ _ _ _ 1 _)
    refine seqR (by kernel_rfl) ?_
    refine regionR 11 (by kernel_rfl) (by kernel_rfl) ?_
    refine (runR (H := (blk t 57 [.map (some mb)] :: mapS mb (T.map kp) :: (nodesL T ++ H))) (z := 6) 5 [0, 1, 2, 6, 14, 15] [(0, .pointer (some ⟨t, 0, none⟩)), (1, .int .i64 id), (2, .int .i64 W), (6, .nilIface), (14, .map (some mb)), (15, .int .i64 id)] [(⟨t, 0, none⟩, .map (some mb))] (hasC (blkAt (T := 57) (cs := [.map (some mb)]) 0 rfl rfl) has0) (fun _ => by kernel_rfl) ?_ : RT _ _ _ _ _ _ 11 _)
    refine (stepR (z := 5) (yldS (lookY 55 (.tmp 14) (.tmp 15) true mb id (T.map kp) (.pointer none) (.tuple #[.pointer (some ⟨z.b, 0, none⟩), .bool true]) 3 50 (some 16) (fun _ => by kernel_rfl) (by kernel_rfl) (by kernel_rfl) (fun _ => by kernel_rfl) (fun _ => by kernel_rfl) Tryz.underlying55 (by kernel_rfl) (fun _ => by kernel_rfl) (mapAt (H := (blk t 57 [.map (some mb)] :: mapS mb (T.map kp) :: (nodesL T ++ H))) (i := 1) rfl) (by rw [lk_some hT hsk.nd hi hzk]; rfl))) (fun _ => ?_) : RT _ _ _ _ _ _ 6 _)
    refine (run0 (z := 0) 5 [0, 1, 2, 6, 7, 8] [(0, .pointer (some ⟨t, 0, none⟩)), (1, .int .i64 id), (2, .int .i64 W), (6, .nilIface), (7, .pointer (some ⟨z.b, 0, none⟩)), (8, .bool true)] (fun _ => by kernel_rfl) (endR ?_) : RT _ _ _ _ _ _ 5 _)
    refine seqR (by kernel_rfl) ?_
    refine blockR 0 (by kernel_rfl) (by kernel_rfl) ?_
    refine seqR (by kernel_rfl) ?_
    refine regionR 4 (by kernel_rfl) (by kernel_rfl) ?_
    refine (run0 (z := 3) 1 [0, 1, 2, 6, 7, 8, 20] [(0, .pointer (some ⟨t, 0, none⟩)), (1, .int .i64 id), (2, .int .i64 W), (6, .nilIface), (7, .pointer (some ⟨z.b, 0, none⟩)), (8, .bool true), (20, .int .i64 W)] (fun _ => by kernel_rfl) ?_ : RT _ _ _ _ _ _ 4 _)
    refine (stepR (z := 2) (callS 18 [.int .i64 W] (some 21) (fun _ => .bool (isW W)) (fun (_ : Unit) => (blk t 57 [.map (some mb)] :: mapS mb (T.map kp) :: (nodesL T ++ H))) (fun _ => by kernel_rfl) (strIs_walk _ W)) (fun _ => ?_) : RT _ _ _ _ _ _ 3 _)
    refine (run0 (z := 0) 2 [0, 1, 2, 6, 7, 8, 19] [(0, .pointer (some ⟨t, 0, none⟩)), (1, .int .i64 id), (2, .int .i64 W), (6, .nilIface), (7, .pointer (some ⟨z.b, 0, none⟩)), (8, .bool true), (19, .bool (!(isW W)))] (fun _ => by kernel_rfl) (endR ?_) : RT _ _ _ _ _ _ 2 _)
    refine condR (b := !(isW W)) (by kernel_rfl) (fun _ => by kernel_rfl) (fun h1 => ?_) (fun h1 => ?_)
    · skip
      have hwf : isW W = false := by simpa using h1
      have hrn : weightN N id W = (10, N) := by rw [weightN, if_pos hwf]
      refine seqR (by kernel_rfl) ?_
      refine regionR 2 (by kernel_rfl) (by kernel_rfl) ?_
      refine (run0 (z := 0) 2 [0, 2, 6, 7] [(0, .pointer (some ⟨t, 0, none⟩)), (2, .int .i64 W), (6, .iface 46 (.int .i64 10)), (7, .pointer (some ⟨z.b, 0, none⟩))] (fun _ => by kernel_rfl) (endR ?_) : RT _ _ _ _ _ _ 2 _)
      refine retR (by kernel_rfl) ?_
      refine blockV ?_
      refine thenV ?_
      refine done0 (.iface 46 (.int .i64 10)) (fun _ => by kernel_rfl) (fun w hs => ?_) .ret (.inr rfl)
      exact ⟨⟨T, by rw [hrn]; exact hT, SameT.refl T⟩, by show _ = Ending.returned (pqErr (weightN N id W).1); rw [hrn]; rfl, hs⟩
    · skip
      have hwf : ¬ isW W = false := by simpa using h1
      have hwt : isW W = true := by simpa using hwf
      refine seqR (by kernel_rfl) ?_
      refine regionR 7 (by kernel_rfl) (by kernel_rfl) ?_
      refine (run0 (z := 0) 7 [0, 2, 6, 7, 24] [(0, .pointer (some ⟨t, 0, none⟩)), (2, .int .i64 W), (6, .nilIface), (7, .pointer (some ⟨z.b, 0, none⟩)), (24, .bool (id == 0))] (fun _ => by kernel_rfl) (endR ?_) : RT _ _ _ _ _ _ 7 _)
      refine condR (b := id == 0) (by kernel_rfl) (fun _ => by kernel_rfl) (fun h2 => ?_) (fun h2 => ?_)
      · skip
        have h0 : id = 0 := by simpa using h2
        have hrn : weightN N id W = (13, N) := by rw [weightN, if_neg hwf, hg]; simp only [if_pos h0]
        refine seqR (by kernel_rfl) ?_
        refine regionR 2 (by kernel_rfl) (by kernel_rfl) ?_
        refine (run0 (z := 0) 2 [0, 2, 6, 7] [(0, .pointer (some ⟨t, 0, none⟩)), (2, .int .i64 W), (6, .iface 46 (.int .i64 13)), (7, .pointer (some ⟨z.b, 0, none⟩))] (fun _ => by kernel_rfl) (endR ?_) : RT _ _ _ _ _ _ 2 _)
        refine retR (by kernel_rfl) ?_
        refine blockV ?_
        refine thenV ?_
        refine done0 (.iface 46 (.int .i64 13)) (fun _ => by kernel_rfl) (fun w hs => ?_) .ret (.inr rfl)
        exact ⟨⟨T, by rw [hrn]; exact hT, SameT.refl T⟩, by show _ = Ending.returned (pqErr (weightN N id W).1); rw [hrn]; rfl, hs⟩
      · skip
        have h0 : ¬ id = 0 := by simpa using h2
        have hyN := gt_mem hg
        obtain ⟨_, p0, hp0, hp0i, _⟩ := hsk.pa y hyN.1 (by rw [hyN.2]; exact h0)
        have hgp : gt N z.n.par = some p0 := by rw [hzn, ← hp0i]; exact gt_of hsk.nd hp0
        obtain ⟨j, p, hj, hpn, hpk⟩ := hT.get hgp
        have hij : i ≠ j := fun e => by subst e; rw [hi] at hj; cases hj; exact hsk.ne_par (hT.mem_n hm) hpk
        obtain ⟨R, hR, hR2⟩ := perm2 hi hj hij
        have hpm := hT.mem_n (List.mem_of_getElem? hj)
        have hzm := hT.mem_n hm
        have hb1 := hw.pass z.n hzm
        have hb2 := hw.now p.n hpm
        have hb3 := hw.pn z.n hzm p.n hpm hpk
        have hsc := scale_range hb1.1 hb2 (hw.wt z.n hzm) hwt hb3.1
        have hst := strd_pos hwt
        have hN1 : OkT (upN N z.n.id (wtF W)) (T.set i { z with n := wtF W z.n }) := hT.one hsk.nd hi (wtF_skel W) (.inr ⟨rfl, .inl rfl⟩)
        have hs1 : SK (upN N z.n.id (wtF W)) := hsk.upN (wtF_skel W)
        have hl1 : LB (upN N z.n.id (wtF W)) := hlb.ups hsk.nd hzm hwt (hlb.pass z.n hzm) (hlb.now z.n hzm)
        have hi1 : (T.set i { z with n := wtF W z.n })[i]? = some { z with n := wtF W z.n } := by rw [List.getElem?_set_self (List.getElem?_eq_some_iff.1 hi).1]
        have hg1 : gt (upN N z.n.id (wtF W)) z.n.par = some p0 := by rw [gt_upN (f := wtF W) (fun _ => rfl), if_neg (fun e => hsk.ne_par hzm e.symm), hgp]
        refine PT.open2 (hR) ?_
        refine skipR (by kernel_rfl) ?_
        refine seqR (by kernel_rfl) ?_
        refine drawR (fun w => Sat w (blk t 57 [.map (some mb)] :: mapS mb (T.map kp) :: blk z.b 54 [.int .i64 z.n.id, .int .i64 z.n.par, .int .i64 z.n.wt, .int .i64 z.n.pass, .bool z.n.thr, .bool z.n.rdy, .int .i64 z.n.now, .pointer (some ⟨z.ib, 0, none⟩)] :: idxS z.ib 60 z.q :: blk p.b 54 [.int .i64 p.n.id, .int .i64 p.n.par, .int .i64 p.n.wt, .int .i64 p.n.pass, .bool p.n.thr, .bool p.n.rdy, .int .i64 p.n.now, .pointer (some ⟨p.ib, 0, none⟩)] :: idxS p.ib 60 p.q :: (nodesL R ++ H))) [] 26 (by kernel_rfl) (by kernel_rfl) (by kernel_rfl) (fun _ h => by first | exact h | exact h.tail | exact h.tail.tail | exact h.tail.tail.tail | exact h.tail.tail.tail.tail) ?_
        refine takesR [0, 1, 2, 3, 4, 5, 6, 7, 8, 9, 10, 11, 12, 13, 18, 19, 20, 21, 22, 23] [0, 2, 6, 7, 36, 40, 45, 54, 55] 6 [true, true, true, true, true, true, true, true, true, true, true, true, true, true, false, false, false, false, true, true, true, true, true, true, false, false] [(0, .pointer (some ⟨t, 0, none⟩)), (2, .int .i64 W), (6, .nilIface), (7, .pointer (some ⟨z.b, 0, none⟩)), (36, .int .i64 z.n.pass), (40, .map (some mb)), (45, .int .i64 z.n.par), (54, .int .i64 z.n.wt), (55, .int .i64 W)] [(⟨z.b, 3, none⟩, .int .i64 z.n.pass), (⟨t, 0, none⟩, .map (some mb)), (⟨z.b, 1, none⟩, .int .i64 z.n.par), (⟨z.b, 2, none⟩, .int .i64 z.n.wt)] rfl (fun _ d _ _ _ h => by cases d <;> exact h) (fun _ h => by first | exact h | exact h.tail | exact h.tail.tail | exact h.tail.tail.tail | exact h.tail.tail.tail.tail) (hasC (blkAt (T := 54) (cs := [.int .i64 z.n.id, .int .i64 z.n.par, .int .i64 z.n.wt, .int .i64 z.n.pass, .bool z.n.thr, .bool z.n.rdy, .int .i64 z.n.now, .pointer (some ⟨z.ib, 0, none⟩)]) 2 rfl rfl) (hasC (blkAt (T := 57) (cs := [.map (some mb)]) 0 rfl rfl) (hasC (blkAt (T := 54) (cs := [.int .i64 z.n.id, .int .i64 z.n.par, .int .i64 z.n.wt, .int .i64 z.n.pass, .bool z.n.thr, .bool z.n.rdy, .int .i64 z.n.now, .pointer (some ⟨z.ib, 0, none⟩)]) 2 rfl rfl) (hasC (blkAt (T := 54) (cs := [.int .i64 z.n.id, .int .i64 z.n.par, .int .i64 z.n.wt, .int .i64 z.n.pass, .bool z.n.thr, .bool z.n.rdy, .int .i64 z.n.now, .pointer (some ⟨z.ib, 0, none⟩)]) 2 rfl rfl) has0)))) (fun _ => by kernel_rfl) ?_
        refine takeR1 14 5 [true, true, true, true, true, true, true, true, true, true, true, true, true, true, true, false, false, false, true, true, true, true, true, true, false, false] rfl rfl (by kernel_rfl) (fun _ d _ _ _ h => by cases d <;> exact h) (fun _ h => by first | exact h | exact h.tail | exact h.tail.tail | exact h.tail.tail.tail | exact h.tail.tail.tail.tail) (lookY 55 (.tmp 40) (.tmp 45) false mb z.n.par (T.map kp) (.pointer none) (.pointer (some ⟨p.b, 0, none⟩)) 3 50 (some 46) (fun _ => by kernel_rfl) (by kernel_rfl) (by kernel_rfl) (fun _ => by kernel_rfl) (fun _ => by kernel_rfl) Tryz.underlying55 (by kernel_rfl) (fun _ => by kernel_rfl) (mapAt (H := (blk t 57 [.map (some mb)] :: mapS mb (T.map kp) :: blk z.b 54 [.int .i64 z.n.id, .int .i64 z.n.par, .int .i64 z.n.wt, .int .i64 z.n.pass, .bool z.n.thr, .bool z.n.rdy, .int .i64 z.n.now, .pointer (some ⟨z.ib, 0, none⟩)] :: idxS z.ib 60 z.q :: blk p.b 54 [.int .i64 p.n.id, .int .i64 p.n.par, .int .i64 p.n.wt, .int .i64 p.n.pass, .bool p.n.thr, .bool p.n.rdy, .int .i64 p.n.now, .pointer (some ⟨p.ib, 0, none⟩)] :: idxS p.ib 60 p.q :: (nodesL R ++ H))) (i := 1) rfl) (by rw [lk_some hT hsk.nd hj hpk]; rfl)) ?_
        refine takesR [15, 16, 17] [0, 2, 6, 7, 36, 54, 55, 49] 2 [true, true, true, true, true, true, true, true, true, true, true, true, true, true, true, true, true, true, true, true, true, true, true, true, false, false] [(0, .pointer (some ⟨t, 0, none⟩)), (2, .int .i64 W), (6, .nilIface), (7, .pointer (some ⟨z.b, 0, none⟩)), (36, .int .i64 z.n.pass), (54, .int .i64 z.n.wt), (55, .int .i64 W), (49, .int .i64 p.n.now)] [(⟨p.b, 6, none⟩, .int .i64 p.n.now)] rfl (fun _ d _ _ _ h => by cases d <;> exact h) (fun _ h => by first | exact h | exact h.tail | exact h.tail.tail | exact h.tail.tail.tail | exact h.tail.tail.tail.tail) (hasC (blkAt (T := 54) (cs := [.int .i64 p.n.id, .int .i64 p.n.par, .int .i64 p.n.wt, .int .i64 p.n.pass, .bool p.n.thr, .bool p.n.rdy, .int .i64 p.n.now, .pointer (some ⟨p.ib, 0, none⟩)]) 4 rfl rfl) has0) (fun _ => by kernel_rfl) ?_
        refine oneR 24 1 [true, true, true, true, true, true, true, true, true, true, true, true, true, true, true, true, true, true, true, true, true, true, true, true, true, false] rfl rfl (by kernel_rfl) (callS 21 [.int .i64 z.n.pass, .int .i64 p.n.now, .int .i64 z.n.wt, .int .i64 W] (some 56) (fun _ => .int .i64 (scaleN z.n.pass p.n.now z.n.wt W)) (fun _ => (blk t 57 [.map (some mb)] :: mapS mb (T.map kp) :: blk z.b 54 [.int .i64 z.n.id, .int .i64 z.n.par, .int .i64 z.n.wt, .int .i64 z.n.pass, .bool z.n.thr, .bool z.n.rdy, .int .i64 z.n.now, .pointer (some ⟨z.ib, 0, none⟩)] :: idxS z.ib 60 z.q :: blk p.b 54 [.int .i64 p.n.id, .int .i64 p.n.par, .int .i64 p.n.wt, .int .i64 p.n.pass, .bool p.n.thr, .bool p.n.rdy, .int .i64 p.n.now, .pointer (some ⟨p.ib, 0, none⟩)] :: idxS p.ib 60 p.q :: (nodesL R ++ H))) (fun _ => by kernel_rfl) (scale_walk _ z.n.pass p.n.now z.n.wt W ⟨hb1.1, by omega⟩ ⟨hb2.1, by omega⟩ (hw.wt z.n hzm) hwt)) (fun _ _ h hn => by first | exact h | exact h.tail | exact h.tail.tail | exact h.tail.tail.tail | exact h.tail.tail.tail.tail | exact absurd hn (by decide)) (fun _ => ?_)
        have hR3 : (T.set i { z with n := wtF W z.n }).Perm ({ z with n := wtF W z.n } :: p :: R) := by have := hR2 { z with n := wtF W z.n } p; rw [set_same (by rw [List.getElem?_set_ne hij]; exact hj)] at this; exact this
        refine takesR [25] [0, 2, 6, 7, 9] 0 [true, true, true, true, true, true, true, true, true, true, true, true, true, true, true, true, true, true, true, true, true, true, true, true, true, true] [(0, .pointer (some ⟨t, 0, none⟩)), (2, .int .i64 W), (6, .nilIface), (7, .pointer (some ⟨z.b, 0, none⟩)), (9, .int .i64 (scaleN z.n.pass p.n.now z.n.wt W))] [] rfl (fun _ d _ _ _ h => by cases d <;> exact h) (fun _ h => by first | exact h | exact h.tail | exact h.tail.tail | exact h.tail.tail.tail | exact h.tail.tail.tail.tail) has0 (fun _ => by kernel_rfl) ?_
        refine drawnR (by kernel_rfl) ?_
        refine seqR (by kernel_rfl) ?_
        refine regionR 6 (by kernel_rfl) (by kernel_rfl) ?_
        refine (run0 (z := 1) 5 [0, 6, 7, 9, 58, 61] [(0, .pointer (some ⟨t, 0, none⟩)), (6, .nilIface), (7, .pointer (some ⟨z.b, 0, none⟩)), (9, .int .i64 (scaleN z.n.pass p.n.now z.n.wt W)), (58, .int .i64 W), (61, .pointer (some ⟨z.b, 2, none⟩))] (fun _ => by kernel_rfl) ?_ : RT _ _ _ _ _ _ 6 _)
        refine (RT.pick 2 rfl ?_ : RT _ _ _ (blk t 57 [.map (some mb)] :: mapS mb (T.map kp) :: blk z.b 54 [.int .i64 z.n.id, .int .i64 z.n.par, .int .i64 z.n.wt, .int .i64 z.n.pass, .bool z.n.thr, .bool z.n.rdy, .int .i64 z.n.now, .pointer (some ⟨z.ib, 0, none⟩)] :: idxS z.ib 60 z.q :: blk p.b 54 [.int .i64 p.n.id, .int .i64 p.n.par, .int .i64 p.n.wt, .int .i64 p.n.pass, .bool p.n.thr, .bool p.n.rdy, .int .i64 p.n.now, .pointer (some ⟨p.ib, 0, none⟩)] :: idxS p.ib 60 p.q :: (nodesL R ++ H)) _ _ 1 _)
        refine (stepR (z := 0) (storeS [(2, .int .i64 W)] [.int .i64 z.n.id, .int .i64 z.n.par, .int .i64 W, .int .i64 z.n.pass, .bool z.n.thr, .bool z.n.rdy, .int .i64 z.n.now, .pointer (some ⟨z.ib, 0, none⟩)] (fun _ => by kernel_rfl) (by kernel_rfl) (by kernel_rfl)) (fun _ => ?_) : RT _ _ _ _ _ _ 1 _)
        refine endR ?_
        refine PT.pick 0 rfl ?_
        refine PT.pick 2 rfl ?_
        refine PT.pick 2 rfl ?_
        refine PT.close2 ({ z with n := wtF W z.n }) p (hR3) ?_
        have hsm : SameT T (T.set i { z with n := wtF W z.n }) := SameT.set hi ⟨rfl, rfl, rfl⟩
        rw [← hsm.kp]
        have hrn : weightN N id W = (0, upN (upN N z.n.id (wtF W)) z.n.id (psF (scaleN z.n.pass p.n.now z.n.wt W))) := by
          rw [weightN, if_neg hwf, hg]; simp only [if_neg h0]; rw [← hzn, hgp, ← hpn, hzk]
          refine Prod.ext rfl ?_
          simp only [upN, List.map_map]
          refine List.map_congr_left fun x hx => ?_
          simp only [Function.comp]
          by_cases c : x.id = id
          · have := nd_eq hsk.nd hx hyN.1 (by rw [c, hyN.2]); subst this
            simp [c, hzn, psF, wtF]
          · simp [c]
        refine seqR (by kernel_rfl) ?_
        refine regionR 5 (by kernel_rfl) (by kernel_rfl) ?_
        refine (run0 (z := 2) 3 [6, 62, 63, 64] [(6, .nilIface), (62, .pointer (some ⟨t, 0, none⟩)), (63, .pointer (some ⟨z.b, 0, none⟩)), (64, .int .i64 (scaleN z.n.pass p.n.now z.n.wt W))] (fun _ => by kernel_rfl) ?_ : RT _ _ _ _ _ _ 5 _)
        refine (stepR (z := 1) (callS 22 [.pointer (some ⟨t, 0, none⟩), .pointer (some ⟨z.b, 0, none⟩), .int .i64 (scaleN z.n.pass p.n.now z.n.wt W)] (some 65) (fun (T' : { T' : List Nd // OkT (upN (upN N z.n.id (wtF W)) z.n.id (psF (scaleN z.n.pass p.n.now z.n.wt W))) T' ∧ SameT (T.set i { z with n := wtF W z.n }) T' ∧ SK (upN (upN N z.n.id (wtF W)) z.n.id (psF (scaleN z.n.pass p.n.now z.n.wt W))) ∧ LB (upN (upN N z.n.id (wtF W)) z.n.id (psF (scaleN z.n.pass p.n.now z.n.wt W))) }) => .nilIface) (fun (T' : { T' : List Nd // OkT (upN (upN N z.n.id (wtF W)) z.n.id (psF (scaleN z.n.pass p.n.now z.n.wt W))) T' ∧ SameT (T.set i { z with n := wtF W z.n }) T' ∧ SK (upN (upN N z.n.id (wtF W)) z.n.id (psF (scaleN z.n.pass p.n.now z.n.wt W))) ∧ LB (upN (upN N z.n.id (wtF W)) z.n.id (psF (scaleN z.n.pass p.n.now z.n.wt W))) }) => blk t 57 [.map (some mb)] :: mapS mb (T'.1.map kp) :: (nodesL T'.1 ++ H)) (fun _ => by kernel_rfl) (sets_walk hN1 hs1 hl1 hi1 hg1 (P := scaleN z.n.pass p.n.now z.n.wt W) ⟨hsc.1, by omega⟩ H t mb)) (fun (T' : { T' : List Nd // OkT (upN (upN N z.n.id (wtF W)) z.n.id (psF (scaleN z.n.pass p.n.now z.n.wt W))) T' ∧ SameT (T.set i { z with n := wtF W z.n }) T' ∧ SK (upN (upN N z.n.id (wtF W)) z.n.id (psF (scaleN z.n.pass p.n.now z.n.wt W))) ∧ LB (upN (upN N z.n.id (wtF W)) z.n.id (psF (scaleN z.n.pass p.n.now z.n.wt W))) }) => ?_) : RT _ _ _ _ _ _ 2 _)
        refine (run0 (z := 0) 1 [6] [(6, .nilIface)] (fun _ => by kernel_rfl) (endR ?_) : RT _ _ _ _ _ _ 1 _)
        refine retR (by kernel_rfl) ?_
        refine done0 (.nilIface) (fun _ => by kernel_rfl) (fun w hs => ?_) .ret (.inr rfl)
        exact ⟨⟨T'.1, by rw [hrn]; exact T'.2.1, hsm.trans T'.2.2.1⟩, by show _ = Ending.returned (pqErr (weightN N id W).1); rw [hrn]; rfl, hs⟩
end Go.Proofs.YtjbjngikaiggdaaGreat
