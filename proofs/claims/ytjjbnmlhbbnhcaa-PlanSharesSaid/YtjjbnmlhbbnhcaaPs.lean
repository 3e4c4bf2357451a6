/- PlanShares: its walk. Conditions: none. -/
import Derived.Test.YtjjbnmlhbbnhcaaRfx
import Derived.Test.YtjjbnmlhbbnhcaaPp
set_option linter.unusedVariables false
set_option linter.unusedSimpArgs false
namespace Go.Proofs.Ytjjbnmlhbbnhcaa
open Go.RowKit G
def cl (l : List Int) (u : Nat) : List Int := (List.range u).map fun d : Nat => ((countOf l (d : Int) : Nat) : Int)
theorem cl_succ (l : List Int) (u : Nat) : cl l u ++ [((countOf l (u : Int) : Nat) : Int)] = cl l (u + 1) := by simp [cl, List.range_succ]
theorem cl_len (l : List Int) (u : Nat) : (cl l u).length = u := by simp [cl]
theorem cl_eq {c : ConfV} (hs : SmallC c) (he : confErr c = 0) {m : Nat} {p : SV Int} (hp : c.plans.l[m]? = some p) : cl (ownersOf c (m : Int)) c.domains.l.length = countsOf c.frame p.l := by
  have hg := good_of hs he
  obtain ⟨hl, hsh⟩ := hg.plan p (List.mem_of_getElem? hp)
  have hlen := (counts_exact hsh).1
  obtain ⟨_, h2⟩ := owners_good hs he hp
  refine List.ext_getElem? fun d => ?_
  by_cases hd : d < c.domains.l.length
  · rw [h2 d hd, cl, List.getElem?_map, List.getElem?_range hd]; rfl
  · rw [List.getElem?_eq_none_iff.2 (by rw [cl_len]; omega), List.getElem?_eq_none_iff.2 (by omega)]
set_option maxHeartbeats 1000000 in
set_option maxRecDepth 100000 in
theorem shares2_walk (H : List SP) (c : ConfV) (i : Int) (hk : KC H c) (hi : 0 ≤ i ∧ i < 256) : ∀ w, Sat w H → Calls Try.prog 4 #[.agg #[.int .i64 c.frame, .int .i64 c.epoch, .slice c.plans.a c.plans.l.length c.plans.c, .slice c.domains.a c.domains.l.length c.domains.c], .int .u8 i] w (Ret (ι := Unit) (fun _ => .bool true) fun _ => H) := by
  refine enterG (fn := Try.f4) 56 [.agg #[.int .i64 c.frame, .int .i64 c.epoch, .slice c.plans.a c.plans.l.length c.plans.c, .slice c.domains.a c.domains.l.length c.domains.c], .int .u8 i] Try.func4 (by kernel_rfl) (by kernel_rfl) (by kernel_rfl) ?_
  refine seqR (by kernel_rfl) ?_
  refine regionR 2 (by kernel_rfl) (by kernel_rfl) ?_
  refine (stepR (z := 1) (newS 25 [.int .i64 c.frame, .int .i64 c.epoch, .slice c.plans.a c.plans.l.length c.plans.c, .slice c.domains.a c.domains.l.length c.domains.c] (some 2) (fun b => .pointer (some ⟨b, 0, none⟩)) (fun _ _ => by kernel_rfl)) (fun b1 => ?_) : RT _ _ _ _ _ _ 2 _)
  refine (run0 (z := 0) 1 [2, 1, 4] [(2, .pointer (some ⟨b1, 0, none⟩)), (1, .int .u8 i), (4, .bool false)] (fun _ => by kernel_rfl) (endR ?_) : RT _ _ _ _ _ _ 1 _)
  refine seqR (by kernel_rfl) ?_
  refine seqR (by kernel_rfl) ?_
  refine regionR 2 (by kernel_rfl) (by kernel_rfl) ?_
  refine (stepR (z := 1) (callS 7 [] (some 9) (fun _ => .bool true) (fun (_ : Unit) => (blk b1 25 [.int .i64 c.frame, .int .i64 c.epoch, .slice c.plans.a c.plans.l.length c.plans.c, .slice c.domains.a c.domains.l.length c.domains.c] :: H)) (fun _ => by kernel_rfl) (known_true _)) (fun _ => ?_) : RT _ _ _ _ _ _ 2 _)
  refine (run0 (z := 0) 1 [2, 1, 4, 10] [(2, .pointer (some ⟨b1, 0, none⟩)), (1, .int .u8 i), (4, .bool false), (10, .bool false)] (fun _ => by kernel_rfl) (endR ?_) : RT _ _ _ _ _ _ 1 _)
  refine condR (b := false) (by kernel_rfl) (fun _ => by kernel_rfl) (fun h => by cases h) (fun _ => ?_)
  refine skipR (by kernel_rfl) ?_
  refine seqR (by kernel_rfl) ?_
  refine seqR (by kernel_rfl) ?_
  refine regionR 7 (by kernel_rfl) (by kernel_rfl) ?_
  refine (runR (H := (blk b1 25 [.int .i64 c.frame, .int .i64 c.epoch, .slice c.plans.a c.plans.l.length c.plans.c, .slice c.domains.a c.domains.l.length c.domains.c] :: H)) (z := 6) 1 [2, 1, 4, 11] [(2, .pointer (some ⟨b1, 0, none⟩)), (1, .int .u8 i), (4, .bool false), (11, .agg #[.int .i64 c.frame, .int .i64 c.epoch, .slice c.plans.a c.plans.l.length c.plans.c, .slice c.domains.a c.domains.l.length c.domains.c])] [(⟨b1, 0, none⟩, .int .i64 c.frame), (⟨b1, 1, none⟩, .int .i64 c.epoch), (⟨b1, 2, none⟩, .slice c.plans.a c.plans.l.length c.plans.c), (⟨b1, 3, none⟩, .slice c.domains.a c.domains.l.length c.domains.c)] (hasC (blkAt (T := 25) (cs := [.int .i64 c.frame, .int .i64 c.epoch, .slice c.plans.a c.plans.l.length c.plans.c, .slice c.domains.a c.domains.l.length c.domains.c]) 0 rfl rfl) (hasC (blkAt (T := 25) (cs := [.int .i64 c.frame, .int .i64 c.epoch, .slice c.plans.a c.plans.l.length c.plans.c, .slice c.domains.a c.domains.l.length c.domains.c]) 0 rfl rfl) (hasC (blkAt (T := 25) (cs := [.int .i64 c.frame, .int .i64 c.epoch, .slice c.plans.a c.plans.l.length c.plans.c, .slice c.domains.a c.domains.l.length c.domains.c]) 0 rfl rfl) (hasC (blkAt (T := 25) (cs := [.int .i64 c.frame, .int .i64 c.epoch, .slice c.plans.a c.plans.l.length c.plans.c, .slice c.domains.a c.domains.l.length c.domains.c]) 0 rfl rfl) has0)))) (fun _ => by kernel_rfl) ?_ : RT _ _ _ _ _ _ 7 _)
  refine (stepR (z := 5) (callS 8 [.agg #[.int .i64 c.frame, .int .i64 c.epoch, .slice c.plans.a c.plans.l.length c.plans.c, .slice c.domains.a c.domains.l.length c.domains.c]] (some 12) (fun (p : {b : Bool // b = false → SmallC c}) => .bool p.1) (fun (p : {b : Bool // b = false → SmallC c}) => (blk b1 25 [.int .i64 c.frame, .int .i64 c.epoch, .slice c.plans.a c.plans.l.length c.plans.c, .slice c.domains.a c.domains.l.length c.domains.c] :: H)) (fun _ => by kernel_rfl) (wide_walk _ c hk.up)) (fun (p : {b : Bool // b = false → SmallC c}) => ?_) : RT _ _ _ _ _ _ 6 _)
  obtain ⟨b, hb⟩ := p
  dsimp only
  refine (run0 (z := 4) 1 [2, 1, 4, 13] [(2, .pointer (some ⟨b1, 0, none⟩)), (1, .int .u8 i), (4, .bool false), (13, .bool b)] (fun _ => by kernel_rfl) ?_ : RT _ _ _ _ _ _ 5 _)
  cases hbb : (b) with
  | true =>
    refine (run0 (z := 0) 4 [2, 1, 4, 17] [(2, .pointer (some ⟨b1, 0, none⟩)), (1, .int .u8 i), (4, .bool false), (17, .bool true)] (fun _ => by kernel_rfl) (endR ?_) : RT _ _ _ _ _ _ 4 _)
    refine condR (b := true) (by kernel_rfl) (fun _ => by kernel_rfl) (fun _ => ?_) (fun h => by cases h)
    refine seqR (by kernel_rfl) ?_
    refine regionR 1 (by kernel_rfl) (by kernel_rfl) ?_
    refine (run0 (z := 0) 1 [2, 1, 4] [(2, .pointer (some ⟨b1, 0, none⟩)), (1, .int .u8 i), (4, .bool true)] (fun _ => by kernel_rfl) (endR ?_) : RT _ _ _ _ _ _ 1 _)
    refine retR (by kernel_rfl) ?_
    refine thenV ?_
    refine done0 (.bool true) (fun _ => by kernel_rfl) (fun w hs => ?_) .ret (.inr rfl)
    exact ⟨(), rfl, hs.tail⟩
  | false =>
    have hsm := hb hbb
    refine (runR (H := (blk b1 25 [.int .i64 c.frame, .int .i64 c.epoch, .slice c.plans.a c.plans.l.length c.plans.c, .slice c.domains.a c.domains.l.length c.domains.c] :: H)) (z := 3) 1 [2, 1, 4, 13, 14] [(2, .pointer (some ⟨b1, 0, none⟩)), (1, .int .u8 i), (4, .bool false), (13, .bool false), (14, .agg #[.int .i64 c.frame, .int .i64 c.epoch, .slice c.plans.a c.plans.l.length c.plans.c, .slice c.domains.a c.domains.l.length c.domains.c])] [(⟨b1, 0, none⟩, .int .i64 c.frame), (⟨b1, 1, none⟩, .int .i64 c.epoch), (⟨b1, 2, none⟩, .slice c.plans.a c.plans.l.length c.plans.c), (⟨b1, 3, none⟩, .slice c.domains.a c.domains.l.length c.domains.c)] (hasC (blkAt (T := 25) (cs := [.int .i64 c.frame, .int .i64 c.epoch, .slice c.plans.a c.plans.l.length c.plans.c, .slice c.domains.a c.domains.l.length c.domains.c]) 0 rfl rfl) (hasC (blkAt (T := 25) (cs := [.int .i64 c.frame, .int .i64 c.epoch, .slice c.plans.a c.plans.l.length c.plans.c, .slice c.domains.a c.domains.l.length c.domains.c]) 0 rfl rfl) (hasC (blkAt (T := 25) (cs := [.int .i64 c.frame, .int .i64 c.epoch, .slice c.plans.a c.plans.l.length c.plans.c, .slice c.domains.a c.domains.l.length c.domains.c]) 0 rfl rfl) (hasC (blkAt (T := 25) (cs := [.int .i64 c.frame, .int .i64 c.epoch, .slice c.plans.a c.plans.l.length c.plans.c, .slice c.domains.a c.domains.l.length c.domains.c]) 0 rfl rfl) has0)))) (fun _ => by kernel_rfl) ?_ : RT _ _ _ _ _ _ 4 _)
    refine (stepR (z := 2) (callS 18 [.agg #[.int .i64 c.frame, .int .i64 c.epoch, .slice c.plans.a c.plans.l.length c.plans.c, .slice c.domains.a c.domains.l.length c.domains.c]] (some 15) (fun _ => .int .i64 (confErr c)) (fun _ => (blk b1 25 [.int .i64 c.frame, .int .i64 c.epoch, .slice c.plans.a c.plans.l.length c.plans.c, .slice c.domains.a c.domains.l.length c.domains.c] :: H)) (fun _ => by kernel_rfl) (risConf_c _ c hk.up hsm)) (fun _ => ?_) : RT _ _ _ _ _ _ 3 _)
    refine (run0 (z := 0) 2 [2, 1, 4, 17] [(2, .pointer (some ⟨b1, 0, none⟩)), (1, .int .u8 i), (4, .bool false), (17, .bool ((confErr c) != 0))] (fun _ => by kernel_rfl) (endR ?_) : RT _ _ _ _ _ _ 2 _)
    refine condR (b := (confErr c) != 0) (by kernel_rfl) (fun _ => by kernel_rfl) (fun h2 => ?_) (fun h2 => ?_)
    · skip
      refine seqR (by kernel_rfl) ?_
      refine regionR 1 (by kernel_rfl) (by kernel_rfl) ?_
      refine (run0 (z := 0) 1 [2, 1, 4] [(2, .pointer (some ⟨b1, 0, none⟩)), (1, .int .u8 i), (4, .bool true)] (fun _ => by kernel_rfl) (endR ?_) : RT _ _ _ _ _ _ 1 _)
      refine retR (by kernel_rfl) ?_
      refine thenV ?_
      refine done0 (.bool true) (fun _ => by kernel_rfl) (fun w hs => ?_) .ret (.inr rfl)
      exact ⟨(), rfl, hs.tail⟩
    · skip
      have he : confErr c = 0 := by simpa using h2
      have hg := good_of hsm he
      have hw : IntKind.i64.wrap i = i := by rw [IntKind.wrap_i64]; omega
      have hpn := hg.plans
      refine skipR (by kernel_rfl) ?_
      refine seqR (by kernel_rfl) ?_
      refine regionR 7 (by kernel_rfl) (by kernel_rfl) ?_
      refine (runR (H := (blk b1 25 [.int .i64 c.frame, .int .i64 c.epoch, .slice c.plans.a c.plans.l.length c.plans.c, .slice c.domains.a c.domains.l.length c.domains.c] :: H)) (z := 2) 5 [2, 4, 19, 22] [(2, .pointer (some ⟨b1, 0, none⟩)), (4, .bool false), (19, .int .i64 (IntKind.i64.wrap i)), (22, .int .i64 (c.plans.l.length : Int))] [(⟨b1, 2, none⟩, .slice c.plans.a c.plans.l.length c.plans.c)] (hasC (blkAt (T := 25) (cs := [.int .i64 c.frame, .int .i64 c.epoch, .slice c.plans.a c.plans.l.length c.plans.c, .slice c.domains.a c.domains.l.length c.domains.c]) 0 rfl rfl) has0) (fun _ => by kernel_rfl) ?_ : RT _ _ _ _ _ _ 7 _)
      rw [hw]
      refine (stepR (z := 1) (yldS (binY .rem 3 3 (.tmp 19) (.tmp 22) (.int .i64 i) (.int .i64 (c.plans.l.length : Int)) (.int .i64 ((i : Int).tmod (c.plans.l.length : Int))) (some 23) (fun _ => by kernel_rfl) (by kernel_rfl) (by kernel_rfl) (fun _ => by kernel_rfl) (fun _ => by kernel_rfl) (remR (t' := 0) (by omega)))) (fun _ => ?_) : RT _ _ _ _ _ _ 2 _)
      have htb := tdiv_bounds hi.1 (show 0 < (c.plans.l.length : Int) by omega)
      obtain ⟨m, hm⟩ : ∃ m : Nat, i.tmod (c.plans.l.length : Int) = (m : Int) := ⟨(i.tmod (c.plans.l.length : Int)).toNat, by omega⟩
      have hmn : m < c.plans.l.length := by omega
      rw [hm]
      obtain ⟨p, hp⟩ : ∃ p, c.plans.l[m]? = some p := ⟨_, by simp [hmn]; rfl⟩
      have hpm : p ∈ c.plans.l := List.mem_of_getElem? hp
      obtain ⟨hpl, hsh⟩ := hg.plan p hpm
      obtain ⟨hol, _⟩ := owners_good hsm he hp
      obtain ⟨e1, e2, e3, e4, e5⟩ := counts_exact hsh
      have hdm := hg.doms
      refine (run0 (z := 0) 1 [2, 4, 5] [(2, .pointer (some ⟨b1, 0, none⟩)), (4, .bool false), (5, .int .i64 (m : Int))] (fun _ => by kernel_rfl) (endR ?_) : RT _ _ _ _ _ _ 1 _)
      refine seqR (by kernel_rfl) ?_
      refine regionR 4 (by kernel_rfl) (by kernel_rfl) ?_
      refine (runR (H := (blk b1 25 [.int .i64 c.frame, .int .i64 c.epoch, .slice c.plans.a c.plans.l.length c.plans.c, .slice c.domains.a c.domains.l.length c.domains.c] :: H)) (z := 2) 2 [2, 4, 5, 24, 25] [(2, .pointer (some ⟨b1, 0, none⟩)), (4, .bool false), (5, .int .i64 (m : Int)), (24, .agg #[.int .i64 c.frame, .int .i64 c.epoch, .slice c.plans.a c.plans.l.length c.plans.c, .slice c.domains.a c.domains.l.length c.domains.c]), (25, .int .i64 (m : Int))] [(⟨b1, 0, none⟩, .int .i64 c.frame), (⟨b1, 1, none⟩, .int .i64 c.epoch), (⟨b1, 2, none⟩, .slice c.plans.a c.plans.l.length c.plans.c), (⟨b1, 3, none⟩, .slice c.domains.a c.domains.l.length c.domains.c)] (hasC (blkAt (T := 25) (cs := [.int .i64 c.frame, .int .i64 c.epoch, .slice c.plans.a c.plans.l.length c.plans.c, .slice c.domains.a c.domains.l.length c.domains.c]) 0 rfl rfl) (hasC (blkAt (T := 25) (cs := [.int .i64 c.frame, .int .i64 c.epoch, .slice c.plans.a c.plans.l.length c.plans.c, .slice c.domains.a c.domains.l.length c.domains.c]) 0 rfl rfl) (hasC (blkAt (T := 25) (cs := [.int .i64 c.frame, .int .i64 c.epoch, .slice c.plans.a c.plans.l.length c.plans.c, .slice c.domains.a c.domains.l.length c.domains.c]) 0 rfl rfl) (hasC (blkAt (T := 25) (cs := [.int .i64 c.frame, .int .i64 c.epoch, .slice c.plans.a c.plans.l.length c.plans.c, .slice c.domains.a c.domains.l.length c.domains.c]) 0 rfl rfl) has0)))) (fun _ => by kernel_rfl) ?_ : RT _ _ _ _ _ _ 4 _)
      refine (stepR (z := 1) (callS 10 [.agg #[.int .i64 c.frame, .int .i64 c.epoch, .slice c.plans.a c.plans.l.length c.plans.c, .slice c.domains.a c.domains.l.length c.domains.c], .int .i64 (m : Int)] (some 26) (fun (r : Option Addr × Nat) => .slice r.1 (ownersOf c (m : Int)).length r.2) (fun (r : Option Addr × Nat) => (row (kE .i64) 3 (.slice r.1 (ownersOf c (m : Int)).length r.2) (ownersOf c (m : Int)) :: blk b1 25 [.int .i64 c.frame, .int .i64 c.epoch, .slice c.plans.a c.plans.l.length c.plans.c, .slice c.domains.a c.domains.l.length c.domains.c] :: H)) (fun _ => by kernel_rfl) (owners_walk _ c (m : Int) hk.up hsm)) (fun (r : Option Addr × Nat) => ?_) : RT _ _ _ _ _ _ 2 _)
      have hcl := cl_eq hsm he hp
      obtain ⟨ol, hol2⟩ : ∃ ol, ol = ownersOf c (m : Int) := ⟨_, rfl⟩
      rw [← hol2] at hol hcl ⊢
      refine PT.know (KR.le (s := ⟨r.1, r.2, ol⟩) rowKR) ?_
      rintro ⟨hcap, hcapm⟩
      dsimp only at hcap hcapm
      have hfr := hg.frame
      refine (run0 (z := 0) 1 [2, 4, 5, 6] [(2, .pointer (some ⟨b1, 0, none⟩)), (4, .bool false), (5, .int .i64 (m : Int)), (6, .slice r.1 ol.length r.2)] (fun _ => by kernel_rfl) (endR ?_) : RT _ _ _ _ _ _ 1 _)
      refine seqR (by kernel_rfl) ?_
      refine regionR 1 (by kernel_rfl) (by kernel_rfl) ?_
      refine (run0 (z := 0) 1 [2, 4, 5, 6, 7] [(2, .pointer (some ⟨b1, 0, none⟩)), (4, .bool false), (5, .int .i64 (m : Int)), (6, .slice r.1 ol.length r.2), (7, .slice none 0 0)] (fun _ => by kernel_rfl) (endR ?_) : RT _ _ _ _ _ _ 1 _)
      refine seqR (by kernel_rfl) ?_
      refine seqR (by kernel_rfl) ?_
      refine regionR 1 (by kernel_rfl) (by kernel_rfl) ?_
      refine (run0 (z := 0) 1 [2, 4, 5, 6, 7, 8] [(2, .pointer (some ⟨b1, 0, none⟩)), (4, .bool false), (5, .int .i64 (m : Int)), (6, .slice r.1 ol.length r.2), (7, .slice none 0 0), (8, .int .i64 0)] (fun _ => by kernel_rfl) (endR ?_) : RT _ _ _ _ _ _ 1 _)
      refine blockR 0 (by kernel_rfl) (by kernel_rfl) ?_
      refine PT.rowNil (kE .i64) 3 ?_
      refine PT.keep (L' := [(2, .pointer (some ⟨b1, 0, none⟩)), (4, .bool false), (5, .int .i64 (m : Int)), (6, .slice r.1 ol.length r.2), (7, .slice none 0 0), (8, .int .i64 0)]) [2, 4, 5, 6, 7, 8] rfl ?_
      refine loopG (fun (x : (Option Addr × Nat) × Nat) => [(2, .pointer (some ⟨b1, 0, none⟩)), (4, .bool false), (5, .int .i64 (m : Int)), (6, .slice r.1 ol.length r.2), (7, .slice x.1.1 ((cl ol x.2).length) x.1.2), (8, .int .i64 (x.2 : Int))]) (fun (x : (Option Addr × Nat) × Nat) => (row (kE .i64) 3 (.slice x.1.1 (cl ol x.2).length x.1.2) (cl ol x.2) :: row (kE .i64) 3 (.slice r.1 ol.length r.2) ol :: blk b1 25 [.int .i64 c.frame, .int .i64 c.epoch, .slice c.plans.a c.plans.l.length c.plans.c, .slice c.domains.a c.domains.l.length c.domains.c] :: H)) (fun k (x : (Option Addr × Nat) × Nat) => k + x.2 = c.domains.l.length) c.domains.l.length ((none, 0), 0) (by kernel_rfl) (by simp) ?_
      rintro k ⟨⟨A, cap⟩, u⟩ hku
      dsimp only at hku ⊢
      have hw3 : IntKind.i64.wrap ((u : Int) + 1) = ((u + 1 : Nat) : Int) := by rw [IntKind.wrap_i64]; omega
      refine seqR (by kernel_rfl) ?_
      refine seqR (by kernel_rfl) ?_
      refine regionR 5 (by kernel_rfl) (by kernel_rfl) ?_
      refine (runR (H := (row (kE .i64) 3 (.slice A (cl ol u).length cap) (cl ol u) :: row (kE .i64) 3 (.slice r.1 ol.length r.2) ol :: blk b1 25 [.int .i64 c.frame, .int .i64 c.epoch, .slice c.plans.a c.plans.l.length c.plans.c, .slice c.domains.a c.domains.l.length c.domains.c] :: H)) (z := 0) 5 [2, 4, 5, 6, 7, 8, 31] [(2, .pointer (some ⟨b1, 0, none⟩)), (4, .bool false), (5, .int .i64 (m : Int)), (6, .slice r.1 ol.length r.2), (7, .slice A ((cl ol u).length) cap), (8, .int .i64 (u : Int)), (31, .bool (decide ((u : Int) < (c.domains.l.length : Int))))] [(⟨b1, 3, none⟩, .slice c.domains.a c.domains.l.length c.domains.c)] (hasC (blkAt (T := 25) (cs := [.int .i64 c.frame, .int .i64 c.epoch, .slice c.plans.a c.plans.l.length c.plans.c, .slice c.domains.a c.domains.l.length c.domains.c]) 2 rfl rfl) has0) (fun _ => by kernel_rfl) (endR ?_) : RT _ _ _ _ _ _ 5 _)
      refine condR (b := decide ((u : Int) < (c.domains.l.length : Int))) (by kernel_rfl) (fun _ => by kernel_rfl) (fun h3 => ?_) (fun h3 => ?_)
      · skip
        have hu : u < c.domains.l.length := by have := of_decide_eq_true h3; omega
        refine skipR (by kernel_rfl) ?_
        refine seqR (by kernel_rfl) ?_
        refine blockR 1 (by kernel_rfl) (by kernel_rfl) ?_
        refine regionR 7 (by kernel_rfl) (by kernel_rfl) ?_
        refine (run0 (z := 4) 3 [2, 4, 5, 6, 7, 8, 34, 35, 36] [(2, .pointer (some ⟨b1, 0, none⟩)), (4, .bool false), (5, .int .i64 (m : Int)), (6, .slice r.1 ol.length r.2), (7, .slice A ((cl ol u).length) cap), (8, .int .i64 (u : Int)), (34, .slice A ((cl ol u).length) cap), (35, .slice r.1 ol.length r.2), (36, .int .i64 (u : Int))] (fun _ => by kernel_rfl) ?_ : RT _ _ _ _ _ _ 7 _)
        refine (stepR (z := 3) (callS 12 [.slice r.1 ol.length r.2, .int .i64 (u : Int)] (some 37) (fun _ => .int .i64 (countOf ol (u : Int) : Nat)) (fun _ => (row (kE .i64) 3 (.slice A (cl ol u).length cap) (cl ol u) :: row (kE .i64) 3 (.slice r.1 ol.length r.2) ol :: blk b1 25 [.int .i64 c.frame, .int .i64 c.epoch, .slice c.plans.a c.plans.l.length c.plans.c, .slice c.domains.a c.domains.l.length c.domains.c] :: H)) (fun _ => by kernel_rfl) (countG_walk (row (kE .i64) 3 (.slice A (cl ol u).length cap) (cl ol u) :: row (kE .i64) 3 (.slice r.1 ol.length r.2) ol :: blk b1 25 [.int .i64 c.frame, .int .i64 c.epoch, .slice c.plans.a c.plans.l.length c.plans.c, .slice c.domains.a c.domains.l.length c.domains.c] :: H) r.1 r.2 ol (u : Int) (KR.knI (rowKRat (A := r.1) (k := r.2) (xs := ol) 1 rfl)) hcap (by omega))) (fun _ => ?_) : RT _ _ _ _ _ _ 4 _)
        refine (stepR (z := 2) (newS 3 [.int .i64 (countOf ol (u : Int) : Nat)] (some 38) (fun b => .slice (some ⟨b, 0, none⟩) 1 1) (fun _ _ => by kernel_rfl)) (fun b2 => ?_) : RT _ _ _ _ _ _ 3 _)
        refine RT.pick 1 rfl ?_
        refine (stepR (z := 1) (appS (E := (kE .i64)) 26 (.tmp 34) (.tmp 38) A cap (cl ol u) [((countOf ol (u : Int) : Nat) : Int)] (.slice (some ⟨b2, 0, none⟩) 1 1) (some 39) (fun _ => by kernel_rfl) (by kernel_rfl) (by kernel_rfl) (fun _ => by kernel_rfl) (fun _ => by kernel_rfl) Try.underlying26 (kE_ety) (blkRd 1 rfl) (by rw [cl_len]; simp only [List.length_cons, List.length_nil]; omega)) (fun r3 => ?_) : RT _ _ _ (row (kE .i64) 3 (.slice A (cl ol u).length cap) (cl ol u) :: blk b2 3 [.int .i64 (countOf ol (u : Int) : Nat)] :: row (kE .i64) 3 (.slice r.1 ol.length r.2) ol :: blk b1 25 [.int .i64 c.frame, .int .i64 c.epoch, .slice c.plans.a c.plans.l.length c.plans.c, .slice c.domains.a c.domains.l.length c.domains.c] :: H) _ _ 2 _)
        refine (run0 (z := 0) 1 [2, 4, 5, 6, 7, 8] [(2, .pointer (some ⟨b1, 0, none⟩)), (4, .bool false), (5, .int .i64 (m : Int)), (6, .slice r.1 ol.length r.2), (7, .slice r3.1 (((cl ol u) ++ [((countOf ol (u : Int) : Nat) : Int)]).length) r3.2), (8, .int .i64 (u : Int))] (fun _ => by kernel_rfl) (endR ?_) : RT _ _ _ _ _ _ 1 _)
        refine regionR 3 (by kernel_rfl) (by kernel_rfl) ?_
        refine (run0 (z := 0) 3 [2, 4, 5, 6, 7, 8] [(2, .pointer (some ⟨b1, 0, none⟩)), (4, .bool false), (5, .int .i64 (m : Int)), (6, .slice r.1 ol.length r.2), (7, .slice r3.1 (((cl ol u) ++ [((countOf ol (u : Int) : Nat) : Int)]).length) r3.2), (8, .int .i64 (IntKind.i64.wrap ((u : Int) + 1)))] (fun _ => by kernel_rfl) (endR ?_) : RT _ _ _ _ _ _ 3 _)
        rw [cl_succ, hw3]
        refine PT.pick 1 rfl ?_
        refine PT.drop ?_
        refine PT.keep (L' := [(2, .pointer (some ⟨b1, 0, none⟩)), (4, .bool false), (5, .int .i64 (m : Int)), (6, .slice r.1 ol.length r.2), (7, .slice r3.1 ((cl ol (u + 1)).length) r3.2), (8, .int .i64 ((u + 1 : Nat) : Int))]) [2, 4, 5, 6, 7, 8] rfl ?_
        exact againG (k - 1) (r3, u + 1) rfl rfl (by omega) (by simp only; omega)
      · skip
        have hu : u = c.domains.l.length := by have := of_decide_eq_false h3; omega
        rw [hu, hcl]
        refine exitR 0 (by kernel_rfl) (by kernel_rfl) ?_
        refine thenX ?_
        refine thenX ?_
        refine leaveR ?_
        refine seqR (by kernel_rfl) ?_
        refine drawR (fun w => Sat w (row (kE .i64) 3 (.slice A ((countsOf c.frame p.l)).length cap) ((countsOf c.frame p.l)) :: row (kE .i64) 3 (.slice r.1 ol.length r.2) ol :: blk b1 25 [.int .i64 c.frame, .int .i64 c.epoch, .slice c.plans.a c.plans.l.length c.plans.c, .slice c.domains.a c.domains.l.length c.domains.c] :: H)) [] 17 (by kernel_rfl) (by kernel_rfl) (by kernel_rfl) (fun _ h => by first | exact h | exact h.tail | exact h.tail.tail | exact h.tail.tail.tail | exact h.tail.tail.tail.tail) ?_
        refine takesR [0, 1, 2, 3, 4, 5] [2, 4, 5, 7, 45] 11 [true, true, true, true, true, true, false, false, false, false, false, false, false, false, false, false, false] [(2, .pointer (some ⟨b1, 0, none⟩)), (4, .bool false), (5, .int .i64 (m : Int)), (7, .slice A (((countsOf c.frame p.l)).length) cap), (45, .bool ((ol.length : Int) == c.frame))] [(⟨b1, 0, none⟩, .int .i64 c.frame)] rfl (fun _ d _ _ _ h => by cases d <;> exact h) (fun _ h => by first | exact h | exact h.tail | exact h.tail.tail | exact h.tail.tail.tail | exact h.tail.tail.tail.tail) (hasC (blkAt (T := 25) (cs := [.int .i64 c.frame, .int .i64 c.epoch, .slice c.plans.a c.plans.l.length c.plans.c, .slice c.domains.a c.domains.l.length c.domains.c]) 2 rfl rfl) has0) (fun _ => by kernel_rfl) ?_
        rw [show ((ol.length : Int) == c.frame) = true by rw [hol]; simp]
        refine PT.know ((hk.plans).up.up.up.isSome (List.ne_nil_of_length_pos (by omega))) ?_
        rintro ⟨sb, so, hA⟩
        try rw [hA]
        refine takesR [6, 7, 8, 9, 10, 13] [4, 45, 47, 49, 50, 53] 5 [true, true, true, true, true, true, true, true, true, true, true, false, false, true, false, false, false] [(4, .bool false), (45, .bool true), (47, .int .i64 c.frame), (49, .slice (some ⟨sb, so, none⟩) c.plans.l.length c.plans.c), (50, .int .i64 (m : Int)), (53, .slice A (((countsOf c.frame p.l)).length) cap)] [(⟨b1, 0, none⟩, .int .i64 c.frame), (⟨b1, 2, none⟩, .slice (some ⟨sb, so, none⟩) c.plans.l.length c.plans.c)] rfl (fun _ d _ _ _ h => by cases d <;> exact h) (fun _ h => by first | exact h | exact h.tail | exact h.tail.tail | exact h.tail.tail.tail | exact h.tail.tail.tail.tail) (hasC (blkAt (T := 25) (cs := [.int .i64 c.frame, .int .i64 c.epoch, .slice (some ⟨sb, so, none⟩) c.plans.l.length c.plans.c, .slice c.domains.a c.domains.l.length c.domains.c]) 2 rfl rfl) (hasC (blkAt (T := 25) (cs := [.int .i64 c.frame, .int .i64 c.epoch, .slice (some ⟨sb, so, none⟩) c.plans.l.length c.plans.c, .slice c.domains.a c.domains.l.length c.domains.c]) 2 rfl rfl) has0)) (fun _ => by kernel_rfl) ?_
        refine takeR1 11 4 [true, true, true, true, true, true, true, true, true, true, true, true, false, true, false, false, false] rfl rfl (by kernel_rfl) (fun _ d _ _ _ h => by cases d <;> exact h) (fun _ h => by first | exact h | exact h.tail | exact h.tail.tail | exact h.tail.tail.tail | exact h.tail.tail.tail.tail) (idxY 22 (.tmp 49) (.tmp 50) sb so c.plans.l.length c.plans.c m 1 26 (m : Int) .i64 (some 51) (fun _ => by kernel_rfl) (by kernel_rfl) (by kernel_rfl) (fun _ => by kernel_rfl) (fun _ => by kernel_rfl) Try.underlying22 (by kernel_rfl) (by first | rfl | assumption | simp) (by first | omega | (simp; done) | (simp; omega) | (simp at *; omega))) ?_
        refine takesR [12] [4, 45, 47, 53, 52] 3 [true, true, true, true, true, true, true, true, true, true, true, true, true, true, false, false, false] [(4, .bool false), (45, .bool true), (47, .int .i64 c.frame), (53, .slice A (((countsOf c.frame p.l)).length) cap), (52, .slice p.a p.l.length p.c)] [(⟨sb, so + m * 1, none⟩, .slice p.a p.l.length p.c)] rfl (fun _ d _ _ _ h => by cases d <;> exact h) (fun _ h => by first | exact h | exact h.tail | exact h.tail.tail | exact h.tail.tail.tail | exact h.tail.tail.tail.tail) (hasC (up (up (up (hk.plans.cell hA (i := m) (x := p) hp (j := 0) rfl)))) has0) (fun _ => by kernel_rfl) ?_
        try rw [← hA]
        refine oneR 14 2 [true, true, true, true, true, true, true, true, true, true, true, true, true, true, true, false, false] rfl rfl (by kernel_rfl) (callS 19 [.int .i64 c.frame, .slice p.a p.l.length p.c, .slice A (((countsOf c.frame p.l)).length) cap] (some 54) (fun _ => .bool true) (fun _ => (row (kE .i64) 3 (.slice A ((countsOf c.frame p.l)).length cap) ((countsOf c.frame p.l)) :: row (kE .i64) 3 (.slice r.1 ol.length r.2) ol :: blk b1 25 [.int .i64 c.frame, .int .i64 c.epoch, .slice c.plans.a c.plans.l.length c.plans.c, .slice c.domains.a c.domains.l.length c.domains.c] :: H)) (fun _ => by kernel_rfl) (exact_walk (row (kE .i64) 3 (.slice A ((countsOf c.frame p.l)).length cap) ((countsOf c.frame p.l)) :: row (kE .i64) 3 (.slice r.1 ol.length r.2) ol :: blk b1 25 [.int .i64 c.frame, .int .i64 c.epoch, .slice c.plans.a c.plans.l.length c.plans.c, .slice c.domains.a c.domains.l.length c.domains.c] :: H) c.frame p ⟨A, cap, countsOf c.frame p.l⟩ ((hk.plan p hpm).up.up.up) rowKR hsh e1 (fun j x y hx hy => ⟨(e3 x (List.mem_of_getElem? hx)).1, (e3 x (List.mem_of_getElem? hx)).2, e5 j x y hx hy⟩) e2)) (fun _ _ h _ => by first | exact h | exact h.tail | exact h.tail.tail | exact h.tail.tail.tail | exact h.tail.tail.tail.tail) (fun _ => ?_)
        refine takesR [15, 16] [4] 0 [true, true, true, true, true, true, true, true, true, true, true, true, true, true, true, true, true] [(4, .bool true)] [] rfl (fun _ d _ _ _ h => by cases d <;> exact h) (fun _ h => by first | exact h | exact h.tail | exact h.tail.tail | exact h.tail.tail.tail | exact h.tail.tail.tail.tail) has0 (fun _ => by kernel_rfl) ?_
        refine drawnR (by kernel_rfl) ?_
        refine retR (by kernel_rfl) ?_
        refine done0 (.bool true) (fun _ => by kernel_rfl) (fun w hs => ?_) .ret (.inr rfl)
        exact ⟨(), rfl, hs.tail.tail.tail⟩
theorem u8_wf {x : Int} (h : (Lit.int .u8 x).wf = true) : 0 ≤ x ∧ x < 256 := by
  have h2 : (decide (IntKind.u8.min ≤ x) && decide (x ≤ IntKind.u8.max)) = true := h
  have h3 : IntKind.u8.min = 0 := rfl
  have h4 : IntKind.u8.max = 255 := rfl
  rw [Bool.and_eq_true, decide_eq_true_eq, decide_eq_true_eq] at h2
  omega
theorem shares_row (W : World) (c : ConfV) (i : Int) (hk : KC [old W] c) (hi : (Lit.int .u8 i).wf = true) : Calls Try.prog 4 #[.agg #[.int .i64 c.frame, .int .i64 c.epoch, .slice c.plans.a c.plans.l.length c.plans.c, .slice c.domains.a c.domains.l.length c.domains.c], .int .u8 i] W (LawPost W) :=
  lawPost (fun _ _ h => h) (shares2_walk [old W] c i hk (u8_wf hi) W (Sat.start W))
end Go.Proofs.Ytjjbnmlhbbnhcaa
