/- Texts put together: A ledger as one part of memory: its operations. A kernel: Wake. A kernel: Threads. A kernel as one part of memory: what its operations make of it. A kernel: Weight. A world as one part of memory: its parts. A world: what it tells of its parts; threads. A world: stat, audit, send, receive, level, plan. A world: audit, send. A world: threads, isKept. A world: does, isKept. errors.As of numbered errors, at a variable of their type: its walk. A world: Act. A world: Epoch, New. Conditions: none. -/
import Derived.Test.YtfhkgohokbkgiaaGreatDoorMgWb4
import Derived.LaidEql
import Derived.Stop.Asserts
import Derived.RowKitTokens
import Derived.LaidHandle
set_option linter.unusedVariables false
set_option linter.unusedSimpArgs false
namespace Go.Proofs.YtfhkgohokbkgiaaGreatDoor
open Go.RowKit G
def accE : Enc Acc := ⟨2, by decide, fun a => [.complex .f64 (floatOfInt .f64 a.own) (floatOfInt .f64 a.got), .complex .f64 (floatOfInt .f64 a.idle) (floatOfInt .f64 a.freed)], fun _ => rfl, by intro a u hu; simp at hu; rcases hu with rfl | rfl <;> rfl⟩
def ldS (b : Nat) (l : List Acc) : SP := exS fun r : Nat => two (pureS (LdOk l 1125899906842624 ∧ 1 ≤ l.length ∧ l.length ≤ 6)) (two (blk b 133 [.slice (some ⟨r, 0, none⟩) l.length l.length]) (row accE 170 (.slice (some ⟨r, 0, none⟩) l.length l.length) l))
theorem Sat.openLd {b : Nat} {l : List Acc} {H : List SP} {w : World} (h : Sat w (ldS b l :: H)) : ∃ r, (LdOk l 1125899906842624 ∧ 1 ≤ l.length ∧ l.length ≤ 6) ∧ Sat w (blk b 133 [.slice (some ⟨r, 0, none⟩) l.length l.length] :: row accE 170 (.slice (some ⟨r, 0, none⟩) l.length l.length) l :: H) := by
 obtain ⟨r, h⟩ := Sat.openEx h
 obtain ⟨h1, h⟩ := Sat.openPure (Sat.openTwo h)
 exact ⟨r, h1, Sat.openTwo h⟩
theorem Sat.closeLd {b r : Nat} {l : List Acc} {H : List SP} {w : World} (h1 : LdOk l 1125899906842624 ∧ 1 ≤ l.length ∧ l.length ≤ 6) (h : Sat w (blk b 133 [.slice (some ⟨r, 0, none⟩) l.length l.length] :: row accE 170 (.slice (some ⟨r, 0, none⟩) l.length l.length) l :: H)) : Sat w (ldS b l :: H) :=
 Sat.closeEx r (Sat.closeTwo (Sat.closePure h1 (Sat.closeTwo h)))
def accZ : Acc := ⟨0, 0, 0, 0⟩
set_option maxRecDepth 100000 in
theorem ldnew_walk (H : List SP) (n : Int) : ∀ w, Sat w H → Calls Tryz.prog 41 #[vi n] w (Ret (ι := Nat) (fun b => vp b) fun b => ldS b (List.replicate (mnI (mxI n 1) 6).toNat ⟨0, 0, 0, 0⟩) :: H) := by
 refine enterG (fn := Tryz.f41) 9 [vi n] Tryz.func41 (by kernel_rfl) (by kernel_rfl) (by kernel_rfl) ?_
 refine Xq (Xg 1 (Xe [(0,vi n), (2,.pointer none)] ?_ 1))
 refine Xq (Xg 7 (Xr [(2,.pointer none), (5,vi (mnI (mxI n 1) 6))] ?_ 4 3))
 have hm : 0 ≤ mnI (mxI n 1) 6 ∧ mnI (mxI n 1) 6 ≤ 6 ∧ 1 ≤ mnI (mxI n 1) 6 := by unfold mnI mxI; repeat' split <;> omega
 obtain ⟨m, hme⟩ : ∃ m : Nat, mnI (mxI n 1) 6 = (m : Int) := ⟨(mnI (mxI n 1) 6).toNat, by omega⟩
 rw [hme] at hm ⊢
 rw [Int.toNat_natCast]
 refine Xs (mkK (E := accE) (T := 170) 131 (.tmp 5) (.tmp 5) m (⟨0, 0, 0, 0⟩ : Acc) (.agg #[.complex .f64 0 0, .complex .f64 0 0]) 32 (some 6) (fun _ => by kernel_rfl) (by kernel_rfl) (by kernel_rfl) (fun _ => by kernel_rfl) (fun _ => by kernel_rfl) Tryz.underlying131 (by kernel_rfl) (by kernel_rfl) rfl (by decide) (by omega)) (fun b1 => ?_) 3
 refine Xr [(2,.pointer none), (7,.agg #[.slice (some ⟨b1, 0, none⟩) m m])] ?_ 2 1
 refine Xs (Xn 133 [.slice (some ⟨b1, 0, none⟩) m m] (some 8) (fun b => vp b)) (fun b2 => ?_) 1
 refine Xe [(2,vp b2)] ?_ 1
 refine Xv (Y0 (vp b2) (fun w hs => ?_))
 exact ⟨b2, rfl, Sat.closeLd (r := b1) (l := List.replicate m ⟨0, 0, 0, 0⟩) ⟨fun a ha => by rw [(List.mem_replicate.1 ha).2]; exact AccIn.zero (by decide) (by decide) (by decide) (by decide), by rw [List.length_replicate]; omega, by rw [List.length_replicate]; omega⟩ (by rw [List.length_replicate]; exact hs)⟩
set_option maxRecDepth 100000 in
theorem ldadd_walk (H : List SP) (b r : Nat) (l : List Acc) (d : Int) (x : Acc) (hl : l.length ≤ 6) (hb : LdOk l 1125899906842625) (hx : AccIn x ⟨1, 1, 1, 1⟩) : ∀ w, Sat w (blk b 133 [.slice (some ⟨r, 0, none⟩) l.length l.length] :: row accE 170 (.slice (some ⟨r, 0, none⟩) l.length l.length) l :: H) → Calls Tryz.prog 53 #[vp b, vi d, .complex .f64 (floatOfInt .f64 x.own) (floatOfInt .f64 x.got), .complex .f64 (floatOfInt .f64 x.idle) (floatOfInt .f64 x.freed)] w (Ret (ι := Unit) (fun _ => .tuple #[]) fun _ => blk b 133 [.slice (some ⟨r, 0, none⟩) (ldAdd l d x).length (ldAdd l d x).length] :: row accE 170 (.slice (some ⟨r, 0, none⟩) (ldAdd l d x).length (ldAdd l d x).length) (ldAdd l d x) :: H) := by
 refine enterG (fn := Tryz.f53) 43 [vp b, vi d, .complex .f64 (floatOfInt .f64 x.own) (floatOfInt .f64 x.got), .complex .f64 (floatOfInt .f64 x.idle) (floatOfInt .f64 x.freed)] Tryz.func53 (by kernel_rfl) (by kernel_rfl) (by kernel_rfl) ?_
 refine Xq (Xg 11 (Xr [(0,vp b), (1,vi d), (2,.complex .f64 (floatOfInt .f64 x.own) (floatOfInt .f64 x.got)), (3,.complex .f64 (floatOfInt .f64 x.idle) (floatOfInt .f64 x.freed)), (10,.bool (decide (d ≥ 0)))] ?_ 8 3))
 refine (Xs0 0 8 [(0,vp b), (1,vi d), (2,.complex .f64 (floatOfInt .f64 x.own) (floatOfInt .f64 x.got)), (3,.complex .f64 (floatOfInt .f64 x.idle) (floatOfInt .f64 x.freed)), (18,.bool ((decide (d ≥ 0)) && (decide (d < (l.length : Int)))))] ?_ ?_ : RT _ _ _ _ _ _ 8 _)
 ·cases hg3 : (decide (d ≥ 0)) with
  | true =>
   refine Xm [(0,vp b), (1,vi d), (2,.complex .f64 (floatOfInt .f64 x.own) (floatOfInt .f64 x.got)), (3,.complex .f64 (floatOfInt .f64 x.idle) (floatOfInt .f64 x.freed)), (18,.bool (decide (d < (l.length : Int))))] [(⟨b, 0, none⟩, .slice (some ⟨r, 0, none⟩) l.length l.length)] (hasC (ba 0) has0) ?_ 8
   refine Xp [(0,vp b), (1,vi d), (2,.complex .f64 (floatOfInt .f64 x.own) (floatOfInt .f64 x.got)), (3,.complex .f64 (floatOfInt .f64 x.idle) (floatOfInt .f64 x.freed)), (18,.bool (true && (decide (d < (l.length : Int)))))] ?_
   exact midR () rfl rfl
  | false =>
   refine Xe [(0,vp b), (1,vi d), (2,.complex .f64 (floatOfInt .f64 x.own) (floatOfInt .f64 x.got)), (3,.complex .f64 (floatOfInt .f64 x.idle) (floatOfInt .f64 x.freed)), (18,.bool false)] ?_ 8
   refine Xp [(0,vp b), (1,vi d), (2,.complex .f64 (floatOfInt .f64 x.own) (floatOfInt .f64 x.got)), (3,.complex .f64 (floatOfInt .f64 x.idle) (floatOfInt .f64 x.freed)), (18,.bool (false && (decide (d < (l.length : Int)))))] ?_
   exact midR () rfl rfl
 refine endR ?_
 cases hd : ((decide (d ≥ 0)) && (decide (d < (l.length : Int)))) with
 | true =>
  have hd1 : ldIs l d = true := by rw [ldIs]; simpa using hd
  obtain ⟨i, rfl⟩ : ∃ i : Nat, d = (i : Int) := ⟨d.toNat, by simp at hd; omega⟩
  have hil : i < l.length := by simp at hd; omega
  obtain ⟨a, ha⟩ : ∃ a, l[i]? = some a := ⟨_, List.getElem?_eq_getElem hil⟩
  have hab := hb a (List.mem_of_getElem? ha)
  have hab' : (0 ≤ a.own ∧ a.own < 2 ^ 52) ∧ (0 ≤ a.got ∧ a.got < 2 ^ 52) ∧ (0 ≤ a.idle ∧ a.idle < 2 ^ 52) ∧ (0 ≤ a.freed ∧ a.freed < 2 ^ 52) := by obtain ⟨h1, h2, h3, h4⟩ := hab; simp only [acK] at h1 h2 h3 h4; omega
  have hxb' : (0 ≤ x.own ∧ x.own < 2 ^ 52) ∧ (0 ≤ x.got ∧ x.got < 2 ^ 52) ∧ (0 ≤ x.idle ∧ x.idle < 2 ^ 52) ∧ (0 ≤ x.freed ∧ x.freed < 2 ^ 52) := by obtain ⟨h1, h2, h3, h4⟩ := hx; simp only at h1 h2 h3 h4; omega
  obtain ⟨a1, a2, a3, a4⟩ := hab'
  obtain ⟨x1, x2, x3, x4⟩ := hxb'
  have he : ldAdd l (i : Int) x = (l.set i ⟨a.own + x.own, a.got + x.got, a.idle, a.freed⟩).set i ⟨a.own + x.own, a.got + x.got, a.idle + x.idle, a.freed + x.freed⟩ := by rw [ldAdd, if_pos hd1, Int.toNat_natCast, List.getD_eq_getElem?_getD, ha, List.set_set]; rfl
  refine Xc true (fun _ => ?_) (fun h => by cases h)
  refine Xq (Xg 13 (Xl [(0,vp b), (1,vi i), (2,.complex .f64 (floatOfInt .f64 x.own) (floatOfInt .f64 x.got)), (3,.complex .f64 (floatOfInt .f64 x.idle) (floatOfInt .f64 x.freed)), (22,.slice (some ⟨r, 0, none⟩) l.length l.length), (23,vi i)] [(⟨b, 0, none⟩, .slice (some ⟨r, 0, none⟩) l.length l.length)] (hasC (ba 0) has0) ?_ 8 5))
  refine Xs (yldS (Xi 131 (.tmp 22) (.tmp 23) r 0 l.length l.length i 2 170 (i : Int) 24 Tryz.underlying131)) (fun _ => ?_) 7
  refine Xl [(0,vp b), (1,vi i), (3,.complex .f64 (floatOfInt .f64 x.idle) (floatOfInt .f64 x.freed)), (22,.slice (some ⟨r, 0, none⟩) l.length l.length), (23,vi i), (26,.complex .f64 (floatOfInt .f64 a.own) (floatOfInt .f64 a.got)), (27,.complex .f64 (floatOfInt .f64 x.own) (floatOfInt .f64 x.got))] [(⟨r, 0 + i * 2, none⟩, .complex .f64 (floatOfInt .f64 a.own) (floatOfInt .f64 a.got))] (hasC (rowCell (E := accE) (xs := l) 1 rfl (x := a) ha (j := 0) rfl) has0) ?_ 4 3
  refine Xs (yldS (binY .add 135 135 (.tmp 26) (.tmp 27) (.complex .f64 (floatOfInt .f64 a.own) (floatOfInt .f64 a.got)) (.complex .f64 (floatOfInt .f64 x.own) (floatOfInt .f64 x.got)) (.complex .f64 (floatOfInt .f64 (a.own + x.own)) (floatOfInt .f64 (a.got + x.got))) (some 28) (fun _ => by kernel_rfl) (by kernel_rfl) (by kernel_rfl) (fun _ => by kernel_rfl) (fun _ => by kernel_rfl) (cpx_add a1 a2 x1 x2))) (fun _ => ?_) 3
  refine Xs (yldS (Xi 131 (.tmp 22) (.tmp 23) r 0 l.length l.length i 2 170 (i : Int) 29 Tryz.underlying131)) (fun _ => ?_) 2
  refine Xr [(28,.complex .f64 (floatOfInt .f64 (a.own + x.own)) (floatOfInt .f64 (a.got + x.got))), (0,vp b), (1,vi i), (3,.complex .f64 (floatOfInt .f64 x.idle) (floatOfInt .f64 x.freed)), (30,.pointer (some ⟨r, 0 + i * 2, none⟩))] ?_ 1 1
  refine Xh0 ?_ 1 1
  refine Xs (setS (E := accE) (J := i) (j := 0) a (⟨a.own + x.own, a.got + x.got, a.idle, a.freed⟩ : Acc) (.complex .f64 (floatOfInt .f64 (a.own + x.own)) (floatOfInt .f64 (a.got + x.got))) ⟨r, 0 + i * 2, none⟩ (fun _ => by kernel_rfl) (by first | rfl | simp) (ha) (rfl) (by decide)) (fun _ => ?_) 0
  refine endR ?_
  refine Xg 13 (Xl [(3,.complex .f64 (floatOfInt .f64 x.idle) (floatOfInt .f64 x.freed)), (34,.slice (some ⟨r, 0, none⟩) l.length l.length), (35,vi i)] [(⟨b, 0, none⟩, .slice (some ⟨r, 0, none⟩) l.length l.length)] (hasC (ba 1) has0) ?_ 8 5)
  refine Xs (yldS (Xi 131 (.tmp 34) (.tmp 35) r 0 l.length l.length i 2 170 (i : Int) 36 Tryz.underlying131)) (fun _ => ?_) 7
  refine Xl [(34,.slice (some ⟨r, 0, none⟩) l.length l.length), (35,vi i), (38,.complex .f64 (floatOfInt .f64 a.idle) (floatOfInt .f64 a.freed)), (39,.complex .f64 (floatOfInt .f64 x.idle) (floatOfInt .f64 x.freed))] [(⟨r, 0 + i * 2 + 1, none⟩, .complex .f64 (floatOfInt .f64 a.idle) (floatOfInt .f64 a.freed))] (hasC (rowCell (E := accE) (xs := l.set i ⟨a.own + x.own, a.got + x.got, a.idle, a.freed⟩) 0 rfl (x := ⟨a.own + x.own, a.got + x.got, a.idle, a.freed⟩) (by rw [List.getElem?_set_self hil]) (j := 1) rfl) has0) ?_ 4 3
  refine Xs (yldS (binY .add 135 135 (.tmp 38) (.tmp 39) (.complex .f64 (floatOfInt .f64 a.idle) (floatOfInt .f64 a.freed)) (.complex .f64 (floatOfInt .f64 x.idle) (floatOfInt .f64 x.freed)) (.complex .f64 (floatOfInt .f64 (a.idle + x.idle)) (floatOfInt .f64 (a.freed + x.freed))) (some 40) (fun _ => by kernel_rfl) (by kernel_rfl) (by kernel_rfl) (fun _ => by kernel_rfl) (fun _ => by kernel_rfl) (cpx_add a3 a4 x3 x4))) (fun _ => ?_) 3
  refine Xs (yldS (Xi 131 (.tmp 34) (.tmp 35) r 0 l.length l.length i 2 170 (i : Int) 41 Tryz.underlying131)) (fun _ => ?_) 2
  refine Xr [(40,.complex .f64 (floatOfInt .f64 (a.idle + x.idle)) (floatOfInt .f64 (a.freed + x.freed))), (42,.pointer (some ⟨r, 0 + i * 2 + 1, none⟩))] ?_ 1 1
  refine Xs (setS (E := accE) (J := i) (j := 1) (⟨a.own + x.own, a.got + x.got, a.idle, a.freed⟩ : Acc) (⟨a.own + x.own, a.got + x.got, a.idle + x.idle, a.freed + x.freed⟩ : Acc) (.complex .f64 (floatOfInt .f64 (a.idle + x.idle)) (floatOfInt .f64 (a.freed + x.freed))) ⟨r, 0 + i * 2 + 1, none⟩ (fun _ => by kernel_rfl) (by first | rfl | simp) ((by rw [List.getElem?_set_self hil])) (rfl) (by decide)) (fun _ => ?_) 0
  refine endR ?_
  refine Y1 (.tuple #[]) (fun w hs => ?_)
  exact ⟨(), rfl, by rw [he, List.length_set, List.length_set]; exact SatF.swap hs⟩
 | false =>
  have hd1 : ldIs l d = false := by rw [ldIs]; simpa using hd
  refine Xc false (fun h => by cases h) (fun _ => ?_)
  refine Xk (Y1 (.tuple #[]) (fun w hs => ?_))
  exact ⟨(), rfl, by rw [ldAdd, if_neg (by rw [hd1]; simp)]; exact hs⟩
set_option maxRecDepth 100000 in
theorem ldaccount_walk (H : List SP) (x : Acc) (hx : AccIn x (acK 9007199254740991)) : ∀ w, Sat w H → Calls Tryz.prog 76 #[.agg #[.complex .f64 (floatOfInt .f64 x.own) (floatOfInt .f64 x.got), .complex .f64 (floatOfInt .f64 x.idle) (floatOfInt .f64 x.freed)]] w (Ret (ι := Unit) (fun _ => .agg #[vi x.own, vi x.got, vi x.idle, vi x.freed]) fun _ => H) := by
 refine enterG (fn := Tryz.f76) 20 [.agg #[.complex .f64 (floatOfInt .f64 x.own) (floatOfInt .f64 x.got), .complex .f64 (floatOfInt .f64 x.idle) (floatOfInt .f64 x.freed)]] Tryz.func76 (by kernel_rfl) (by kernel_rfl) (by kernel_rfl) ?_
 have hb : x.own.natAbs < 2 ^ 53 ∧ x.got.natAbs < 2 ^ 53 ∧ x.idle.natAbs < 2 ^ 53 ∧ x.freed.natAbs < 2 ^ 53 := by obtain ⟨h1, h2, h3, h4⟩ := hx; simp only [acK] at h1 h2 h3 h4; omega
 refine Xq (Xg 2 (Xs (Xn 170 [.complex .f64 (floatOfInt .f64 x.own) (floatOfInt .f64 x.got), .complex .f64 (floatOfInt .f64 x.idle) (floatOfInt .f64 x.freed)] (some 1) (fun b => vp b)) (fun b1 => ?_) 1))
 refine Xs (Xn 102 [vi 0, vi 0, vi 0, vi 0] (some 2) (fun b => vp b)) (fun b2 => ?_) 0
 refine endR ?_
 refine Xq (Xg 18 (Xl [(2,vp b2), (1,vp b1), (5,.float .f64 (floatOfInt .f64 x.own))] [(⟨b1, 0, none⟩, .complex .f64 (floatOfInt .f64 x.own) (floatOfInt .f64 x.got))] (hasC (ba 1) has0) ?_ 15 3))
 refine Xs (yldS (cvtY 241 3 (.tmp 5) (.float .f64 (floatOfInt .f64 x.own)) (.int .i64 x.own) (some 6) (fun _ => by kernel_rfl) (by kernel_rfl) (by kernel_rfl) (fun _ => by kernel_rfl) (cvt_int hb.1))) (fun _ => ?_) 14
 refine Xl [(6,vi x.own), (2,vp b2), (1,vp b1), (9,.float .f64 (floatOfInt .f64 x.got))] [(⟨b1, 0, none⟩, .complex .f64 (floatOfInt .f64 x.own) (floatOfInt .f64 x.got))] (hasC (ba 1) has0) ?_ 11 3
 refine Xs (yldS (cvtY 241 3 (.tmp 9) (.float .f64 (floatOfInt .f64 x.got)) (.int .i64 x.got) (some 10) (fun _ => by kernel_rfl) (by kernel_rfl) (by kernel_rfl) (fun _ => by kernel_rfl) (cvt_int hb.2.1))) (fun _ => ?_) 10
 refine Xl [(10,vi x.got), (6,vi x.own), (2,vp b2), (1,vp b1), (13,.float .f64 (floatOfInt .f64 x.idle))] [(⟨b1, 1, none⟩, .complex .f64 (floatOfInt .f64 x.idle) (floatOfInt .f64 x.freed))] (hasC (ba 1) has0) ?_ 7 3
 refine Xs (yldS (cvtY 241 3 (.tmp 13) (.float .f64 (floatOfInt .f64 x.idle)) (.int .i64 x.idle) (some 14) (fun _ => by kernel_rfl) (by kernel_rfl) (by kernel_rfl) (fun _ => by kernel_rfl) (cvt_int hb.2.2.1))) (fun _ => ?_) 6
 refine Xl [(14,vi x.idle), (10,vi x.got), (6,vi x.own), (2,vp b2), (17,.float .f64 (floatOfInt .f64 x.freed))] [(⟨b1, 1, none⟩, .complex .f64 (floatOfInt .f64 x.idle) (floatOfInt .f64 x.freed))] (hasC (ba 1) has0) ?_ 3 3
 refine Xs (yldS (cvtY 241 3 (.tmp 17) (.float .f64 (floatOfInt .f64 x.freed)) (.int .i64 x.freed) (some 18) (fun _ => by kernel_rfl) (by kernel_rfl) (by kernel_rfl) (fun _ => by kernel_rfl) (cvt_int hb.2.2.2))) (fun _ => ?_) 2
 refine Xr [(2,vp b2), (19,.agg #[vi x.own, vi x.got, vi x.idle, vi x.freed])] ?_ 1 1
 refine Xs (Xz [(0,vi x.own), (1,vi x.got), (2,vi x.idle), (3,vi x.freed)]) (fun _ => ?_) 0
 refine endR ?_
 refine Xv ?_
 refine doneG (.agg #[.int .i64 x.own, .int .i64 x.got, .int .i64 x.idle, .int .i64 x.freed]) [(⟨b2, 0, none⟩, .int .i64 x.own), (⟨b2, 1, none⟩, .int .i64 x.got), (⟨b2, 2, none⟩, .int .i64 x.idle), (⟨b2, 3, none⟩, .int .i64 x.freed)] (hasC (blkAt (T := 102) (cs := [.int .i64 x.own, .int .i64 x.got, .int .i64 x.idle, .int .i64 x.freed]) 0 rfl rfl) (hasC (blkAt (T := 102) (cs := [.int .i64 x.own, .int .i64 x.got, .int .i64 x.idle, .int .i64 x.freed]) 0 rfl rfl) (hasC (blkAt (T := 102) (cs := [.int .i64 x.own, .int .i64 x.got, .int .i64 x.idle, .int .i64 x.freed]) 0 rfl rfl) (hasC (blkAt (T := 102) (cs := [.int .i64 x.own, .int .i64 x.got, .int .i64 x.idle, .int .i64 x.freed]) 0 rfl rfl) has0)))) (fun _ => by kernel_rfl) (fun w hs => ?_) .ret (.inr rfl)
 exact ⟨(), rfl, hs.tail.tail⟩
theorem fo0 : floatOfInt .f64 0 = 0 := by decide
theorem fo1 : floatOfInt .f64 1 = 4607182418800017408 := by decide
abbrev acO : Acc := ⟨1, 0, 0, 0⟩
abbrev acG : Acc := ⟨0, 1, 0, 0⟩
abbrev acI : Acc := ⟨0, 0, 1, 0⟩
abbrev acF : Acc := ⟨0, 0, 0, 1⟩
theorem ldaddO (H : List SP) (b r : Nat) (l : List Acc) (d : Int) (hl : l.length ≤ 6) (hb : LdOk l 1125899906842625) : ∀ w, Sat w (blk b 133 [.slice (some ⟨r, 0, none⟩) l.length l.length] :: row accE 170 (.slice (some ⟨r, 0, none⟩) l.length l.length) l :: H) → Calls Tryz.prog 53 #[vp b, vi d, .complex .f64 4607182418800017408 0, .complex .f64 0 0] w (Ret (ι := Unit) (fun _ => .tuple #[]) fun _ => blk b 133 [.slice (some ⟨r, 0, none⟩) (ldAdd l d acO).length (ldAdd l d acO).length] :: row accE 170 (.slice (some ⟨r, 0, none⟩) (ldAdd l d acO).length (ldAdd l d acO).length) (ldAdd l d acO) :: H) := by
 have h := ldadd_walk H b r l d acO hl hb (by unfold AccIn; decide)
 rwa [show acO.own = 1 from rfl, show acO.got = 0 from rfl, show acO.idle = 0 from rfl, show acO.freed = 0 from rfl, fo0, fo1] at h
theorem ldaddG (H : List SP) (b r : Nat) (l : List Acc) (d : Int) (hl : l.length ≤ 6) (hb : LdOk l 1125899906842625) : ∀ w, Sat w (blk b 133 [.slice (some ⟨r, 0, none⟩) l.length l.length] :: row accE 170 (.slice (some ⟨r, 0, none⟩) l.length l.length) l :: H) → Calls Tryz.prog 53 #[vp b, vi d, .complex .f64 0 4607182418800017408, .complex .f64 0 0] w (Ret (ι := Unit) (fun _ => .tuple #[]) fun _ => blk b 133 [.slice (some ⟨r, 0, none⟩) (ldAdd l d acG).length (ldAdd l d acG).length] :: row accE 170 (.slice (some ⟨r, 0, none⟩) (ldAdd l d acG).length (ldAdd l d acG).length) (ldAdd l d acG) :: H) := by
 have h := ldadd_walk H b r l d acG hl hb (by unfold AccIn; decide)
 rwa [show acG.own = 0 from rfl, show acG.got = 1 from rfl, show acG.idle = 0 from rfl, show acG.freed = 0 from rfl, fo0, fo1] at h
theorem ldaddI (H : List SP) (b r : Nat) (l : List Acc) (d : Int) (hl : l.length ≤ 6) (hb : LdOk l 1125899906842625) : ∀ w, Sat w (blk b 133 [.slice (some ⟨r, 0, none⟩) l.length l.length] :: row accE 170 (.slice (some ⟨r, 0, none⟩) l.length l.length) l :: H) → Calls Tryz.prog 53 #[vp b, vi d, .complex .f64 0 0, .complex .f64 4607182418800017408 0] w (Ret (ι := Unit) (fun _ => .tuple #[]) fun _ => blk b 133 [.slice (some ⟨r, 0, none⟩) (ldAdd l d acI).length (ldAdd l d acI).length] :: row accE 170 (.slice (some ⟨r, 0, none⟩) (ldAdd l d acI).length (ldAdd l d acI).length) (ldAdd l d acI) :: H) := by
 have h := ldadd_walk H b r l d acI hl hb (by unfold AccIn; decide)
 rwa [show acI.own = 0 from rfl, show acI.got = 0 from rfl, show acI.idle = 1 from rfl, show acI.freed = 0 from rfl, fo0, fo1] at h
theorem ldaddF (H : List SP) (b r : Nat) (l : List Acc) (d : Int) (hl : l.length ≤ 6) (hb : LdOk l 1125899906842625) : ∀ w, Sat w (blk b 133 [.slice (some ⟨r, 0, none⟩) l.length l.length] :: row accE 170 (.slice (some ⟨r, 0, none⟩) l.length l.length) l :: H) → Calls Tryz.prog 53 #[vp b, vi d, .complex .f64 0 0, .complex .f64 0 4607182418800017408] w (Ret (ι := Unit) (fun _ => .tuple #[]) fun _ => blk b 133 [.slice (some ⟨r, 0, none⟩) (ldAdd l d acF).length (ldAdd l d acF).length] :: row accE 170 (.slice (some ⟨r, 0, none⟩) (ldAdd l d acF).length (ldAdd l d acF).length) (ldAdd l d acF) :: H) := by
 have h := ldadd_walk H b r l d acF hl hb (by unfold AccIn; decide)
 rwa [show acF.own = 0 from rfl, show acF.got = 0 from rfl, show acF.idle = 0 from rfl, show acF.freed = 1 from rfl, fo0, fo1] at h
set_option maxRecDepth 100000 in
theorem ldcount_walk (H : List SP) (b r : Nat) (l : List Acc) (o f v : Int) (hl : l.length ≤ 6) (hb : LdOk l 1125899906842623) : ∀ w, Sat w (blk b 133 [.slice (some ⟨r, 0, none⟩) l.length l.length] :: row accE 170 (.slice (some ⟨r, 0, none⟩) l.length l.length) l :: H) → Calls Tryz.prog 19 #[vp b, vi o, vi f, vi v] w (Ret (ι := Unit) (fun _ => .tuple #[]) fun _ => blk b 133 [.slice (some ⟨r, 0, none⟩) (ldCount l o f v).length (ldCount l o f v).length] :: row accE 170 (.slice (some ⟨r, 0, none⟩) (ldCount l o f v).length (ldCount l o f v).length) (ldCount l o f v) :: H) := by
 have h0 : LdOk l 1125899906842625 := hb.mono (by decide)
 have hA : ∀ d, LdOk (ldAdd l d acO) 1125899906842625 := fun d => (LdIn.add hb d (x := acO) (by decide) (by decide) (by decide) (by decide)).le (by decide) (by decide) (by decide) (by decide)
 have hG : ∀ d, LdOk (ldAdd l d acG) 1125899906842625 := fun d => (LdIn.add hb d (x := acG) (by decide) (by decide) (by decide) (by decide)).le (by decide) (by decide) (by decide) (by decide)
 have hI : ∀ d e, LdOk (ldAdd (ldAdd l d acG) e acI) 1125899906842625 := fun d e => ((LdIn.add hb d (x := acG) (by decide) (by decide) (by decide) (by decide)).add e (x := acI) (by decide) (by decide) (by decide) (by decide)).le (by decide) (by decide) (by decide) (by decide)
 refine enterG (fn := Tryz.f19) 34 [vp b, vi o, vi f, vi v] Tryz.func19 (by kernel_rfl) (by kernel_rfl) (by kernel_rfl) ?_
 refine Xq (Xq (Xg 11 (Xr [(0,vp b), (1,vi o), (2,vi f), (3,vi v), (10,.bool (decide (o < 0)))] ?_ 8 3)))
 refine (Xs0 0 8 [(0,vp b), (1,vi o), (2,vi f), (3,vi v), (18,.bool ((decide (o < 0)) || (decide (o ≥ (l.length : Int)))))] ?_ ?_ : RT _ _ _ _ _ _ 8 _)
 ·cases hg3 : (decide (o < 0)) with
  | true =>
   refine Xe [(0,vp b), (1,vi o), (2,vi f), (3,vi v), (18,.bool true)] ?_ 8
   refine Xp [(0,vp b), (1,vi o), (2,vi f), (3,vi v), (18,.bool (true || (decide (o ≥ (l.length : Int)))))] ?_
   exact midR () rfl rfl
  | false =>
   refine Xm [(0,vp b), (1,vi o), (2,vi f), (3,vi v), (18,.bool (decide (o ≥ (l.length : Int))))] [(⟨b, 0, none⟩, .slice (some ⟨r, 0, none⟩) l.length l.length)] (hasC (ba 0) has0) ?_ 8
   refine Xp [(0,vp b), (1,vi o), (2,vi f), (3,vi v), (18,.bool (false || (decide (o ≥ (l.length : Int)))))] ?_
   exact midR () rfl rfl
 refine endR ?_
 cases hd : ((decide (o < 0)) || (decide (o ≥ (l.length : Int)))) with
 | true =>
  have hd1 : ldIs l o = false := by rw [ldIs]; simp at hd ⊢; omega
  refine Xc true (fun _ => ?_) (fun h => by cases h)
  refine Xv (thenV (Y0 (.tuple #[]) (fun w hs => ?_)))
  exact ⟨(), rfl, by rw [ldCount, if_pos hd1]; exact hs⟩
 | false =>
  have hd1 : ldIs l o = true := by rw [ldIs]; simp at hd ⊢; omega
  refine Xc false (fun h => by cases h) (fun _ => ?_)
  refine Xk (Xq (Xq (Xg 3 (Xe [(0,vp b), (1,vi o), (2,vi f), (3,vi v), (21,.bool (v == o))] ?_ 3))))
  refine Xc (v == o) (fun h1 => ?_) (fun h1 => ?_)
  ·skip
   have h1' : v = o := eq_of_beq h1
   refine Xg 3 (Xr [(0,vp b), (2,vi f), (22,vp b), (23,vi o)] ?_ 1 2)
   refine Xs (Xa (some 24) (fun _ => .tuple #[]) (ldaddO _ b r l o hl h0)) (fun _ => ?_) 0
   refine endR ?_
   refine Xg 3 (Xr [(31,vp b), (32,vi f)] ?_ 1 2)
   refine Xs (Xa (some 33) (fun _ => .tuple #[]) (ldaddF _ b r (ldAdd l o acO) f (by rw [ldAdd_len]; exact hl) (hA o))) (fun _ => ?_) 0
   refine endR ?_
   refine Y1 (.tuple #[]) (fun w hs => ?_)
   exact ⟨(), rfl, by rw [ldCount, if_neg (by rw [hd1]; simp), ldMid, if_pos h1']; exact hs⟩
  ·skip
   have h1' : ¬ v = o := beq_eq_false_iff_ne.1 h1
   refine Xq (Xg 3 (Xr [(0,vp b), (1,vi o), (2,vi f), (25,vp b), (26,vi v)] ?_ 1 2))
   refine Xs (Xa (some 27) (fun _ => .tuple #[]) (ldaddG _ b r l v hl h0)) (fun _ => ?_) 0
   refine endR ?_
   refine Xg 3 (Xr [(0,vp b), (2,vi f), (28,vp b), (29,vi o)] ?_ 1 2)
   refine Xs (Xa (some 30) (fun _ => .tuple #[]) (ldaddI _ b r (ldAdd l v acG) o (by rw [ldAdd_len]; exact hl) (hG v))) (fun _ => ?_) 0
   refine endR ?_
   refine Xg 3 (Xr [(31,vp b), (32,vi f)] ?_ 1 2)
   refine Xs (Xa (some 33) (fun _ => .tuple #[]) (ldaddF _ b r (ldAdd (ldAdd l v acG) o acI) f (by rw [ldAdd_len, ldAdd_len]; exact hl) (hI v o))) (fun _ => ?_) 0
   refine endR ?_
   refine Y1 (.tuple #[]) (fun w hs => ?_)
   exact ⟨(), rfl, by rw [ldCount, if_neg (by rw [hd1]; simp), ldMid, if_neg h1']; exact hs⟩
theorem ldCount_c (H : List SP) (b : Nat) (l : List Acc) (o f v : Int) (hb : LdOk l 1125899906842623) : ∀ w, Sat w (ldS b l :: H) → Calls Tryz.prog 19 #[vp b, vi o, vi f, vi v] w (Ret (ι := Unit) (fun _ => .tuple #[]) fun _ => ldS b (ldCount l o f v) :: H) := fun w hs => by
 obtain ⟨r, h1, hs⟩ := Sat.openLd hs
 exact (ldcount_walk H b r l o f v h1.2.2 hb w hs).mono fun e w' ⟨_, he, hx⟩ => ⟨(), he, Sat.closeLd ⟨(hb.count o f v).mono (by decide), by rw [ldCount_len]; exact h1.2⟩ hx⟩
set_option maxRecDepth 100000 in
theorem ldacc_walk (H : List SP) (b r : Nat) (l : List Acc) (d : Int) (hl : l.length ≤ 6) (hb : LdOk l 1125899906842624) : ∀ w, Sat w (blk b 133 [.slice (some ⟨r, 0, none⟩) l.length l.length] :: row accE 170 (.slice (some ⟨r, 0, none⟩) l.length l.length) l :: H) → Calls Tryz.prog 118 #[vp b, vi d] w (Ret (ι := Unit) (fun _ => .agg #[vi (ldAt l d).own, vi (ldAt l d).got, vi (ldAt l d).idle, vi (ldAt l d).freed]) fun _ => blk b 133 [.slice (some ⟨r, 0, none⟩) l.length l.length] :: row accE 170 (.slice (some ⟨r, 0, none⟩) l.length l.length) l :: H) := by
 refine enterG (fn := Tryz.f118) 25 [vp b, vi d] Tryz.func118 (by kernel_rfl) (by kernel_rfl) (by kernel_rfl) ?_
 refine Xq (Xg 1 (Xs (Xn 102 [vi 0, vi 0, vi 0, vi 0] (some 4) (fun b => vp b)) (fun b1 => ?_) 0))
 refine endR ?_
 refine Xq (Xq (Xg 11 (Xr [(4,vp b1), (0,vp b), (1,vi d), (7,.bool (decide (d < 0)))] ?_ 8 3)))
 refine (Xs0 0 8 [(4,vp b1), (0,vp b), (1,vi d), (15,.bool ((decide (d < 0)) || (decide (d ≥ (l.length : Int)))))] ?_ ?_ : RT _ _ _ _ _ _ 8 _)
 ·cases hg3 : (decide (d < 0)) with
  | true =>
   refine Xe [(4,vp b1), (0,vp b), (1,vi d), (15,.bool true)] ?_ 8
   refine Xp [(4,vp b1), (0,vp b), (1,vi d), (15,.bool (true || (decide (d ≥ (l.length : Int)))))] ?_
   exact midR () rfl rfl
  | false =>
   refine Xm [(4,vp b1), (0,vp b), (1,vi d), (15,.bool (decide (d ≥ (l.length : Int))))] [(⟨b, 0, none⟩, .slice (some ⟨r, 0, none⟩) l.length l.length)] (hasC (ba 1) has0) ?_ 8
   refine Xp [(4,vp b1), (0,vp b), (1,vi d), (15,.bool (false || (decide (d ≥ (l.length : Int)))))] ?_
   exact midR () rfl rfl
 refine endR ?_
 cases hd : ((decide (d < 0)) || (decide (d ≥ (l.length : Int)))) with
 | true =>
  have hd1 : ldIs l d = false := by rw [ldIs]; simp at hd ⊢; omega
  refine Xc true (fun _ => ?_) (fun h => by cases h)
  refine Xq (Xg 2 (Xr [(4,vp b1), (0,vp b), (1,vi d), (16,.agg #[vi 0, vi 0, vi 0, vi 0])] ?_ 1 1))
  refine Xs (Xz [(0,vi 0), (1,vi 0), (2,vi 0), (3,vi 0)]) (fun _ => ?_) 0
  refine endR ?_
  refine Xv (thenV ?_)
  refine doneG (.agg #[.int .i64 0, .int .i64 0, .int .i64 0, .int .i64 0]) [(⟨b1, 0, none⟩, .int .i64 0), (⟨b1, 1, none⟩, .int .i64 0), (⟨b1, 2, none⟩, .int .i64 0), (⟨b1, 3, none⟩, .int .i64 0)] (hasC (blkAt (T := 102) (cs := [.int .i64 0, .int .i64 0, .int .i64 0, .int .i64 0]) 0 rfl rfl) (hasC (blkAt (T := 102) (cs := [.int .i64 0, .int .i64 0, .int .i64 0, .int .i64 0]) 0 rfl rfl) (hasC (blkAt (T := 102) (cs := [.int .i64 0, .int .i64 0, .int .i64 0, .int .i64 0]) 0 rfl rfl) (hasC (blkAt (T := 102) (cs := [.int .i64 0, .int .i64 0, .int .i64 0, .int .i64 0]) 0 rfl rfl) has0)))) (fun _ => by kernel_rfl) (fun w hs => ?_) .ret (.inr rfl)
  exact ⟨(), by rw [ldAt, if_neg (by rw [hd1]; simp)], hs.tail⟩
 | false =>
  have hd1 : ldIs l d = true := by rw [ldIs]; simp at hd ⊢; omega
  obtain ⟨i, rfl⟩ : ∃ i : Nat, d = (i : Int) := ⟨d.toNat, by simp at hd; omega⟩
  have hil : i < l.length := by simp at hd; omega
  obtain ⟨a, ha⟩ : ∃ a, l[i]? = some a := ⟨_, List.getElem?_eq_getElem hil⟩
  have hab := (hb a (List.mem_of_getElem? ha)).le (n := acK 9007199254740991) (by decide) (by decide) (by decide) (by decide)
  have he : ldAt l (i : Int) = a := by rw [ldAt, if_pos hd1, Int.toNat_natCast, List.getD_eq_getElem?_getD, ha]; rfl
  refine Xc false (fun h => by cases h) (fun _ => ?_)
  refine Xk (Xq (Xg 9 (Xl [(4,vp b1), (20,.slice (some ⟨r, 0, none⟩) l.length l.length), (21,vi i)] [(⟨b, 0, none⟩, .slice (some ⟨r, 0, none⟩) l.length l.length)] (hasC (ba 1) has0) ?_ 4 5)))
  refine Xs (yldS (Xi 131 (.tmp 20) (.tmp 21) r 0 l.length l.length i 2 170 (i : Int) 22 Tryz.underlying131)) (fun _ => ?_) 3
  refine Xl [(4,vp b1), (23,.agg #[.complex .f64 (floatOfInt .f64 a.own) (floatOfInt .f64 a.got), .complex .f64 (floatOfInt .f64 a.idle) (floatOfInt .f64 a.freed)])] [(⟨r, 0 + i * 2, none⟩, .complex .f64 (floatOfInt .f64 a.own) (floatOfInt .f64 a.got)), (⟨r, 0 + i * 2 + 1, none⟩, .complex .f64 (floatOfInt .f64 a.idle) (floatOfInt .f64 a.freed))] (hasC (rowCell (E := accE) (xs := l) 2 rfl (x := a) ha (j := 0) rfl) (hasC (rowCell (E := accE) (xs := l) 2 rfl (x := a) ha (j := 1) rfl) has0)) ?_ 2 1
  refine Xs (Xa (some 24) (fun _ => .agg #[vi a.own, vi a.got, vi a.idle, vi a.freed]) (ldaccount_walk _ a hab)) (fun _ => ?_) 1
  refine Xs (Xz [(0,vi a.own), (1,vi a.got), (2,vi a.idle), (3,vi a.freed)]) (fun _ => ?_) 0
  refine endR ?_
  refine Xv ?_
  refine doneG (.agg #[.int .i64 a.own, .int .i64 a.got, .int .i64 a.idle, .int .i64 a.freed]) [(⟨b1, 0, none⟩, .int .i64 a.own), (⟨b1, 1, none⟩, .int .i64 a.got), (⟨b1, 2, none⟩, .int .i64 a.idle), (⟨b1, 3, none⟩, .int .i64 a.freed)] (hasC (blkAt (T := 102) (cs := [.int .i64 a.own, .int .i64 a.got, .int .i64 a.idle, .int .i64 a.freed]) 0 rfl rfl) (hasC (blkAt (T := 102) (cs := [.int .i64 a.own, .int .i64 a.got, .int .i64 a.idle, .int .i64 a.freed]) 0 rfl rfl) (hasC (blkAt (T := 102) (cs := [.int .i64 a.own, .int .i64 a.got, .int .i64 a.idle, .int .i64 a.freed]) 0 rfl rfl) (hasC (blkAt (T := 102) (cs := [.int .i64 a.own, .int .i64 a.got, .int .i64 a.idle, .int .i64 a.freed]) 0 rfl rfl) has0)))) (fun _ => by kernel_rfl) (fun w hs => ?_) .ret (.inr rfl)
  exact ⟨(), by rw [he], hs.tail⟩
theorem ldAcc_c (H : List SP) (b : Nat) (l : List Acc) (d : Int) : ∀ w, Sat w (ldS b l :: H) → Calls Tryz.prog 118 #[vp b, vi d] w (Ret (ι := Unit) (fun _ => .agg #[vi (ldAt l d).own, vi (ldAt l d).got, vi (ldAt l d).idle, vi (ldAt l d).freed]) fun _ => ldS b l :: H) := fun w hs => by
 obtain ⟨r, h1, hs⟩ := Sat.openLd hs
 exact (ldacc_walk H b r l d h1.2.2 h1.1 w hs).mono fun e w' ⟨_, he, hx⟩ => ⟨(), he, Sat.closeLd h1 hx⟩
theorem ldAt_in {l : List Acc} {m : Int} (h : LdOk l m) (hm : 0 ≤ m) (d : Int) : AccIn (ldAt l d) (acK m) := by
 unfold ldAt
 split
 ·rename_i hd
  have hl : d.toNat < l.length := by simp [ldIs] at hd; omega
  rw [List.getD_eq_getElem?_getD, List.getElem?_eq_getElem hl]
  exact h _ (List.getElem_mem hl)
 ·exact AccIn.zero hm hm hm hm
theorem ldAt_ld {b : Nat} {l : List Acc} {H : List SP} (j : Nat) (hj : H[j]? = some (ldS b l)) : ∀ w, Sat w H → LdOk l 1125899906842624 := fun w hs => by
 obtain ⟨_, h, _⟩ := Sat.openLd (Sat.pick j hj hs)
 exact h.1
set_option maxRecDepth 100000 in
theorem ldClock_c (H : List SP) (b : Nat) (l : List Acc) (d : Int) : ∀ w, Sat w (ldS b l :: H) → Calls Tryz.prog 81 #[vp b, vi d] w (Ret (ι := Unit) (fun _ => vi ((ldAt l d).own + (ldAt l d).got)) fun _ => ldS b l :: H) := by
 refine enterG (fn := Tryz.f81) 14 [vp b, vi d] Tryz.func81 (by kernel_rfl) (by kernel_rfl) (by kernel_rfl) ?_
 refine PT.know (ldAt_ld 0 rfl) ?_
 intro hb
 have hin := ldAt_in hb (by decide) d
 obtain ⟨i1, i2, _⟩ := hin
 simp only [acK] at i1 i2
 refine Xq (Xg 1 (Xe [(0,vp b), (1,vi d), (4,vi 0)] ?_ 1))
 refine Xq (Xg 5 (Xr [(4,vi 0), (6,vp b), (7,vi d)] ?_ 3 2))
 refine Xs (Xa (some 8) (fun _ => .agg #[vi (ldAt l d).own, vi (ldAt l d).got, vi (ldAt l d).idle, vi (ldAt l d).freed]) (ldAcc_c _ b l d)) (fun _ => ?_) 2
 refine Xs (Xn 102 [vi 0, vi 0, vi 0, vi 0] (some 5) (fun b => vp b)) (fun b1 => ?_) 1
 refine Xs (Xz [(0,vi ((ldAt l d).own)), (1,vi ((ldAt l d).got)), (2,vi ((ldAt l d).idle)), (3,vi ((ldAt l d).freed))]) (fun _ => ?_) 0
 refine endR ?_
 refine Xq (Xg 6 (Xm [(4,vi (IntKind.i64.wrap (((ldAt l d).own) + ((ldAt l d).got))))] [(⟨b1, 0, none⟩, vi ((ldAt l d).own)), (⟨b1, 1, none⟩, vi ((ldAt l d).got))] (hasC (ba 0) (hasC (ba 0) has0)) ?_ 6))
 refine Xv ?_
 rw [show IntKind.i64.wrap (((ldAt l d).own) + ((ldAt l d).got)) = (((ldAt l d).own) + ((ldAt l d).got)) by rw [w64 (by omega) (by omega)]]
 refine Y0 (vi (((ldAt l d).own) + ((ldAt l d).got))) (fun w hs => ?_)
 exact ⟨(), rfl, hs.tail⟩
end Go.Proofs.YtfhkgohokbkgiaaGreatDoor
set_option linter.unusedVariables false
set_option linter.unusedSimpArgs false
namespace Go.Proofs.YtfhkgohokbkgiaaGreatDoor
open Go.RowKit G
theorem wakeL_snoc (N : List Nr) (l : List Int) (i : Int) : wakeL N (l ++ [i]) = (readyN (wakeL N l) i true).2 := by simp [wakeL]
theorem wake_step {s : KS} (hk : KOk s) (t : Int) {u : Nat} {i : Int} (h : (dueOf t s.tm)[u]? = some i) : (readyN (wakeL s.N ((dueOf t s.tm).take u)) i true).1 = 0 := by
 obtain ⟨h1, h2, h3⟩ := wakeL_ok ((dueOf t s.tm).take u) hk.wf
 have hoff : Off s.N i := by
  obtain ⟨v, hv, _⟩ := (mem_due t i).1 (List.mem_of_getElem? h)
  exact hk.tmo _ hv
 have hnot : i ∉ (dueOf t s.tm).take u := fun hm => by
  obtain ⟨a, ha⟩ := List.getElem?_of_mem hm
  rw [List.getElem?_take] at ha
  split at ha
  ·obtain ⟨ha1, ha2⟩ := List.getElem?_eq_some_iff.1 ha
   obtain ⟨hu1, hu2⟩ := List.getElem?_eq_some_iff.1 h
   have := List.pairwise_iff_getElem.1 (hk.tm.due t) a u ha1 hu1 (by assumption)
   omega
  ·cases ha
 obtain ⟨x, hx, ht, _⟩ := (h3 i hnot hoff).get h1.sk
 rw [readyN, hx]; simp [ht]
set_option maxHeartbeats 1000000 in
set_option maxRecDepth 100000 in
theorem kwake_walk (H : List SP) (k t m o : Nat) (s : KS) (hk : KOk s) (tick : Int) : ∀ w, Sat w (blk k 145 [vp t, vp m, vp o, vi s.mt, vi s.mg, vi s.nx] :: treeS t s.N :: tmS m s.tm :: obsS o s.ob :: H) → Calls Tryz.prog 28 #[vp k, vi tick] w (Ret (ι := Option Addr × Nat) (fun x => .slice x.1 (kwake s tick).1.length x.2) fun x => row (kE .i64) 3 (.slice x.1 (kwake s tick).1.length x.2) (kwake s tick).1 :: blk k 145 [vp t, vp m, vp o, vi (kwake s tick).2.mt, vi (kwake s tick).2.mg, vi (kwake s tick).2.nx] :: treeS t (kwake s tick).2.N :: tmS m (kwake s tick).2.tm :: obsS o (kwake s tick).2.ob :: H) := by
 have htl := hk.tml
 obtain ⟨D, hD⟩ : ∃ D, dueOf tick s.tm = D := ⟨_, rfl⟩
 have hst := fun u i => wake_step hk tick (u := u) (i := i)
 have hDl : D.length ≤ 60 := by have := due_length tick s.tm; rw [hD] at this; omega
 have hkw : kwake s tick = (D, { s with N := wakeL s.N D, tm := restOf tick s.tm }) := by rw [kwake, hD]
 rw [hD] at hst
 rw [hkw]
 refine enterG (fn := Tryz.f28) 32 [vp k, vi tick] Tryz.func28 (by kernel_rfl) (by kernel_rfl) (by kernel_rfl) ?_
 refine Xq (Xg 1 (Xe [(0,vp k), (1,vi tick), (4,.slice none 0 0)] ?_ 1))
 refine scopeG 0 (fun (q : (Option Addr × Nat) × Nat) => [(0, vp k), (5, .slice q.1.1 D.length q.1.2), (6, vi (q.2 : Int))]) (fun (q : (Option Addr × Nat) × Nat) => (treeS t (wakeL s.N (D.take q.2)) :: row (kE .i64) 3 (.slice q.1.1 D.length q.1.2) D :: tmS m (restOf tick s.tm) :: blk k 145 [vp t, vp m, vp o, vi s.mt, vi s.mg, vi s.nx] :: obsS o s.ob :: H)) (fun k (q : (Option Addr × Nat) × Nat) => k + q.2 = D.length) (by kernel_rfl) (by kernel_rfl) (by kernel_rfl) (by kernel_rfl) ?_ ?_
 ·skip
  rintro k1 ⟨⟨ra, rk⟩, u⟩ hku K hK
  simp only at hku
  by_cases hu : u < D.length
  ·skip
   obtain ⟨x, hx⟩ : ∃ x, D[u]? = some x := ⟨_, List.getElem?_eq_getElem hu⟩
   have hok := hst u x hx
   have htk : wakeL s.N (D.take (u + 1)) = (readyN (wakeL s.N (D.take u)) x true).2 := by rw [List.take_add_one, hx]; exact wakeL_snoc _ _ _
   refine PT.know (KR.isSome (s := ⟨ra, rk, D⟩) (rowKRat 1 rfl) (List.ne_nil_of_length_pos (by show 0 < D.length; omega))) ?_
   rintro ⟨sb, so, hA⟩
   dsimp only at hA
   subst hA
   refine Xq (Xq (Xy0 1 [] 16 ?_))
   refine Xt [0, 1, 2, 3, 4] [(0,vp k), (5,.slice (some ⟨sb, so, none⟩) D.length rk), (6,vi u), (17,.bool (decide ((u : Int) < (D.length : Int))))] [] has0 ?_
   rw [show (decide ((u : Int) < (D.length : Int))) = true by simp; omega]
   refine Xt [5, 6, 7, 8, 9, 10] [(0,vp k), (5,.slice (some ⟨sb, so, none⟩) D.length rk), (6,vi u), (17,.bool true), (21,vp t), (22,.slice (some ⟨sb, so, none⟩) D.length rk), (23,vi u)] [(⟨k, 0, none⟩, vp t)] (hasC (ba 2) has0) ?_
   refine Xu 11 (Xi 42 (.tmp 22) (.tmp 23) sb so D.length rk u 1 3 (u : Int) 24 Tryz.underlying42) ?_
   refine Xt [12] [(0,vp k), (5,.slice (some ⟨sb, so, none⟩) D.length rk), (6,vi u), (17,.bool true), (21,vp t), (25,vi x)] [(⟨sb, so + u * 1, none⟩, vi x)] (hasC (rowCell (E := kE .i64) (xs := D) 0 rfl (x := x) hx (j := 0) rfl) has0) ?_
   refine Xo 13 (Xa (some 26) (fun _ => .nilIface) (trReady_ok _ t (N' := (readyN (wakeL s.N (D.take u)) x true).2) (Prod.ext hok rfl))) (fun _ => ?_)
   refine Xt [14, 15] [(0,vp k), (5,.slice (some ⟨sb, so, none⟩) D.length rk), (6,vi u), (28,.bool true)] [] has0 ?_
   refine Xd (Xc true (fun _ => ?_) (fun h => by cases h))
   refine Xq (Xg 3 (Xe [(0,vp k), (5,.slice (some ⟨sb, so, none⟩) D.length rk), (6,vi (IntKind.i64.wrap ((u : Int) + 1)))] ?_ 3))
   refine gotoR 0 (by kernel_rfl) (by kernel_rfl) ?_
   rw [show IntKind.i64.wrap ((u : Int) + 1) = ((u : Int) + 1) by rw [w64 (by omega) (by omega)]]
   rw [show (readyN (wakeL s.N (D.take u)) x true).2 = (wakeL s.N (D.take (u + 1))) by exact htk.symm]
   have hJ := fun (k2 v : Nat) (h1 : k2 < k1) (h2 : k2 + v = D.length) => hK k2 ((some ⟨sb, so, none⟩, rk), v) h1 h2
   simp only at hJ
   change PT _ _ _ (Exit.jump 0 K (fun _ _ _ => True) (.goto 0))
   refine Xp [(0,vp k), (5,.slice (some ⟨sb, so, none⟩) D.length rk), (6,vi ((u : Int) + 1))] ?_
   exact jumpR (hJ (k1 - 1) (u + 1) (by omega) (by omega))
  ·skip
   refine Xq (Xq (Xy0 1 [] 16 ?_))
   refine Xt [0, 1, 2, 3, 4] [(0,vp k), (5,.slice ra D.length rk), (6,vi u), (17,.bool (decide ((u : Int) < (D.length : Int))))] [] has0 ?_
   rw [show (decide ((u : Int) < (D.length : Int))) = false by simp; omega]
   refine Xt [5, 6, 7, 8, 9, 10, 11, 12, 13, 14, 15] [(0,vp k), (5,.slice ra D.length rk), (6,vi u), (28,.bool false)] [] has0 ?_
   refine Xd (Xc false (fun h => by cases h) (fun _ => ?_))
   refine Xk (Xq (Xg 2 (Xe [(0,vp k), (5,.slice ra D.length rk), (6,vi u), (4,.slice ra D.length rk)] ?_ 2)))
   refine Xv (jumpV ?_)
   have hue : D.take u = D := List.take_of_length_le (by omega)
   refine PT.pick 4 rfl ?_
   refine PT.pick 3 rfl ?_
   refine PT.pick 2 rfl ?_
   refine PT.pick 4 rfl ?_
   refine PT.pick 4 rfl ?_
   refine Y0 (.slice ra D.length rk) (fun w hs => ?_)
   exact ⟨(ra, rk), rfl, by simp only [hue] at hs; exact hs⟩
 ·skip
  intro K hK
  refine Xq (Xg 8 (Xl [(0,vp k), (4,.slice none 0 0), (10,vp m), (11,vi tick)] [(⟨k, 1, none⟩, vp m)] (hasC (ba 0) has0) ?_ 3 5))
  refine Xh0 ?_ 3 3
  refine Xh0 ?_ 2 3
  refine Xh0 ?_ 2 3
  refine Xh0 ?_ 3 3
  refine Xs (Xa (some 12) (fun (r : Option Addr × Nat) => .slice r.1 D.length r.2) ((hD ▸ tmgDue _ m s.tm tick (by omega)))) (fun (r : Option Addr × Nat) => ?_) 2
  refine Xe [(0,vp k), (4,.slice none 0 0), (5,.slice r.1 D.length r.2), (6,vi 0)] ?_ 2
  refine Xq ?_
  refine labelR (by kernel_rfl) ?_
  refine PT.pick 4 rfl ?_
  refine PT.pick 3 rfl ?_
  refine PT.pick 3 rfl ?_
  refine PT.pick 3 rfl ?_
  refine PT.pick 4 rfl ?_
  refine Xp [(0,vp k), (5,.slice r.1 D.length r.2), (6,vi 0)] ?_
  refine codeR (by kernel_rfl) (hK D.length (r, 0) (by simp))
end Go.Proofs.YtfhkgohokbkgiaaGreatDoor
set_option linter.unusedVariables false
set_option linter.unusedSimpArgs false
namespace Go.Proofs.YtfhkgohokbkgiaaGreatDoor
open Go.RowKit G
def thrL (M : List Nr) : List Int := (M.filter (·.thr)).map (·.id)
theorem thrL_take {M : List Nr} {u : Nat} {x : Nr} (h : M[u]? = some x) : thrL (M.take (u + 1)) = if x.thr = true then thrL (M.take u) ++ [x.id] else thrL (M.take u) := by
 unfold thrL
 rw [List.take_add_one, h, List.filter_append, List.map_append]
 cases c : x.thr <;> simp [c]
theorem thrL_len (M : List Nr) (u : Nat) : (thrL (M.take u)).length ≤ u := by
 unfold thrL
 rw [List.length_map]
 exact Nat.le_trans (List.length_filter_le _ _) (by simp; omega)
end Go.Proofs.YtfhkgohokbkgiaaGreatDoor
set_option linter.unusedVariables false
set_option linter.unusedSimpArgs false
namespace Go.Proofs.YtfhkgohokbkgiaaGreatDoor
open Go.RowKit G
section
variable {α : Type} (H : List SP) (k : Nat) (s : KS)
theorem kerOp {s' : KS} {f : FuncId} {vs : Array Value} {R : Value} (h : ∀ t m o, KOk s → ∀ w, Sat w (blk k 145 [vp t, vp m, vp o, vi s.mt, vi s.mg, vi s.nx] :: treeS t s.N :: tmS m s.tm :: obsS o s.ob :: H) → Calls Tryz.prog f vs w (Ret (ι := Unit) (fun _ => R) fun _ => blk k 145 [vp t, vp m, vp o, vi s'.mt, vi s'.mg, vi s'.nx] :: treeS t s'.N :: tmS m s'.tm :: obsS o s'.ob :: H)) (hk : KOk s → KOk s') : ∀ w, Sat w (kerS k s :: H) → Calls Tryz.prog f vs w (Ret (ι := Unit) (fun _ => R) fun _ => kerS k s' :: H) := fun w hs => by
 obtain ⟨t, m, o, h1, hs2⟩ := Sat.openKer hs
 exact (h t m o h1 w hs2).mono fun e w' ⟨_, he, hx⟩ => ⟨(), he, Sat.closeKer (hk h1) hx⟩
theorem kerAt {j : Nat} {H : List SP} {k : Nat} {s : KS} (hj : H[j]? = some (kerS k s)) : ∀ w, Sat w H → KOk s := fun w hs => by
 obtain ⟨_, _, _, h, _⟩ := Sat.openKer (Sat.pick j hj hs)
 exact h
theorem krRunnable : ∀ w, Sat w (kerS k s :: H) → Calls Tryz.prog 27 #[vp k] w (Ret (ι := Unit) (fun _ => .bool (krunnable s)) fun _ => kerS k s :: H) :=
 kerOp H k s (fun t m o _ => krunnable_walk H k t m o s) (fun h => h)
theorem krRun : ∀ w, Sat w (kerS k s :: H) → Calls Tryz.prog 33 #[vp k] w (Ret (ι := Unit) (fun _ => .tuple #[vi (krun s).1.1, .bool (krun s).1.2]) fun _ => kerS k (krun s).2 :: H) :=
 kerOp H k s (fun t m o _ => krun_walk H k t m o s) krun_ok
theorem krSleep (id u : Int) : ∀ w, Sat w (kerS k s :: H) → Calls Tryz.prog 131 #[vp k, vi id, vi u] w (Ret (ι := Unit) (fun _ => pqErr (ksleep s id u).1) fun _ => kerS k (ksleep s id u).2 :: H) :=
 kerOp H k s (fun t m o h => ksleep_walk H k t m o s h id u) (fun h => ksleep_ok h id u)
theorem krExit (id : Int) : ∀ w, Sat w (kerS k s :: H) → Calls Tryz.prog 130 #[vp k, vi id] w (Ret (ι := Unit) (fun _ => pqErr (kexit s id).1) fun _ => kerS k (kexit s id).2 :: H) :=
 kerOp H k s (fun t m o h => kexit_walk H k t m o s h id) (fun h => kexit_ok h id)
theorem krWait (id j : Int) : ∀ w, Sat w (kerS k s :: H) → Calls Tryz.prog 132 #[vp k, vi id, vi j] w (Ret (ι := Unit) (fun _ => .tuple #[.bool (kwait s id j).1.1, pqErr (kwait s id j).1.2]) fun _ => kerS k (kwait s id j).2 :: H) :=
 kerOp H k s (fun t m o h => kwait_walk H k t m o s h id j) (fun h => kwait_ok h id j)
theorem krSignal (j : Int) : ∀ w, Sat w (kerS k s :: H) → Calls Tryz.prog 133 #[vp k, vi j] w (Ret (ι := Unit) (fun _ => pqErr (ksignal s j).1) fun _ => kerS k (ksignal s j).2 :: H) :=
 kerOp H k s (fun t m o h => ksignal_walk H k t m o s h j) (fun h => ksignal_ok h j)
theorem krSpawn (hid : s.nx ≤ 1099511627776) (par wt : Int) : ∀ w, Sat w (kerS k s :: H) → Calls Tryz.prog 80 #[vp k, vi par, vi wt] w (Ret (ι := Unit) (fun _ => .tuple #[vi (kspawn s par wt).1.1, pqErr (kspawn s par wt).1.2]) fun _ => kerS k (kspawn s par wt).2 :: H) :=
 kerOp H k s (fun t m o h => kspawn_walk H k t m o s h hid par wt) (fun h => kspawn_ok h par wt)
theorem krGroup (hid : s.nx ≤ 1099511627776) (par wt : Int) : ∀ w, Sat w (kerS k s :: H) → Calls Tryz.prog 129 #[vp k, vi par, vi wt] w (Ret (ι := Unit) (fun _ => .tuple #[vi (kgroup s par wt).1.1, pqErr (kgroup s par wt).1.2]) fun _ => kerS k (kgroup s par wt).2 :: H) :=
 kerOp H k s (fun t m o h => kgroup_walk H k t m o s h hid par wt) (fun h => kgroup_ok h par wt)
theorem krWake (t : Int) : ∀ w, Sat w (kerS k s :: H) → Calls Tryz.prog 28 #[vp k, vi t] w (Ret (ι := Option Addr × Nat) (fun x => .slice x.1 (kwake s t).1.length x.2) fun x => row (kE .i64) 3 (.slice x.1 (kwake s t).1.length x.2) (kwake s t).1 :: kerS k (kwake s t).2 :: H) := fun w hs => by
 obtain ⟨tr, m, o, h1, hs2⟩ := Sat.openKer hs
 exact (kwake_walk H k tr m o s h1 t w hs2).mono fun e w' ⟨x, he, hx⟩ => ⟨x, he, SatF.swap (Sat.closeKer (H := row (kE .i64) 3 (.slice x.1 (kwake s t).1.length x.2) (kwake s t).1 :: H) (kwake_ok h1 t) (Sat.perm (List.perm_middle (a := row (kE .i64) 3 (.slice x.1 (kwake s t).1.length x.2) (kwake s t).1) (l₁ := [_, _, _, _]) (l₂ := H)).symm hx))⟩
theorem kerRow {E : Enc α} {T : TypeId} {L : List α} {f : FuncId} {vs : Array Value} (h : ∀ t m o, KOk s → ∀ w, Sat w (blk k 145 [vp t, vp m, vp o, vi s.mt, vi s.mg, vi s.nx] :: treeS t s.N :: tmS m s.tm :: obsS o s.ob :: H) → Calls Tryz.prog f vs w (Ret (ι := Option Addr × Nat) (fun x => .slice x.1 L.length x.2) fun x => row E T (.slice x.1 L.length x.2) L :: blk k 145 [vp t, vp m, vp o, vi s.mt, vi s.mg, vi s.nx] :: treeS t s.N :: tmS m s.tm :: obsS o s.ob :: H)) : ∀ w, Sat w (kerS k s :: H) → Calls Tryz.prog f vs w (Ret (ι := Option Addr × Nat) (fun x => .slice x.1 L.length x.2) fun x => row E T (.slice x.1 L.length x.2) L :: kerS k s :: H) := fun w hs => by
 obtain ⟨tr, m, o, h1, hs2⟩ := Sat.openKer hs
 exact (h tr m o h1 w hs2).mono fun e w' ⟨x, he, hx⟩ => ⟨x, he, SatF.swap (Sat.closeKer (H := row E T (.slice x.1 L.length x.2) L :: H) h1 (Sat.perm (List.perm_middle (a := row E T (.slice x.1 L.length x.2) L) (l₁ := [_, _, _, _]) (l₂ := H)).symm hx))⟩
theorem krNodes (hid : s.nx ≤ 1099511627776) : ∀ w, Sat w (kerS k s :: H) → Calls Tryz.prog 26 #[vp k] w (Ret (ι := Option Addr × Nat) (fun x => .slice x.1 (nodesN s.N).length x.2) fun x => row nE 147 (.slice x.1 (nodesN s.N).length x.2) (nodesN s.N) :: kerS k s :: H) :=
 kerRow H k s fun t m o h => knodes_walk H k t m o s fun x hx => by have := h.ids x hx; omega
end
end Go.Proofs.YtfhkgohokbkgiaaGreatDoor
set_option linter.unusedVariables false
set_option linter.unusedSimpArgs false
namespace Go.Proofs.YtfhkgohokbkgiaaGreatDoor
open Go.RowKit G
set_option maxRecDepth 100000 in
theorem kweight_walk (H : List SP) (k t m o : Nat) (s : KS) (id W : Int) : ∀ w, Sat w (blk k 145 [vp t, vp m, vp o, vi s.mt, vi s.mg, vi s.nx] :: treeS t s.N :: tmS m s.tm :: obsS o s.ob :: H) → Calls Tryz.prog 134 #[vp k, vi id, vi W] w (Ret (ι := Unit) (fun _ => pqErr (kweight s id W).1) fun _ => blk k 145 [vp t, vp m, vp o, vi (kweight s id W).2.mt, vi (kweight s id W).2.mg, vi (kweight s id W).2.nx] :: treeS t (kweight s id W).2.N :: tmS m (kweight s id W).2.tm :: obsS o (kweight s id W).2.ob :: H) := by
 refine enterG (fn := Tryz.f134) 14 [vp k, vi id, vi W] Tryz.func134 (by kernel_rfl) (by kernel_rfl) (by kernel_rfl) ?_
 refine Xq (Xg 1 (Xe [(0,vp k), (1,vi id), (2,vi W), (6,.nilIface)] ?_ 1))
 refine Xq (Xg 8 (Xl [(6,.nilIface), (10,vp t), (11,vi id), (12,vi W)] [(⟨k, 0, none⟩, vp t)] (hasC (ba 0) has0) ?_ 2 6))
 refine Xs (Xa (some 13) (fun _ => pqErr (weightN s.N id W).1) (chg_at 1 rfl (trWeight _ t s.N id W))) (fun _ => ?_) 1
 refine Xe [(6,pqErr (weightN s.N id W).1)] ?_ 1
 refine Xv (Y0 (pqErr (weightN s.N id W).1) (fun w hs => ?_))
 exact ⟨(), rfl, hs⟩
theorem krWeight (H : List SP) (k : Nat) (s : KS) (id W : Int) : ∀ w, Sat w (kerS k s :: H) → Calls Tryz.prog 134 #[vp k, vi id, vi W] w (Ret (ι := Unit) (fun _ => pqErr (kweight s id W).1) fun _ => kerS k (kweight s id W).2 :: H) :=
 kerOp H k s (fun t m o h => kweight_walk H k t m o s id W) (fun h => kweight_ok h id W)
end Go.Proofs.YtfhkgohokbkgiaaGreatDoor
set_option linter.unusedVariables false
set_option linter.unusedSimpArgs false
namespace Go.Proofs.YtfhkgohokbkgiaaGreatDoor
open Go.RowKit G
/-! ## a part within a part -/
def Lens (S A : SP) (C : SP → SP) : Prop := ∃ R : List SP, (∀ (H : List SP) (w : World), Sat w (S :: H) → Sat w (A :: (R ++ H))) ∧ ∀ (B : SP) (X H : List SP) (w' : World), Sat w' (X ++ B :: (R ++ H)) → Sat w' (X ++ C B :: H)
theorem lensMany {l : List SP} {A : SP} (i : Nat) (hi : l[i]? = some A) : Lens (manyS l) A (fun B => manyS (l.set i B)) := by
  have hil := (List.getElem?_eq_some_iff.1 hi).1
  refine ⟨l.eraseIdx i, fun H w hs => ?_, fun B X H w' h => ?_⟩
  · have := Sat.pick (l := l ++ H) i (by rw [List.getElem?_append_left hil]; exact hi) (Sat.openMany hs)
    rwa [List.eraseIdx_append_of_lt_length hil] at this
  · have e1 : List.Perm (X ++ B :: (l.eraseIdx i ++ H)) (l.set i B ++ (X ++ H)) := by
      have e2 : List.Perm (B :: l.eraseIdx i) (l.set i B) := by
        have e4 : l.set i B = l.take i ++ B :: l.drop (i + 1) := by rw [List.set_eq_take_append_cons_drop, if_pos hil]
        rw [e4, List.eraseIdx_eq_take_drop_succ]
        exact List.perm_middle.symm
      have e3 : List.Perm (X ++ ((B :: l.eraseIdx i) ++ H)) (X ++ (l.set i B ++ H)) := (e2.append_right H).append_left X
      exact e3.trans (by rw [← List.append_assoc, ← List.append_assoc]; exact (List.perm_append_comm.append_right H))
    have h2 := Sat.closeMany (l := l.set i B) (H := X ++ H) (Sat.perm e1 h)
    exact Sat.perm (List.perm_middle (a := manyS (l.set i B)) (l₁ := X) (l₂ := H)).symm h2
theorem Lens.comp {S A B : SP} {C D : SP → SP} (h1 : Lens S A C) (h2 : Lens A B D) : Lens S B (fun Z => C (D Z)) := by
  obtain ⟨R, a1, a2⟩ := h1
  obtain ⟨Q, b1, b2⟩ := h2
  refine ⟨Q ++ R, fun H w hs => by rw [List.append_assoc]; exact b1 _ w (a1 H w hs), fun Z X H w' h => a2 (D Z) X H w' (b2 Z X (R ++ H) w' (by rw [← List.append_assoc Q R H]; exact h))⟩
theorem Sat.right {H : List SP} {w : World} : ∀ {R : List SP}, Sat w (R ++ H) → Sat w H
  | [], h => h
  | _ :: R, h => Sat.right (R := R) h.tail
theorem KC.right {H : List SP} {c : ConfV} (h : KC H c) (R : List SP) : KC (R ++ H) c := h.tails fun _ hs => Sat.right hs
theorem Lens.callH {S A : SP} {C : SP → SP} (hl : Lens S A C) {ι : Type} {P : Program} {f : FuncId} {vs : Array Value} {rv : ι → Value} {X : ι → List SP} {B : ι → SP} {H : List SP} (h : ∀ (R : List SP) (w : World), Sat w (A :: (R ++ H)) → Calls P f vs w (Ret rv fun y => X y ++ B y :: (R ++ H))) :
    ∀ w, Sat w (S :: H) → Calls P f vs w (Ret rv fun y => X y ++ C (B y) :: H) := fun w hs => by
  obtain ⟨R, h1, h2⟩ := hl
  exact (h R w (h1 H w hs)).mono fun e w' ⟨y, he, hx⟩ => ⟨y, he, h2 (B y) (X y) H w' hx⟩
theorem Lens.call {S A : SP} {C : SP → SP} (hl : Lens S A C) {ι : Type} {P : Program} {f : FuncId} {vs : Array Value} {rv : ι → Value} {X : ι → List SP} {B : ι → SP} (h : ∀ (H : List SP) (w : World), Sat w (A :: H) → Calls P f vs w (Ret rv fun y => X y ++ B y :: H)) (H : List SP) :
    ∀ w, Sat w (S :: H) → Calls P f vs w (Ret rv fun y => X y ++ C (B y) :: H) := hl.callH fun R => h (R ++ H)
theorem Lens.here {S A : SP} {C : SP → SP} (hl : Lens S A C) {p : World → Prop} (h : ∀ (H : List SP) (w : World), Sat w (A :: H) → p w) {H : List SP} (j : Nat) (hj : H[j]? = some S) : ∀ w, Sat w H → p w := fun w hs => by
  obtain ⟨R, h1, _⟩ := hl
  exact h _ w (h1 _ w (Sat.pick j hj hs))
/-- A part's part comes out; Y is what stands ahead. -/
theorem PT.lens {S A : SP} {C : SP → SP} {n : Nat} {L : List (Nat × Value)} {H : List SP} {Φ : Act → World → Prop} (Y : List SP) (hl : Lens S A C) (h : ∀ R : List SP, (∀ (B : SP) (X H : List SP) (w' : World), Sat w' (X ++ B :: (R ++ H)) → Sat w' (X ++ C B :: H)) → PT n L (Y ++ A :: (R ++ H)) Φ) : PT n L (Y ++ S :: H) Φ := by
  obtain ⟨R, h1, h2⟩ := hl
  refine PT.sat (fun w hs => ?_) (h R h2)
  have e1 := h1 (Y ++ H) w (Sat.perm (List.perm_middle (a := S) (l₁ := Y) (l₂ := H)) hs)
  refine Sat.perm ?_ e1
  have e2 : List.Perm (R ++ (Y ++ H)) (Y ++ (R ++ H)) := by rw [← List.append_assoc, ← List.append_assoc]; exact List.perm_append_comm.append_right H
  exact (e2.cons A).trans List.perm_middle.symm
/-! ## a side -/
structure SdP where
  b : Nat
  k : Nat
  r : Nat
  x : Nat
  p : Nat
def scE : Enc (Nat ⊕ Int) := ⟨1, by decide, fun | .inl b => [.pointer (some ⟨b, 0, none⟩)] | .inr i => [.int .i64 i], fun a => by cases a <;> rfl, by intro a u hu; cases a <;> (simp at hu; subst hu; rfl)⟩
def sdC (p : SdP) (read : List Int) : List (Nat ⊕ Int) := [.inl p.k, .inl p.r, .inl p.x, .inl p.p] ++ read.map .inr
def SdOk (s : SdS) : Prop := s.read.length = 6 ∧ (0 ≤ s.left ∧ s.left ≤ 8) ∧ (0 ≤ s.all ∧ s.all ≤ 8)
def sdL (p : SdP) (s : SdS) : List SP := [pureS (SdOk s), row scE 120 (.slice (some ⟨p.b, 0, none⟩) 10 10) (sdC p s.read), kerS p.k s.k, rgS p.r s.r, bxS p.x s.b, puS p.p s.left s.all]
def sdS (p : SdP) (s : SdS) : SP := manyS (sdL p s)
/-! ## a world -/
structure WP where
  l : Nat
  t : Nat
  a : Option Addr
  n : Nat
  s : List SdP
def bpE : Enc Nat := ⟨1, by decide, fun b => [.pointer (some ⟨b, 0, none⟩)], fun _ => rfl, by intro a u hu; simp at hu; subst hu; rfl⟩
def sdsL (P : List SdP) (s : List SdS) : List SP := List.zipWith sdS P s
def wdL (wb : Nat) (c : ConfV) (P : WP) (w : WS) : List SP := [blk wb 109 [.int .i64 c.frame, .int .i64 c.epoch, .slice c.plans.a c.plans.l.length c.plans.c, .slice c.domains.a c.domains.l.length c.domains.c, .slice P.a P.s.length P.n, .pointer (some ⟨P.l, 0, none⟩), .pointer (some ⟨P.t, 0, none⟩)], row bpE 110 (.slice P.a P.s.length P.n) (P.s.map (·.b)), ldS P.l w.l, ltS P.t c w.t, manyS (sdsL P.s w.s), pureS (P.s.length = w.s.length ∧ w.s.length = c.domains.l.length ∧ w.s.length ≤ 6)]
def wdS (wb : Nat) (c : ConfV) (P : WP) (w : WS) : SP := manyS (wdL wb c P w)
theorem sdsL_set {P : List SdP} {s : List SdS} {d : Nat} {p : SdP} (hp : P[d]? = some p) (x : SdS) : (sdsL P s).set d (sdS p x) = sdsL P (s.set d x) := by
  unfold sdsL
  apply List.ext_getElem?
  intro i
  rw [List.getElem?_set, List.getElem?_zipWith, List.getElem?_zipWith, List.getElem?_set]
  by_cases c : d = i
  · subst c
    rw [if_pos rfl, if_pos rfl, hp, List.length_zipWith]
    have := (List.getElem?_eq_some_iff.1 hp).1
    by_cases c2 : d < s.length
    · rw [if_pos (by omega), if_pos c2]
    · rw [if_neg (by omega), if_neg c2]
  · rw [if_neg c, if_neg c]
theorem sdsL_get {P : List SdP} {s : List SdS} {d : Nat} {p : SdP} {x : SdS} (hp : P[d]? = some p) (hx : s[d]? = some x) : (sdsL P s)[d]? = some (sdS p x) := by
  unfold sdsL
  rw [List.getElem?_zipWith, hp, hx]
section
variable {wb : Nat} {c : ConfV} {P : WP} {w : WS} {d : Nat} {p : SdP} {x : SdS}
theorem wdSide (hp : P.s[d]? = some p) (hx : w.s[d]? = some x) : Lens (wdS wb c P w) (sdS p x) (fun B => manyS ((wdL wb c P w).set 4 (manyS ((sdsL P.s w.s).set d B)))) :=
  (lensMany (l := wdL wb c P w) 4 rfl).comp (lensMany d (sdsL_get hp hx))
theorem wdSide_set (hp : P.s[d]? = some p) (y : SdS) : manyS ((wdL wb c P w).set 4 (manyS ((sdsL P.s w.s).set d (sdS p y)))) = wdS wb c P (wUp w d y) := by
  rw [sdsL_set hp y]
  show manyS _ = manyS _
  congr 1
  simp only [wdL, wUp, List.length_set, List.set_cons_succ, List.set_cons_zero]
/-- A call on a domain's kernel. -/
theorem wdKer {ι : Type} {Q : Program} {f : FuncId} {vs : Array Value} {rv : ι → Value} {X : ι → List SP} {k' : ι → KS} (hp : P.s[d]? = some p) (hx : w.s[d]? = some x) (h : ∀ (H : List SP) (v : World), Sat v (kerS p.k x.k :: H) → Calls Q f vs v (Ret rv fun y => X y ++ kerS p.k (k' y) :: H)) (H : List SP) :
    ∀ v, Sat v (wdS wb c P w :: H) → Calls Q f vs v (Ret rv fun y => X y ++ wdS wb c P (wUp w d { x with k := k' y }) :: H) := fun v hs =>
  (((wdSide hp hx).comp (lensMany (l := sdL p x) 2 rfl)).call h H v hs).mono fun e v' ⟨y, he, hv⟩ => ⟨y, he, by show Sat v' (X y ++ wdS wb c P (wUp w d _) :: H); rw [← wdSide_set hp]; exact hv⟩
/-- A call on a domain's ring. -/
theorem wdRing {ι : Type} {Q : Program} {f : FuncId} {vs : Array Value} {rv : ι → Value} {X : ι → List SP} {k' : ι → RgS} (hp : P.s[d]? = some p) (hx : w.s[d]? = some x) (h : ∀ (H : List SP) (v : World), Sat v (rgS p.r x.r :: H) → Calls Q f vs v (Ret rv fun y => X y ++ rgS p.r (k' y) :: H)) (H : List SP) :
    ∀ v, Sat v (wdS wb c P w :: H) → Calls Q f vs v (Ret rv fun y => X y ++ wdS wb c P (wUp w d { x with r := k' y }) :: H) := fun v hs =>
  (((wdSide hp hx).comp (lensMany (l := sdL p x) 3 rfl)).call h H v hs).mono fun e v' ⟨y, he, hv⟩ => ⟨y, he, by show Sat v' (X y ++ wdS wb c P (wUp w d _) :: H); rw [← wdSide_set hp]; exact hv⟩
/-- A call on a domain's box. -/
theorem wdBox {ι : Type} {Q : Program} {f : FuncId} {vs : Array Value} {rv : ι → Value} {X : ι → List SP} {k' : ι → BxS} (hp : P.s[d]? = some p) (hx : w.s[d]? = some x) (h : ∀ (H : List SP) (v : World), Sat v (bxS p.x x.b :: H) → Calls Q f vs v (Ret rv fun y => X y ++ bxS p.x (k' y) :: H)) (H : List SP) :
    ∀ v, Sat v (wdS wb c P w :: H) → Calls Q f vs v (Ret rv fun y => X y ++ wdS wb c P (wUp w d { x with b := k' y }) :: H) := fun v hs =>
  (((wdSide hp hx).comp (lensMany (l := sdL p x) 4 rfl)).call h H v hs).mono fun e v' ⟨y, he, hv⟩ => ⟨y, he, by show Sat v' (X y ++ wdS wb c P (wUp w d _) :: H); rw [← wdSide_set hp]; exact hv⟩
/-- A call on a domain's purse. -/
theorem wdPurse {ι : Type} {Q : Program} {f : FuncId} {vs : Array Value} {rv : ι → Value} {l' a' : ι → Int} (hp : P.s[d]? = some p) (hx : w.s[d]? = some x) (hok : ∀ y, SdOk x → SdOk { x with left := l' y, all := a' y }) (h : ∀ (H : List SP) (v : World), Sat v (puS p.p x.left x.all :: H) → Calls Q f vs v (Ret rv fun y => puS p.p (l' y) (a' y) :: H)) (H : List SP) :
    ∀ v, Sat v (wdS wb c P w :: H) → Calls Q f vs v (Ret rv fun y => wdS wb c P (wUp w d { x with left := l' y, all := a' y }) :: H) := fun v hs => by
  have hs0 : SdOk x := ((wdSide hp hx).comp (lensMany (l := sdL p x) 0 rfl)).here (fun H v hs => (Sat.openPure hs).1) (H := wdS wb c P w :: H) 0 rfl v hs
  refine (((wdSide hp hx).comp (lensMany (l := sdL p x) 5 rfl)).call (X := fun _ => []) h H v hs).mono fun e v' ⟨y, he, hv⟩ => ⟨y, he, ?_⟩
  show Sat v' (wdS wb c P (wUp w d _) :: H)
  rw [← wdSide_set hp]
  have e1 : manyS ((sdL p x).set 5 (puS p.p (l' y) (a' y))) = sdS p { x with left := l' y, all := a' y } := by
    show manyS _ = manyS _
    congr 1
    simp only [sdL, List.set_cons_succ, List.set_cons_zero, pureS, hs0, hok y hs0]
  rw [← e1]
  exact hv
/-- A call on the ledger. -/
theorem wdLed {ι : Type} {Q : Program} {f : FuncId} {vs : Array Value} {rv : ι → Value} {l' : ι → List Acc} (h : ∀ (H : List SP) (v : World), Sat v (ldS P.l w.l :: H) → Calls Q f vs v (Ret rv fun y => ldS P.l (l' y) :: H)) (H : List SP) :
    ∀ v, Sat v (wdS wb c P w :: H) → Calls Q f vs v (Ret rv fun y => wdS wb c P { w with l := l' y } :: H) := fun v hs =>
  ((lensMany (l := wdL wb c P w) 2 rfl).call (X := fun _ => []) h H v hs).mono fun e v' ⟨y, he, hv⟩ => ⟨y, he, hv⟩
/-- A call on the latch. -/
theorem wdLat {ι : Type} {Q : Program} {f : FuncId} {vs : Array Value} {rv : ι → Value} {X : ι → List SP} {t' : ι → LtS} {H : List SP} (h : ∀ (R : List SP) (v : World), Sat v (ltS P.t c w.t :: (R ++ H)) → Calls Q f vs v (Ret rv fun y => X y ++ ltS P.t c (t' y) :: (R ++ H))) :
    ∀ v, Sat v (wdS wb c P w :: H) → Calls Q f vs v (Ret rv fun y => X y ++ wdS wb c P { w with t := t' y } :: H) := fun v hs =>
  ((lensMany (l := wdL wb c P w) 3 rfl).callH h v hs).mono fun e v' ⟨y, he, hv⟩ => ⟨y, he, hv⟩
/-- What a world knows of its parts. -/
theorem wd_len (j : Nat) {H : List SP} (hj : H[j]? = some (wdS wb c P w)) : ∀ v, Sat v H → P.s.length = w.s.length ∧ w.s.length = c.domains.l.length ∧ w.s.length ≤ 6 :=
  (lensMany (l := wdL wb c P w) 5 rfl).here (fun H v hs => (Sat.openPure hs).1) j hj
theorem wd_cell (j : Nat) {H : List SP} {i : Nat} {u : Value} (hj : H[j]? = some (wdS wb c P w)) (hu : [Value.int .i64 c.frame, .int .i64 c.epoch, .slice c.plans.a c.plans.l.length c.plans.c, .slice c.domains.a c.domains.l.length c.domains.c, .slice P.a P.s.length P.n, .pointer (some ⟨P.l, 0, none⟩), .pointer (some ⟨P.t, 0, none⟩)][i]? = some u) : ∀ v, Sat v H → v.cell? ⟨wb, i, none⟩ = some u :=
  (lensMany (l := wdL wb c P w) 0 rfl).here (fun H v hs => blkAt (H := _ :: H) 0 rfl (j := i) hu v hs) j hj
theorem wd_row (j : Nat) {H : List SP} (hj : H[j]? = some (wdS wb c P w)) : KR H bpE ⟨P.a, P.n, P.s.map (·.b)⟩ := fun v hs => by
  refine (lensMany (l := wdL wb c P w) 1 rfl).here (p := fun v => Rd bpE v (SV.v ⟨P.a, P.n, P.s.map (·.b)⟩) (P.s.map (·.b))) (fun H v hs => ?_) j hj v hs
  exact rowKRm (H := _ :: H) (A := P.a) (m := P.s.length) (k := P.n) (xs := P.s.map (·.b)) 0 rfl (by simp) v hs
theorem wd_side (j : Nat) {H : List SP} (hp : P.s[d]? = some p) (hx : w.s[d]? = some x) {i : Nat} {z : Nat ⊕ Int} {u : Value} (hj : H[j]? = some (wdS wb c P w)) (hz : (sdC p x.read)[i]? = some z) (hu : (scE.enc z)[0]? = some u) : ∀ v, Sat v H → v.cell? ⟨p.b, 0 + i * 1, none⟩ = some u :=
  ((wdSide hp hx).comp (lensMany (l := sdL p x) 1 rfl)).here (fun H v hs => by
    have hv := rowCell (H := row scE 120 (.slice (some ⟨p.b, 0, none⟩) 10 10) (sdC p x.read) :: H) (E := scE) 0 rfl (J := i) (j := 0) hz hu v hs
    exact hv) j hj
theorem wd_sd (j : Nat) {H : List SP} (hp : P.s[d]? = some p) (hx : w.s[d]? = some x) (hj : H[j]? = some (wdS wb c P w)) : ∀ v, Sat v H → SdOk x :=
  ((wdSide hp hx).comp (lensMany (l := sdL p x) 0 rfl)).here (fun H v hs => (Sat.openPure hs).1) j hj
theorem wd_sides (j : Nat) {H : List SP} {sb so : Nat} (hA : P.a = some ⟨sb, so, none⟩) (hj : H[j]? = some (wdS wb c P w)) : ∀ v, Sat v H → v.cell? ⟨wb, 4, none⟩ = some (.slice (some ⟨sb, so, none⟩) P.s.length P.n) := by
  have := wd_cell j (i := 4) hj rfl
  rwa [hA] at this
theorem wd_ptr (j : Nat) {H : List SP} {sb so : Nat} (hA : P.a = some ⟨sb, so, none⟩) (hp : P.s[d]? = some p) (hj : H[j]? = some (wdS wb c P w)) : ∀ v, Sat v H → v.cell? ⟨sb, so + d * 1, none⟩ = some (.pointer (some ⟨p.b, 0, none⟩)) := fun v hs => by
  have := (wd_row j hj).cell hA (i := d) (j := 0) (x := p.b) (by rw [List.getElem?_map, hp]; rfl) rfl v hs
  exact this
theorem wd_some (j : Nat) {H : List SP} (hp : P.s[d]? = some p) (hj : H[j]? = some (wdS wb c P w)) : ∀ v, Sat v H → ∃ sb so, P.a = some ⟨sb, so, none⟩ := fun v hs =>
  (wd_row j hj).isSome (by intro h0; have := (List.getElem?_eq_some_iff.1 hp).1; have h1 := congrArg List.length h0; simp at h1; rw [h1] at this; simp at this) v hs
theorem wd_get (j : Nat) {H : List SP} (hj : H[j]? = some (wdS wb c P w)) {d : Nat} (hd : d < c.domains.l.length) : ∀ v, Sat v H → ∃ p x, P.s[d]? = some p ∧ w.s[d]? = some x := fun v hs => by
  obtain ⟨h1, h2, _⟩ := wd_len j hj v hs
  exact ⟨_, _, List.getElem?_eq_getElem (by omega), List.getElem?_eq_getElem (by omega)⟩
end
/-! ## a world whose state isn't told -/
def wdAny (wb : Nat) (c : ConfV) (P : WP) : SP := exS fun z : WS => wdS wb c P z
section
variable {wb : Nat} {c : ConfV} {P : WP} {d : Nat} {p : SdP}
theorem any1 {A : SP} {H : List SP} {v : World} {z : WS} (h : Sat v (A :: wdS wb c P z :: H)) : Sat v (A :: wdAny wb c P :: H) := SatF.swap (Sat.closeEx z (SatF.swap h))
theorem any0 {H : List SP} {v : World} {z : WS} (h : Sat v (wdS wb c P z :: H)) : Sat v (wdAny wb c P :: H) := Sat.closeEx z h
theorem wa_here {H : List SP} (j : Nat) (hj : H[j]? = some (wdAny wb c P)) {p : World → Prop} (h : ∀ (z : WS) (H : List SP) (v : World), Sat v (wdS wb c P z :: H) → p v) : ∀ v, Sat v H → p v := fun v hs => by
  obtain ⟨z, h1⟩ := Sat.openEx (Sat.pick j hj hs)
  exact h z _ v h1
theorem wa_cell (j : Nat) {H : List SP} {i : Nat} {u : Value} (hj : H[j]? = some (wdAny wb c P)) (hu : [Value.int .i64 c.frame, .int .i64 c.epoch, .slice c.plans.a c.plans.l.length c.plans.c, .slice c.domains.a c.domains.l.length c.domains.c, .slice P.a P.s.length P.n, .pointer (some ⟨P.l, 0, none⟩), .pointer (some ⟨P.t, 0, none⟩)][i]? = some u) : ∀ v, Sat v H → v.cell? ⟨wb, i, none⟩ = some u :=
  wa_here j hj fun z _ v hs => wd_cell 0 rfl hu v hs
theorem wa_sides (j : Nat) {H : List SP} {sb so : Nat} (hA : P.a = some ⟨sb, so, none⟩) (hj : H[j]? = some (wdAny wb c P)) : ∀ v, Sat v H → v.cell? ⟨wb, 4, none⟩ = some (.slice (some ⟨sb, so, none⟩) P.s.length P.n) :=
  wa_here j hj fun z _ v hs => wd_sides 0 hA rfl v hs
theorem wa_ptr (j : Nat) {H : List SP} {sb so : Nat} (hA : P.a = some ⟨sb, so, none⟩) (hp : P.s[d]? = some p) (hj : H[j]? = some (wdAny wb c P)) : ∀ v, Sat v H → v.cell? ⟨sb, so + d * 1, none⟩ = some (.pointer (some ⟨p.b, 0, none⟩)) :=
  wa_here j hj fun z _ v hs => wd_ptr 0 hA hp rfl v hs
theorem wa_side (j : Nat) {H : List SP} (hp : P.s[d]? = some p) {i b : Nat} (hj : H[j]? = some (wdAny wb c P)) (hz : [p.k, p.r, p.x, p.p][i]? = some b) : ∀ v, Sat v H → v.cell? ⟨p.b, i, none⟩ = some (.pointer (some ⟨b, 0, none⟩)) :=
  wa_here j hj fun z _ v hs => by
    obtain ⟨h1, _⟩ := wd_len 0 rfl v hs
    have hd := (List.getElem?_eq_some_iff.1 hp).1
    have hx : z.s[d]? = some z.s[d] := List.getElem?_eq_getElem (by omega)
    have hi : i < 4 := (List.getElem?_eq_some_iff.1 hz).1
    have h2 := wd_side 0 hp hx (i := i) (z := .inl b) (u := .pointer (some ⟨b, 0, none⟩)) rfl (by
      unfold sdC
      rw [List.getElem?_append_left (by simpa using hi)]
      have : ([p.k, p.r, p.x, p.p].map (Sum.inl : Nat → Nat ⊕ Int))[i]? = some (.inl b) := by rw [List.getElem?_map, hz]; rfl
      exact this) rfl v hs
    rwa [show 0 + i * 1 = i by omega] at h2
end
end Go.Proofs.YtfhkgohokbkgiaaGreatDoor
set_option linter.unusedVariables false
set_option linter.unusedSimpArgs false
namespace Go.Proofs.YtfhkgohokbkgiaaGreatDoor
open Go.RowKit G
set_option maxRecDepth 100000 in
theorem wside_walk (H : List SP) (wb : Nat) (c : ConfV) (P : WP) (z : WS) (d : Nat) (p : SdP) (x : SdS) (hp : P.s[d]? = some p) (hx : z.s[d]? = some x) (hl : P.s.length ≤ 1000) : ∀ v, Sat v (wdS wb c P z :: H) → Calls Tryz.prog 47 #[vp wb, vi d] v (Ret (ι := Unit) (fun _ => .pointer (some ⟨p.b, 0, none⟩)) fun _ => wdS wb c P z :: H) := by
 have hdl := (List.getElem?_eq_some_iff.1 hp).1
 refine enterG (fn := Tryz.f47) 23 [vp wb, vi d] Tryz.func47 (by kernel_rfl) (by kernel_rfl) (by kernel_rfl) ?_
 refine PT.know (wd_some 0 hp rfl) ?_
 rintro ⟨sb, so, hA⟩
 refine Xq (Xg 1 (Xe [(0,vp wb), (1,vi d), (4,.pointer none)] ?_ 1))
 refine Xq (Xq (Xg 11 (Xr [(0,vp wb), (1,vi d), (4,.pointer none), (7,.bool (decide ((d : Int) < 0)))] ?_ 8 3)))
 refine (Xs0 0 8 [(0,vp wb), (1,vi d), (4,.pointer none), (15,.bool ((decide ((d : Int) < 0)) || (decide ((d : Int) ≥ (P.s.length : Int)))))] ?_ ?_ : RT _ _ _ _ _ _ 8 _)
 ·cases hg3 : (decide ((d : Int) < 0)) with
  | true =>
   refine Xe [(0,vp wb), (1,vi d), (4,.pointer none), (15,.bool true)] ?_ 8
   refine Xp [(0,vp wb), (1,vi d), (4,.pointer none), (15,.bool (true || (decide ((d : Int) ≥ (P.s.length : Int)))))] ?_
   exact midR () rfl rfl
  | false =>
   refine Xm [(0,vp wb), (1,vi d), (4,.pointer none), (15,.bool (decide ((d : Int) ≥ (P.s.length : Int))))] [(⟨wb, 4, none⟩, .slice (some ⟨sb, so, none⟩) P.s.length P.n)] (hasC (wd_sides 0 hA rfl) has0) ?_ 8
   refine Xp [(0,vp wb), (1,vi d), (4,.pointer none), (15,.bool (false || (decide ((d : Int) ≥ (P.s.length : Int)))))] ?_
   exact midR () rfl rfl
 refine endR ?_
 rw [show ((decide ((d : Int) < 0)) || (decide ((d : Int) ≥ (P.s.length : Int)))) = false from by simp; omega]
 refine Xc false (fun h => by cases h) (fun _ => ?_)
 refine Xk (Xq (Xg 8 (Xl [(4,.pointer none), (19,.slice (some ⟨sb, so, none⟩) P.s.length P.n), (20,vi d)] [(⟨wb, 4, none⟩, .slice (some ⟨sb, so, none⟩) P.s.length P.n)] (hasC (wd_sides 0 hA rfl) has0) ?_ 3 5)))
 refine Xs (yldS (Xi 107 (.tmp 19) (.tmp 20) sb so P.s.length P.n d 1 110 (d : Int) 21 Tryz.underlying107)) (fun _ => ?_) 2
 refine Xm [(4,.pointer (some ⟨p.b, 0, none⟩))] [(⟨sb, so + d * 1, none⟩, .pointer (some ⟨p.b, 0, none⟩))] (hasC (wd_ptr 0 hA hp rfl) has0) ?_ 2
 refine Xv (Y0 (.pointer (some ⟨p.b, 0, none⟩)) (fun w hs => ?_))
 exact ⟨(), rfl, hs⟩
set_option maxRecDepth 100000 in
theorem wkernel_walk (H : List SP) (wb : Nat) (c : ConfV) (P : WP) (z : WS) (d : Nat) (p : SdP) (x : SdS) (hp : P.s[d]? = some p) (hx : z.s[d]? = some x) (hl : P.s.length ≤ 1000) : ∀ v, Sat v (wdS wb c P z :: H) → Calls Tryz.prog 25 #[vp wb, vi d] v (Ret (ι := Unit) (fun _ => .pointer (some ⟨p.k, 0, none⟩)) fun _ => wdS wb c P z :: H) := by
 refine enterG (fn := Tryz.f25) 15 [vp wb, vi d] Tryz.func25 (by kernel_rfl) (by kernel_rfl) (by kernel_rfl) ?_
 refine Xq (Xg 1 (Xe [(0,vp wb), (1,vi d), (4,.pointer none)] ?_ 1))
 refine Xq (Xg 4 (Xr [(4,.pointer none), (6,vp wb), (7,vi d)] ?_ 2 2))
 refine Xs (Xa (some 8) (fun _ => .pointer (some ⟨p.b, 0, none⟩)) (wside_walk _ wb c P z d p x hp hx hl)) (fun _ => ?_) 1
 refine Xe [(4,.pointer none), (5,.pointer (some ⟨p.b, 0, none⟩))] ?_ 1
 refine Xq (Xq (Xg 2 (Xe [(4,.pointer none), (5,.pointer (some ⟨p.b, 0, none⟩)), (10,.bool false)] ?_ 2)))
 refine Xc false (fun h => by cases h) (fun _ => ?_)
 refine Xk (Xq (Xg 5 (Xm [(4,.pointer (some ⟨p.k, 0, none⟩))] [(⟨p.b, 0, none⟩, .pointer (some ⟨p.k, 0, none⟩))] (hasC (wd_side 0 hp hx (i := 0) rfl rfl rfl) has0) ?_ 5)))
 refine Xv (Y0 (.pointer (some ⟨p.k, 0, none⟩)) (fun w hs => ?_))
 exact ⟨(), rfl, hs⟩
set_option maxRecDepth 100000 in
theorem wrecords_walk (H : List SP) (wb : Nat) (c : ConfV) (P : WP) (z : WS) (d : Nat) (p : SdP) (x : SdS) (hp : P.s[d]? = some p) (hx : z.s[d]? = some x) (hl : P.s.length ≤ 1000) : ∀ v, Sat v (wdS wb c P z :: H) → Calls Tryz.prog 15 #[vp wb, vi d] v (Ret (ι := Option Addr × Nat) (fun q => .slice q.1 x.r.l.length q.2) fun q => row reE 48 (.slice q.1 x.r.l.length q.2) x.r.l :: wdS wb c P z :: H) := by
 have hwx : wUp z d { x with r := x.r } = z := by
  have := (List.getElem?_eq_some_iff.1 hx)
  obtain ⟨h1, h2⟩ := this
  show WS.mk (z.s.set d x) z.l z.t = z
  rw [← h2, List.set_getElem_self]
 have hc := fun H => wdRing (wb := wb) (c := c) (X := fun q : Option Addr × Nat => [row reE 48 (.slice q.1 x.r.l.length q.2) x.r.l]) (k' := fun _ => x.r) hp hx (fun H => rgAll_c H p.r x.r) H
 simp only [hwx, List.cons_append, List.nil_append] at hc
 refine enterG (fn := Tryz.f15) 16 [vp wb, vi d] Tryz.func15 (by kernel_rfl) (by kernel_rfl) (by kernel_rfl) ?_
 refine Xq (Xg 1 (Xe [(0,vp wb), (1,vi d), (4,.slice none 0 0)] ?_ 1))
 refine Xq (Xg 4 (Xr [(4,.slice none 0 0), (6,vp wb), (7,vi d)] ?_ 2 2))
 refine Xs (Xa (some 8) (fun _ => .pointer (some ⟨p.b, 0, none⟩)) (wside_walk _ wb c P z d p x hp hx hl)) (fun _ => ?_) 1
 refine Xe [(4,.slice none 0 0), (5,.pointer (some ⟨p.b, 0, none⟩))] ?_ 1
 refine Xq (Xq (Xg 2 (Xe [(4,.slice none 0 0), (5,.pointer (some ⟨p.b, 0, none⟩)), (10,.bool false)] ?_ 2)))
 refine Xc false (fun h => by cases h) (fun _ => ?_)
 refine Xk (Xq (Xg 6 (Xl [(4,.slice none 0 0), (14,.pointer (some ⟨p.r, 0, none⟩))] [(⟨p.b, 1, none⟩, .pointer (some ⟨p.r, 0, none⟩))] (hasC (wd_side 0 hp hx (i := 1) rfl rfl rfl) has0) ?_ 2 4)))
 refine Xs (Xa (some 15) (fun (q : Option Addr × Nat) => .slice q.1 x.r.l.length q.2) (hc _)) (fun (q : Option Addr × Nat) => ?_) 1
 refine Xe [(4,.slice q.1 x.r.l.length q.2)] ?_ 1
 refine Xv (Y0 (.slice q.1 x.r.l.length q.2) (fun w hs => ?_))
 exact ⟨q, rfl, hs⟩
set_option maxRecDepth 100000 in
theorem wledger_walk (H : List SP) (wb : Nat) (c : ConfV) (P : WP) (z : WS) : ∀ v, Sat v (wdS wb c P z :: H) → Calls Tryz.prog 18 #[vp wb] v (Ret (ι := Unit) (fun _ => .pointer (some ⟨P.l, 0, none⟩)) fun _ => wdS wb c P z :: H) := by
 refine enterG (fn := Tryz.f18) 7 [vp wb] Tryz.func18 (by kernel_rfl) (by kernel_rfl) (by kernel_rfl) ?_
 refine Xq (Xg 1 (Xe [(0,vp wb), (2,.pointer none)] ?_ 1))
 refine Xq (Xg 5 (Xm [(2,.pointer (some ⟨P.l, 0, none⟩))] [(⟨wb, 5, none⟩, .pointer (some ⟨P.l, 0, none⟩))] (hasC (wd_cell 0 (i := 5) rfl rfl) has0) ?_ 5))
 refine Xv (Y0 (.pointer (some ⟨P.l, 0, none⟩)) (fun w hs => ?_))
 exact ⟨(), rfl, hs⟩
set_option maxRecDepth 100000 in
theorem wlatch_walk (H : List SP) (wb : Nat) (c : ConfV) (P : WP) (z : WS) : ∀ v, Sat v (wdS wb c P z :: H) → Calls Tryz.prog 21 #[vp wb] v (Ret (ι := Unit) (fun _ => .pointer (some ⟨P.t, 0, none⟩)) fun _ => wdS wb c P z :: H) := by
 refine enterG (fn := Tryz.f21) 7 [vp wb] Tryz.func21 (by kernel_rfl) (by kernel_rfl) (by kernel_rfl) ?_
 refine Xq (Xg 1 (Xe [(0,vp wb), (2,.pointer none)] ?_ 1))
 refine Xq (Xg 5 (Xm [(2,.pointer (some ⟨P.t, 0, none⟩))] [(⟨wb, 6, none⟩, .pointer (some ⟨P.t, 0, none⟩))] (hasC (wd_cell 0 (i := 6) rfl rfl) has0) ?_ 5))
 refine Xv (Y0 (.pointer (some ⟨P.t, 0, none⟩)) (fun w hs => ?_))
 exact ⟨(), rfl, hs⟩
end Go.Proofs.YtfhkgohokbkgiaaGreatDoor
set_option linter.unusedVariables false
set_option linter.unusedSimpArgs false
namespace Go.Proofs.YtfhkgohokbkgiaaGreatDoor
open Go.RowKit G
set_option maxRecDepth 100000 in
theorem wstat_walk (H : List SP) (wb : Nat) (c : ConfV) (P : WP) (z : WS) (hk : KC H c) (d a : Int) : ∀ v, Sat v (wdS wb c P z :: H) → Calls Tryz.prog 82 #[vp wb, vi d, vi a] v (Ret (ι := Unit) (fun _ => .tuple #[.agg #[vi 0, vi (wStat c z d a).1.1, vi (wStat c z d a).1.2], pqErr (wStat c z d a).2]) fun _ => wdS wb c P z :: H) := by
 have hcl := fun H => wdLed (wb := wb) (c := c) (l' := fun _ => z.l) (fun H => ldClock_c H P.l z.l a) H
 have hac := fun H => wdLed (wb := wb) (c := c) (l' := fun _ => z.l) (fun H => ldAcc_c H P.l z.l a) H
 refine enterG (fn := Tryz.f82) 34 [vp wb, vi d, vi a] Tryz.func82 (by kernel_rfl) (by kernel_rfl) (by kernel_rfl) ?_
 by_cases hf : chkFlow c a d = 0
 ·skip
  have he : wStat c z d a = ((wClock z a, (ldAt z.l a).idle), 0) := by rw [wStat, if_pos hf]
  refine Xq (Xg 2 (Xs (Xn 31 [vi 0, vi 0, vi 0] (some 6) (fun b => vp b)) (fun b1 => ?_) 1))
  refine Xe [(6,vp b1), (0,vp wb), (1,vi d), (2,vi a), (7,.nilIface)] ?_ 1
  refine Xq (Xq (Xg 8 (Xl [(6,vp b1), (0,vp wb), (2,vi a), (7,.nilIface), (12,.agg #[vi c.frame, vi c.epoch, .slice c.plans.a c.plans.l.length c.plans.c, .slice c.domains.a c.domains.l.length c.domains.c]), (13,vi d), (14,vi a)] [(⟨wb, 0, none⟩, vi c.frame), (⟨wb, 1, none⟩, vi c.epoch), (⟨wb, 2, none⟩, .slice c.plans.a c.plans.l.length c.plans.c), (⟨wb, 3, none⟩, .slice c.domains.a c.domains.l.length c.domains.c)] (hasC (up (wd_cell 0 (i := 0) rfl rfl)) (hasC (up (wd_cell 0 (i := 1) rfl rfl)) (hasC (up (wd_cell 0 (i := 2) rfl rfl)) (hasC (up (wd_cell 0 (i := 3) rfl rfl)) has0)))) ?_ 2 6)))
  refine Xs (Xa (some 15) (fun _ => .nilIface) (ckread_ok hk.up.up hf)) (fun _ => ?_) 1
  refine Xe [(6,vp b1), (0,vp wb), (2,vi a), (7,.nilIface), (8,.nilIface)] ?_ 1
  refine Xq (Xg 2 (Xe [(6,vp b1), (0,vp wb), (2,vi a), (7,.nilIface), (8,.nilIface), (17,.bool false)] ?_ 2))
  refine Xc false (fun h => by cases h) (fun _ => ?_)
  refine Xk (Xq (Xy0 0 [14, 15] 16 ?_))
  refine Xt [0, 1, 2, 3, 4, 6, 7, 8, 9, 10] [(6,vp b1), (7,.nilIface), (23,.pointer (some ⟨P.l, 0, none⟩)), (24,vi a), (29,.pointer (some ⟨P.l, 0, none⟩)), (30,vi a)] [(⟨wb, 5, none⟩, .pointer (some ⟨P.l, 0, none⟩)), (⟨wb, 5, none⟩, .pointer (some ⟨P.l, 0, none⟩))] (hasC (wd_cell 1 (i := 5) rfl rfl) (hasC (wd_cell 1 (i := 5) rfl rfl) has0)) ?_
  refine Xo 5 (Xa (some 25) (fun _ => vi ((ldAt z.l a).own + (ldAt z.l a).got)) (chg_at 1 rfl (hcl _))) (fun _ => ?_)
  refine Xo 11 (Xa (some 31) (fun _ => .agg #[vi (ldAt z.l a).own, vi (ldAt z.l a).got, vi (ldAt z.l a).idle, vi (ldAt z.l a).freed]) (chg_at 1 rfl (hac _))) (fun _ => ?_)
  refine Xt [12, 13] [(6,vp b1), (7,.nilIface), (33,.agg #[vi 0, vi ((ldAt z.l a).own + (ldAt z.l a).got), vi ((ldAt z.l a).idle)])] [] has0 ?_
  refine Xo 14 (Xz [(0,vi 0), (1,vi ((ldAt z.l a).own + (ldAt z.l a).got)), (2,vi ((ldAt z.l a).idle))]) (fun _ => ?_)
  refine Xo 15 (calmS (.nilIface) (some 7) (fun _ => by kernel_rfl)) (fun _ => ?_)
  refine Xd (Xv ?_)
  refine doneG (.tuple #[.agg #[.int .i64 0, .int .i64 ((ldAt z.l a).own + (ldAt z.l a).got), .int .i64 ((ldAt z.l a).idle)], .nilIface]) [(⟨b1, 0, none⟩, .int .i64 0), (⟨b1, 1, none⟩, .int .i64 ((ldAt z.l a).own + (ldAt z.l a).got)), (⟨b1, 2, none⟩, .int .i64 ((ldAt z.l a).idle))] (hasC (blkAt (T := 31) (cs := [.int .i64 0, .int .i64 ((ldAt z.l a).own + (ldAt z.l a).got), .int .i64 ((ldAt z.l a).idle)]) 0 rfl rfl) (hasC (blkAt (T := 31) (cs := [.int .i64 0, .int .i64 ((ldAt z.l a).own + (ldAt z.l a).got), .int .i64 ((ldAt z.l a).idle)]) 0 rfl rfl) (hasC (blkAt (T := 31) (cs := [.int .i64 0, .int .i64 ((ldAt z.l a).own + (ldAt z.l a).got), .int .i64 ((ldAt z.l a).idle)]) 0 rfl rfl) has0))) (fun _ => by kernel_rfl) (fun w hs => ?_) .ret (.inr rfl)
  exact ⟨(), by rw [he]; rfl, hs.tail⟩
 ·skip
  have he : wStat c z d a = ((0, 0), chkFlow c a d) := by rw [wStat, if_neg hf]
  refine Xq (Xg 2 (Xs (Xn 31 [vi 0, vi 0, vi 0] (some 6) (fun b => vp b)) (fun b1 => ?_) 1))
  refine Xe [(6,vp b1), (0,vp wb), (1,vi d), (2,vi a), (7,.nilIface)] ?_ 1
  refine Xq (Xq (Xg 8 (Xl [(6,vp b1), (0,vp wb), (2,vi a), (7,.nilIface), (12,.agg #[vi c.frame, vi c.epoch, .slice c.plans.a c.plans.l.length c.plans.c, .slice c.domains.a c.domains.l.length c.domains.c]), (13,vi d), (14,vi a)] [(⟨wb, 0, none⟩, vi c.frame), (⟨wb, 1, none⟩, vi c.epoch), (⟨wb, 2, none⟩, .slice c.plans.a c.plans.l.length c.plans.c), (⟨wb, 3, none⟩, .slice c.domains.a c.domains.l.length c.domains.c)] (hasC (up (wd_cell 0 (i := 0) rfl rfl)) (hasC (up (wd_cell 0 (i := 1) rfl rfl)) (hasC (up (wd_cell 0 (i := 2) rfl rfl)) (hasC (up (wd_cell 0 (i := 3) rfl rfl)) has0)))) ?_ 2 6)))
  refine Xs (Xa (some 15) (fun _ => .iface 126 (vi (chkFlow c a d))) (ckread_no hk.up.up hf)) (fun _ => ?_) 1
  refine Xe [(6,vp b1), (0,vp wb), (2,vi a), (7,.nilIface), (8,.iface 126 (vi (chkFlow c a d)))] ?_ 1
  refine Xq (Xg 2 (Xe [(6,vp b1), (0,vp wb), (2,vi a), (7,.nilIface), (8,.iface 126 (vi (chkFlow c a d))), (17,.bool true)] ?_ 2))
  refine Xc true (fun _ => ?_) (fun h => by cases h)
  refine Xq (Xg 4 (Xr [(6,vp b1), (0,vp wb), (2,vi a), (7,.nilIface), (18,.agg #[vi 0, vi 0, vi 0]), (19,.iface 126 (vi (chkFlow c a d)))] ?_ 2 2))
  refine Xs (Xz [(0,vi 0), (1,vi 0), (2,vi 0)]) (fun _ => ?_) 1
  refine Xe [(6,vp b1), (0,vp wb), (2,vi a), (7,.iface 126 (vi (chkFlow c a d)))] ?_ 1
  refine Xv (thenV ?_)
  refine doneG (.tuple #[.agg #[.int .i64 0, .int .i64 0, .int .i64 0], .iface 126 (.int .i64 (chkFlow c a d))]) [(⟨b1, 0, none⟩, .int .i64 0), (⟨b1, 1, none⟩, .int .i64 0), (⟨b1, 2, none⟩, .int .i64 0)] (hasC (blkAt (T := 31) (cs := [.int .i64 0, .int .i64 0, .int .i64 0]) 0 rfl rfl) (hasC (blkAt (T := 31) (cs := [.int .i64 0, .int .i64 0, .int .i64 0]) 0 rfl rfl) (hasC (blkAt (T := 31) (cs := [.int .i64 0, .int .i64 0, .int .i64 0]) 0 rfl rfl) has0))) (fun _ => by kernel_rfl) (fun w hs => ?_) .ret (.inr rfl)
  exact ⟨(), by rw [he]; simp only [pqErr, if_neg hf], hs.tail⟩
theorem wUp_self {z : WS} {d : Nat} {x : SdS} (hx : z.s[d]? = some x) : wUp z d x = z := by
 obtain ⟨h1, h2⟩ := List.getElem?_eq_some_iff.1 hx
 show WS.mk (z.s.set d x) z.l z.t = z
 rw [← h2, List.set_getElem_self]
theorem sdAt_of {z : WS} {d : Nat} {x : SdS} (hx : z.s[d]? = some x) : sdAt z d = x := by rw [sdAt, List.getD_eq_getElem?_getD, hx]; rfl
set_option maxRecDepth 100000 in
theorem wrecv_walk (H : List SP) (wb : Nat) (c : ConfV) (P : WP) (z : WS) (d : Nat) (p : SdP) (x : SdS) (hp : P.s[d]? = some p) (hx : z.s[d]? = some x) (hl : P.s.length ≤ 1000) : ∀ v, Sat v (wdS wb c P z :: H) → Calls Tryz.prog 85 #[vp wb, vi d] v (Ret (ι := Unit) (fun _ => .tuple #[.agg #[vi 0, vi (wRecv z d).1.1.1, vi (wRecv z d).1.1.2], pqErr (wRecv z d).1.2]) fun _ => wdS wb c P (wRecv z d).2 :: H) := by
 have hdl := (List.getElem?_eq_some_iff.1 hp).1
 have hsd := sdAt_of hx
 have hc := fun H => wdBox (wb := wb) (c := c) (X := fun _ : Unit => []) (k' := fun _ => bxTake x.b) hp hx (fun H => bxTake_c H p.x x.b) H
 simp only [List.nil_append] at hc
 refine enterG (fn := Tryz.f85) 31 [vp wb, vi d] Tryz.func85 (by kernel_rfl) (by kernel_rfl) (by kernel_rfl) ?_
 refine PT.know (wd_some 0 hp rfl) ?_
 rintro ⟨sb, so, hA⟩
 refine Xq (Xg 2 (Xs (Xn 31 [vi 0, vi 0, vi 0] (some 4) (fun b => vp b)) (fun b1 => ?_) 1))
 refine Xe [(4,vp b1), (0,vp wb), (1,vi d), (5,.nilIface)] ?_ 1
 refine Xq (Xg 17 (Xl [(4,vp b1), (5,.nilIface), (12,.slice (some ⟨sb, so, none⟩) P.s.length P.n), (13,vi d)] [(⟨wb, 4, none⟩, .slice (some ⟨sb, so, none⟩) P.s.length P.n)] (hasC (up (wd_sides 0 hA rfl)) has0) ?_ 12 5))
 refine Xs (yldS (Xi 107 (.tmp 12) (.tmp 13) sb so P.s.length P.n d 1 110 (d : Int) 14 Tryz.underlying107)) (fun _ => ?_) 11
 refine Xl [(4,vp b1), (5,.nilIface), (18,.pointer (some ⟨p.x, 0, none⟩))] [(⟨sb, so + d * 1, none⟩, .pointer (some ⟨p.b, 0, none⟩)), (⟨p.b, 2, none⟩, .pointer (some ⟨p.x, 0, none⟩))] (hasC (up (wd_ptr 0 hA hp rfl)) (hasC (up (wd_side 0 hp hx (i := 2) rfl rfl rfl)) has0)) ?_ 7 4
 refine Xs (Xa (some 19) (fun _ => .tuple #[.agg #[vi (bxGet x.b).1.1, vi (bxGet x.b).1.2], .bool (bxGet x.b).2]) (chg_at 1 rfl (hc _))) (fun _ => ?_) 6
 refine Xr [(4,vp b1), (5,.nilIface), (20,.agg #[vi ((bxGet x.b).1.1), vi ((bxGet x.b).1.2)]), (21,.bool ((bxGet x.b).2))] ?_ 3 3
 refine Xs (Xn 254 [vi 0, vi 0] (some 6) (fun b => vp b)) (fun b2 => ?_) 2
 refine Xs (Xz [(0,vi ((bxGet x.b).1.1)), (1,vi ((bxGet x.b).1.2))]) (fun _ => ?_) 1
 refine Xe [(6,vp b2), (4,vp b1), (5,.nilIface), (7,.bool ((bxGet x.b).2))] ?_ 1
 refine Xq (Xq (Xg 2 (Xe [(6,vp b2), (4,vp b1), (5,.nilIface), (23,.bool (!((bxGet x.b).2)))] ?_ 2)))
 cases h1 : ((bxGet x.b).2) with
 | true =>
  have he : wRecv z d = (((bxGet x.b).1, 0), wUp z d { x with b := bxTake x.b }) := by rw [wRecv, hsd, if_pos h1]
  refine Xc false (fun h => by cases h) (fun _ => ?_)
  refine Xk (Xq (Xg 7 (Xl [(4,vp b1), (5,.nilIface), (30,.agg #[vi 0, vi ((bxGet x.b).1.1), vi ((bxGet x.b).1.2)])] [(⟨b2, 0, none⟩, vi ((bxGet x.b).1.1)), (⟨b2, 1, none⟩, vi ((bxGet x.b).1.2))] (hasC (ba 0) (hasC (ba 0) has0)) ?_ 2 5)))
  refine Xh0 ?_ 1 2
  refine Xs (Xz [(0,vi 0), (1,vi ((bxGet x.b).1.1)), (2,vi ((bxGet x.b).1.2))]) (fun _ => ?_) 1
  refine Xe [(4,vp b1), (5,.nilIface)] ?_ 1
  refine Xv ?_
  refine doneG (.tuple #[.agg #[.int .i64 0, .int .i64 ((bxGet x.b).1.1), .int .i64 ((bxGet x.b).1.2)], .nilIface]) [(⟨b1, 0, none⟩, .int .i64 0), (⟨b1, 1, none⟩, .int .i64 ((bxGet x.b).1.1)), (⟨b1, 2, none⟩, .int .i64 ((bxGet x.b).1.2))] (hasC (blkAt (T := 31) (cs := [.int .i64 0, .int .i64 ((bxGet x.b).1.1), .int .i64 ((bxGet x.b).1.2)]) 0 rfl rfl) (hasC (blkAt (T := 31) (cs := [.int .i64 0, .int .i64 ((bxGet x.b).1.1), .int .i64 ((bxGet x.b).1.2)]) 0 rfl rfl) (hasC (blkAt (T := 31) (cs := [.int .i64 0, .int .i64 ((bxGet x.b).1.1), .int .i64 ((bxGet x.b).1.2)]) 0 rfl rfl) has0))) (fun _ => by kernel_rfl) (fun w hs => ?_) .ret (.inr rfl)
  exact ⟨(), by rw [he]; rfl, by rw [he]; exact hs.tail.tail⟩
 | false =>
  have he : wRecv z d = (((0, 0), 13), z) := by rw [wRecv, hsd, if_neg (by rw [h1]; simp)]
  have hnil : x.b.l = [] := by unfold bxGet at h1; split at h1 <;> simp_all
  have hbt : bxTake x.b = x.b := by unfold bxTake; rw [hnil]; cases hb : x.b; rw [hb] at hnil; simp only at hnil; rw [hnil]; rfl
  refine Xc true (fun _ => ?_) (fun h => by cases h)
  refine Xq (Xg 4 (Xr [(6,vp b2), (4,vp b1), (5,.nilIface), (24,.agg #[vi 0, vi 0, vi 0]), (25,.iface 126 (vi 13))] ?_ 2 2))
  refine Xh0 ?_ 1 2
  refine Xs (Xz [(0,vi 0), (1,vi 0), (2,vi 0)]) (fun _ => ?_) 1
  refine Xe [(6,vp b2), (4,vp b1), (5,.iface 126 (vi 13))] ?_ 1
  refine Xv (thenV ?_)
  refine doneG (.tuple #[.agg #[.int .i64 0, .int .i64 0, .int .i64 0], .iface 126 (.int .i64 13)]) [(⟨b1, 0, none⟩, .int .i64 0), (⟨b1, 1, none⟩, .int .i64 0), (⟨b1, 2, none⟩, .int .i64 0)] (hasC (blkAt (T := 31) (cs := [.int .i64 0, .int .i64 0, .int .i64 0]) 0 rfl rfl) (hasC (blkAt (T := 31) (cs := [.int .i64 0, .int .i64 0, .int .i64 0]) 0 rfl rfl) (hasC (blkAt (T := 31) (cs := [.int .i64 0, .int .i64 0, .int .i64 0]) 0 rfl rfl) has0))) (fun _ => by kernel_rfl) (fun w hs => ?_) .ret (.inr rfl)
  exact ⟨(), by rw [he]; rfl, by rw [he]; rw [hbt, show ({ x with b := x.b } : SdS) = x from rfl, wUp_self hx] at hs; exact hs.tail.tail⟩
set_option maxRecDepth 100000 in
theorem wlevel_walk (H : List SP) (wb : Nat) (c : ConfV) (P : WP) (z : WS) (hk : KC H c) (d : Nat) (v : Int) : ∀ w, Sat w (wdS wb c P z :: H) → Calls Tryz.prog 86 #[vp wb, vi d, vi v] w (Ret (ι := Unit) (fun _ => pqErr (wLevel c z d v).1) fun _ => wdS wb c P (wLevel c z d v).2 :: H) := by
 have hc := wdLat (wb := wb) (c := c) (P := P) (w := z) (H := H) (X := fun _ : Unit => []) (t' := fun _ => (ltAskL c z.t d v).2) (fun R => ltAskL_c (R ++ H) P.t c z.t d v (hk.right R))
 simp only [List.nil_append] at hc
 refine enterG (fn := Tryz.f86) 25 [vp wb, vi d, vi v] Tryz.func86 (by kernel_rfl) (by kernel_rfl) (by kernel_rfl) ?_
 by_cases hf : chkLevel c d v = 0
 ·skip
  have he : wLevel c z d v = ((ltAskL c z.t d v).1, { z with t := (ltAskL c z.t d v).2 }) := by rw [wLevel, if_pos hf]
  refine Xq (Xg 1 (Xe [(0,vp wb), (1,vi d), (2,vi v), (6,.nilIface)] ?_ 1))
  refine Xq (Xq (Xg 8 (Xl [(0,vp wb), (1,vi d), (2,vi v), (6,.nilIface), (11,.agg #[vi c.frame, vi c.epoch, .slice c.plans.a c.plans.l.length c.plans.c, .slice c.domains.a c.domains.l.length c.domains.c]), (12,vi d), (13,vi v)] [(⟨wb, 0, none⟩, vi c.frame), (⟨wb, 1, none⟩, vi c.epoch), (⟨wb, 2, none⟩, .slice c.plans.a c.plans.l.length c.plans.c), (⟨wb, 3, none⟩, .slice c.domains.a c.domains.l.length c.domains.c)] (hasC (wd_cell 0 (i := 0) rfl rfl) (hasC (wd_cell 0 (i := 1) rfl rfl) (hasC (wd_cell 0 (i := 2) rfl rfl) (hasC (wd_cell 0 (i := 3) rfl rfl) has0)))) ?_ 2 6)))
  refine Xs (Xa (some 14) (fun _ => .nilIface) (cklevel_ok hk.up hf)) (fun _ => ?_) 1
  refine Xe [(0,vp wb), (1,vi d), (2,vi v), (6,.nilIface), (7,.nilIface)] ?_ 1
  refine Xq (Xg 2 (Xe [(0,vp wb), (1,vi d), (2,vi v), (6,.nilIface), (7,.nilIface), (16,.bool false)] ?_ 2))
  refine Xc false (fun h => by cases h) (fun _ => ?_)
  refine Xk (Xq (Xg 8 (Xl [(6,.nilIface), (21,.pointer (some ⟨P.t, 0, none⟩)), (22,vi d), (23,vi v)] [(⟨wb, 6, none⟩, .pointer (some ⟨P.t, 0, none⟩))] (hasC (wd_cell 0 (i := 6) rfl rfl) has0) ?_ 2 6)))
  refine Xs (Xa (some 24) (fun _ => pqErr (ltAskL c z.t d v).1) (hc)) (fun _ => ?_) 1
  refine Xe [(6,pqErr (ltAskL c z.t d v).1)] ?_ 1
  refine Xv (Y0 (pqErr (ltAskL c z.t d v).1) (fun w hs => ?_))
  exact ⟨(), by rw [he], by rw [he]; exact hs⟩
 ·skip
  have he : wLevel c z d v = (chkLevel c d v, z) := by rw [wLevel, if_neg hf]
  refine Xq (Xg 1 (Xe [(0,vp wb), (1,vi d), (2,vi v), (6,.nilIface)] ?_ 1))
  refine Xq (Xq (Xg 8 (Xl [(0,vp wb), (1,vi d), (2,vi v), (6,.nilIface), (11,.agg #[vi c.frame, vi c.epoch, .slice c.plans.a c.plans.l.length c.plans.c, .slice c.domains.a c.domains.l.length c.domains.c]), (12,vi d), (13,vi v)] [(⟨wb, 0, none⟩, vi c.frame), (⟨wb, 1, none⟩, vi c.epoch), (⟨wb, 2, none⟩, .slice c.plans.a c.plans.l.length c.plans.c), (⟨wb, 3, none⟩, .slice c.domains.a c.domains.l.length c.domains.c)] (hasC (wd_cell 0 (i := 0) rfl rfl) (hasC (wd_cell 0 (i := 1) rfl rfl) (hasC (wd_cell 0 (i := 2) rfl rfl) (hasC (wd_cell 0 (i := 3) rfl rfl) has0)))) ?_ 2 6)))
  refine Xs (Xa (some 14) (fun _ => .iface 126 (vi (chkLevel c d v))) (cklevel_no hk.up hf)) (fun _ => ?_) 1
  refine Xe [(0,vp wb), (1,vi d), (2,vi v), (6,.nilIface), (7,.iface 126 (vi (chkLevel c d v)))] ?_ 1
  refine Xq (Xg 2 (Xe [(0,vp wb), (1,vi d), (2,vi v), (6,.nilIface), (7,.iface 126 (vi (chkLevel c d v))), (16,.bool true)] ?_ 2))
  refine Xc true (fun _ => ?_) (fun h => by cases h)
  refine Xq (Xg 2 (Xe [(0,vp wb), (1,vi d), (2,vi v), (6,.iface 126 (vi (chkLevel c d v)))] ?_ 2))
  refine Xv (thenV (Y0 (.iface 126 (vi (chkLevel c d v))) (fun w hs => ?_)))
  exact ⟨(), by rw [he]; simp only [pqErr, if_neg hf], by rw [he]; exact hs⟩
set_option maxRecDepth 100000 in
theorem wplan_walk (H : List SP) (wb : Nat) (c : ConfV) (P : WP) (z : WS) (hk : KC H c) (hcl : c.domains.l.length ≤ 1000) (d : Nat) (i : Int) : ∀ w, Sat w (wdS wb c P z :: H) → Calls Tryz.prog 87 #[vp wb, vi d, vi i] w (Ret (ι := Unit) (fun _ => pqErr (wPlan c z d i).1) fun _ => wdS wb c P (wPlan c z d i).2 :: H) := by
 have hc := wdLat (wb := wb) (c := c) (P := P) (w := z) (H := H) (X := fun _ : Unit => []) (t' := fun _ => (ltAskP z.t c.plans.l.length i).2) (fun R => ltAskP_c (R ++ H) P.t c z.t i)
 simp only [List.nil_append] at hc
 refine enterG (fn := Tryz.f87) 24 [vp wb, vi d, vi i] Tryz.func87 (by kernel_rfl) (by kernel_rfl) (by kernel_rfl) ?_
 by_cases hf : chkPlan c d i = 0
 ·skip
  have he : wPlan c z d i = ((ltAskP z.t c.plans.l.length i).1, { z with t := (ltAskP z.t c.plans.l.length i).2 }) := by rw [wPlan, if_pos hf]
  refine Xq (Xg 1 (Xe [(0,vp wb), (1,vi d), (2,vi i), (6,.nilIface)] ?_ 1))
  refine Xq (Xq (Xg 8 (Xl [(0,vp wb), (2,vi i), (6,.nilIface), (11,.agg #[vi c.frame, vi c.epoch, .slice c.plans.a c.plans.l.length c.plans.c, .slice c.domains.a c.domains.l.length c.domains.c]), (12,vi d), (13,vi i)] [(⟨wb, 0, none⟩, vi c.frame), (⟨wb, 1, none⟩, vi c.epoch), (⟨wb, 2, none⟩, .slice c.plans.a c.plans.l.length c.plans.c), (⟨wb, 3, none⟩, .slice c.domains.a c.domains.l.length c.domains.c)] (hasC (wd_cell 0 (i := 0) rfl rfl) (hasC (wd_cell 0 (i := 1) rfl rfl) (hasC (wd_cell 0 (i := 2) rfl rfl) (hasC (wd_cell 0 (i := 3) rfl rfl) has0)))) ?_ 2 6)))
  refine Xs (Xa (some 14) (fun _ => .nilIface) (ckplan_ok hk.up hcl hf)) (fun _ => ?_) 1
  refine Xe [(0,vp wb), (2,vi i), (6,.nilIface), (7,.nilIface)] ?_ 1
  refine Xq (Xg 2 (Xe [(0,vp wb), (2,vi i), (6,.nilIface), (7,.nilIface), (16,.bool false)] ?_ 2))
  refine Xc false (fun h => by cases h) (fun _ => ?_)
  refine Xk (Xq (Xg 7 (Xl [(6,.nilIface), (21,.pointer (some ⟨P.t, 0, none⟩)), (22,vi i)] [(⟨wb, 6, none⟩, .pointer (some ⟨P.t, 0, none⟩))] (hasC (wd_cell 0 (i := 6) rfl rfl) has0) ?_ 2 5)))
  refine Xs (Xa (some 23) (fun _ => pqErr (ltAskP z.t c.plans.l.length i).1) (hc)) (fun _ => ?_) 1
  refine Xe [(6,pqErr (ltAskP z.t c.plans.l.length i).1)] ?_ 1
  refine Xv (Y0 (pqErr (ltAskP z.t c.plans.l.length i).1) (fun w hs => ?_))
  exact ⟨(), by rw [he], by rw [he]; exact hs⟩
 ·skip
  have he : wPlan c z d i = (chkPlan c d i, z) := by rw [wPlan, if_neg hf]
  refine Xq (Xg 1 (Xe [(0,vp wb), (1,vi d), (2,vi i), (6,.nilIface)] ?_ 1))
  refine Xq (Xq (Xg 8 (Xl [(0,vp wb), (2,vi i), (6,.nilIface), (11,.agg #[vi c.frame, vi c.epoch, .slice c.plans.a c.plans.l.length c.plans.c, .slice c.domains.a c.domains.l.length c.domains.c]), (12,vi d), (13,vi i)] [(⟨wb, 0, none⟩, vi c.frame), (⟨wb, 1, none⟩, vi c.epoch), (⟨wb, 2, none⟩, .slice c.plans.a c.plans.l.length c.plans.c), (⟨wb, 3, none⟩, .slice c.domains.a c.domains.l.length c.domains.c)] (hasC (wd_cell 0 (i := 0) rfl rfl) (hasC (wd_cell 0 (i := 1) rfl rfl) (hasC (wd_cell 0 (i := 2) rfl rfl) (hasC (wd_cell 0 (i := 3) rfl rfl) has0)))) ?_ 2 6)))
  refine Xs (Xa (some 14) (fun _ => .iface 126 (vi (chkPlan c d i))) (ckplan_no hk.up hcl hf)) (fun _ => ?_) 1
  refine Xe [(0,vp wb), (2,vi i), (6,.nilIface), (7,.iface 126 (vi (chkPlan c d i)))] ?_ 1
  refine Xq (Xg 2 (Xe [(0,vp wb), (2,vi i), (6,.nilIface), (7,.iface 126 (vi (chkPlan c d i))), (16,.bool true)] ?_ 2))
  refine Xc true (fun _ => ?_) (fun h => by cases h)
  refine Xq (Xg 2 (Xe [(0,vp wb), (2,vi i), (6,.iface 126 (vi (chkPlan c d i)))] ?_ 2))
  refine Xv (thenV (Y0 (.iface 126 (vi (chkPlan c d i))) (fun w hs => ?_)))
  exact ⟨(), by rw [he]; simp only [pqErr, if_neg hf], by rw [he]; exact hs⟩
end Go.Proofs.YtfhkgohokbkgiaaGreatDoor
set_option linter.unusedVariables false
set_option linter.unusedSimpArgs false
namespace Go.Proofs.YtfhkgohokbkgiaaGreatDoor
open Go.RowKit G
theorem wd_read {wb : Nat} {c : ConfV} {P : WP} {w : WS} {d : Nat} {p : SdP} {x : SdS} (j : Nat) {H : List SP} (hp : P.s[d]? = some p) (hx : w.s[d]? = some x) {i : Nat} {r : Int} (hr : x.read[i]? = some r) (hj : H[j]? = some (wdS wb c P w)) : ∀ v, Sat v H → v.cell? ⟨p.b, 4 + i * 1, none⟩ = some (.int .i64 r) := by
 have h := wd_side j hp hx (i := 4 + i) (z := .inr r) hj (by unfold sdC; rw [List.getElem?_append_right (by simp)]; simp [hr]) rfl
 rwa [show 0 + (4 + i) * 1 = 4 + i * 1 by omega] at h
theorem chkFlow_is {c : ConfV} {a b : Int} (h : chkFlow c a b = 0) : (∃ i : Nat, a = (i : Int) ∧ i < c.domains.l.length) ∧ ∃ i : Nat, b = (i : Int) ∧ i < c.domains.l.length := by
 unfold chkFlow at h
 split at h
 ·rename_i h1
  have h2 : domIs c a = true ∧ domIs c b = true := by revert h1; cases domIs c a <;> cases domIs c b <;> simp
  obtain ⟨i, y, rfl, hy⟩ := domIs_nat h2.1
  obtain ⟨j, u, rfl, hu⟩ := domIs_nat h2.2
  exact ⟨⟨i, rfl, (List.getElem?_eq_some_iff.1 hy).1⟩, j, rfl, (List.getElem?_eq_some_iff.1 hu).1⟩
 ·omega
theorem sdC_read {p : SdP} {l : List Int} {i : Nat} {v : Int} (h : l[i]? = some v) : (sdC p l)[4 + i]? = some (.inr v) := by
 unfold sdC
 rw [List.getElem?_append_right (by simp)]
 simp [h]
theorem sdC_set (p : SdP) (l : List Int) (i : Nat) (v : Int) : (sdC p l).set (4 + i) (.inr v) = sdC p (l.set i v) := by
 unfold sdC
 rw [List.set_append_right _ _ (by simp)]
 simp
theorem sdL_read {p : SdP} {x : SdS} (hok : SdOk x) (i : Nat) (v : Int) : manyS ((sdL p x).set 1 (row scE 120 (.slice (some ⟨p.b, 0, none⟩) 10 10) (sdC p (x.read.set i v)))) = sdS p { x with read := x.read.set i v } := by
 have hok2 : SdOk { x with read := x.read.set i v } := ⟨by simp only [List.length_set]; exact hok.1, hok.2⟩
 show manyS _ = manyS _
 congr 1
 simp only [sdL, List.set_cons_succ, List.set_cons_zero, pureS, hok, hok2]
set_option maxHeartbeats 1000000 in
set_option maxRecDepth 100000 in
theorem waudit_walk (H : List SP) (wb : Nat) (c : ConfV) (P : WP) (z : WS) (hk : KC H c) (d : Nat) (p : SdP) (x : SdS) (hp : P.s[d]? = some p) (hx : z.s[d]? = some x) (hl : P.s.length ≤ 1000) (a : Int) : ∀ v, Sat v (wdS wb c P z :: H) → Calls Tryz.prog 83 #[vp wb, vi d, vi a] v (Ret (ι := Unit) (fun _ => .tuple #[.agg #[vi 0, vi (wAudit c z d a).1.1.1, vi (wAudit c z d a).1.1.2], pqErr (wAudit c z d a).1.2]) fun _ => wdS wb c P (wAudit c z d a).2 :: H) := by
 have hdl := (List.getElem?_eq_some_iff.1 hp).1
 have hsd := sdAt_of hx
 refine enterG (fn := Tryz.f83) 71 [vp wb, vi d, vi a] Tryz.func83 (by kernel_rfl) (by kernel_rfl) (by kernel_rfl) ?_
 refine PT.know (wd_len 0 rfl) ?_
 rintro ⟨hn1, hn2, hn6⟩
 refine PT.know (wd_sd 0 hp hx rfl) ?_
 intro hok
 have hr6 := hok.1
 by_cases hf : chkFlow c a d = 0
 ·skip
  obtain ⟨⟨i, rfl, hi⟩, _⟩ := chkFlow_is hf
  obtain ⟨q, y, hq, hy⟩ : ∃ q y, P.s[i]? = some q ∧ z.s[i]? = some y := ⟨_, _, List.getElem?_eq_getElem (by omega), List.getElem?_eq_getElem (by omega)⟩
  have hql := (List.getElem?_eq_some_iff.1 hq).1
  obtain ⟨r, hr⟩ : ∃ r, x.read[i]? = some r := ⟨_, List.getElem?_eq_getElem (by omega)⟩
  have hnx : wNext z d i = rgGet y.r (IntKind.i64.wrap (r + 1)) := by rw [wNext, sdAt_of hx, sdAt_of hy, List.getD_eq_getElem?_getD, hr]; rfl
  have he0 : wAudit c z d (i : Int) = if (rgGet y.r (IntKind.i64.wrap (r + 1))).2 = true then ((((rgGet y.r (IntKind.i64.wrap (r + 1))).1.1, IntKind.i64.wrap (IntKind.i64.wrap ((rgGet y.r (IntKind.i64.wrap (r + 1))).1.2.2.1 * 100) + (rgGet y.r (IntKind.i64.wrap (r + 1))).1.2.2.2)), 0), wUp z d { x with read := x.read.set i (rgGet y.r (IntKind.i64.wrap (r + 1))).1.1 }) else (((0, 0), 13), z) := by rw [wAudit, if_pos hf, Int.toNat_natCast, hnx, hsd]
  have hc := fun H => wdRing (wb := wb) (c := c) (X := fun _ : Unit => []) (k' := fun _ => y.r) hq hy (fun H => rgFrom_c H q.r y.r (IntKind.i64.wrap (r + 1))) H
  simp only [List.nil_append, wUp_self hy] at hc
  refine PT.know (wd_some 0 hp rfl) ?_
  rintro ⟨sb, so, hA⟩
  refine Xq (Xg 2 (Xs (Xn 31 [vi 0, vi 0, vi 0] (some 6) (fun b => vp b)) (fun b1 => ?_) 1))
  refine Xe [(6,vp b1), (0,vp wb), (1,vi d), (2,vi i), (7,.nilIface)] ?_ 1
  refine Xq (Xq (Xg 8 (Xl [(6,vp b1), (0,vp wb), (1,vi d), (2,vi i), (7,.nilIface), (15,.agg #[vi c.frame, vi c.epoch, .slice c.plans.a c.plans.l.length c.plans.c, .slice c.domains.a c.domains.l.length c.domains.c]), (16,vi d), (17,vi i)] [(⟨wb, 0, none⟩, vi c.frame), (⟨wb, 1, none⟩, vi c.epoch), (⟨wb, 2, none⟩, .slice c.plans.a c.plans.l.length c.plans.c), (⟨wb, 3, none⟩, .slice c.domains.a c.domains.l.length c.domains.c)] (hasC (up (wd_cell 0 (i := 0) rfl rfl)) (hasC (up (wd_cell 0 (i := 1) rfl rfl)) (hasC (up (wd_cell 0 (i := 2) rfl rfl)) (hasC (up (wd_cell 0 (i := 3) rfl rfl)) has0)))) ?_ 2 6)))
  refine Xs (Xa (some 18) (fun _ => .nilIface) (ckread_ok hk.up.up hf)) (fun _ => ?_) 1
  refine Xe [(6,vp b1), (0,vp wb), (1,vi d), (2,vi i), (7,.nilIface), (8,.nilIface)] ?_ 1
  refine Xq (Xg 2 (Xe [(6,vp b1), (0,vp wb), (1,vi d), (2,vi i), (7,.nilIface), (8,.nilIface), (20,.bool false)] ?_ 2))
  refine Xc false (fun h => by cases h) (fun _ => ?_)
  refine Xk (Xq (Xg 8 (Xl [(6,vp b1), (0,vp wb), (2,vi i), (7,.nilIface), (26,.slice (some ⟨sb, so, none⟩) P.s.length P.n), (27,vi d)] [(⟨wb, 4, none⟩, .slice (some ⟨sb, so, none⟩) P.s.length P.n)] (hasC (up (wd_sides 0 hA rfl)) has0) ?_ 3 5)))
  refine Xs (yldS (Xi 107 (.tmp 26) (.tmp 27) sb so P.s.length P.n d 1 110 (d : Int) 28 Tryz.underlying107)) (fun _ => ?_) 2
  refine Xm [(6,vp b1), (0,vp wb), (2,vi i), (7,.nilIface), (9,.pointer (some ⟨p.b, 0, none⟩))] [(⟨sb, so + d * 1, none⟩, .pointer (some ⟨p.b, 0, none⟩))] (hasC (up (wd_ptr 0 hA hp rfl)) has0) ?_ 2
  refine Xq ?_
  refine joinR (fun (u : Nat × Unit) => [(6, vp b1), (2, vi i), (7, .nilIface), (9, .pointer (some ⟨p.b, 0, none⟩)), (10, .pointer (some ⟨u.1, 0, none⟩)), (11, .bool ((rgGet y.r (IntKind.i64.wrap (r + 1))).2))]) (fun (u : Nat × Unit) => (blk u.1 48 [vi ((rgGet y.r (IntKind.i64.wrap (r + 1))).1.1), vi ((rgGet y.r (IntKind.i64.wrap (r + 1))).1.2.1), vi ((rgGet y.r (IntKind.i64.wrap (r + 1))).1.2.2.1), vi ((rgGet y.r (IntKind.i64.wrap (r + 1))).1.2.2.2)] :: blk b1 31 [vi 0, vi 0, vi 0] :: wdS wb c P z :: H)) ?_ (fun u => ?_)
  ·skip
   refine Xy0 0 [] 24 ?_
   refine Xt [0, 1, 2, 3, 4, 10, 11, 12, 13] [(6,vp b1), (2,vi i), (7,.nilIface), (9,.pointer (some ⟨p.b, 0, none⟩)), (34,.slice (some ⟨sb, so, none⟩) P.s.length P.n), (35,vi i), (42,vi i), (44,.pointer (some ⟨p.b, 4, none⟩))] [(⟨wb, 4, none⟩, .slice (some ⟨sb, so, none⟩) P.s.length P.n)] (hasC (up (wd_sides 0 hA rfl)) has0) ?_
   refine Xu 5 (Xi 107 (.tmp 34) (.tmp 35) sb so P.s.length P.n i 1 110 (i : Int) 36 Tryz.underlying107) ?_
   refine Xt [6, 7, 8, 9] [(6,vp b1), (2,vi i), (7,.nilIface), (9,.pointer (some ⟨p.b, 0, none⟩)), (42,vi i), (44,.pointer (some ⟨p.b, 4, none⟩)), (40,.pointer (some ⟨q.r, 0, none⟩))] [(⟨sb, so + i * 1, none⟩, .pointer (some ⟨q.b, 0, none⟩)), (⟨q.b, 1, none⟩, .pointer (some ⟨q.r, 0, none⟩))] (hasC (up (wd_ptr 0 hA hq rfl)) (hasC (up (wd_side 0 hq hy (i := 1) rfl rfl rfl)) has0)) ?_
   refine Xu 14 (Xj 118 (.tmp 44) (.tmp 42) p.b 4 6 i 1 3 (i : Int) 45 Tryz.underlying118) ?_
   refine Xt [15, 16] [(6,vp b1), (2,vi i), (7,.nilIface), (9,.pointer (some ⟨p.b, 0, none⟩)), (40,.pointer (some ⟨q.r, 0, none⟩)), (47,vi (IntKind.i64.wrap (r + 1)))] [(⟨p.b, 4 + i * 1, none⟩, vi r)] (hasC (up (wd_read 0 hp hx hr rfl)) has0) ?_
   refine Xw 17 21 ?_ ?_
   ·skip
    refine Xh 17 (Xa (some 48) (fun _ => .tuple #[.agg #[vi (rgGet y.r (IntKind.i64.wrap (r + 1))).1.1, vi (rgGet y.r (IntKind.i64.wrap (r + 1))).1.2.1, vi (rgGet y.r (IntKind.i64.wrap (r + 1))).1.2.2.1, vi (rgGet y.r (IntKind.i64.wrap (r + 1))).1.2.2.2], .bool (rgGet y.r (IntKind.i64.wrap (r + 1))).2]) (chg_at 1 rfl (hc _))) (fun _ => ?_)
    refine Xt [18, 19, 20] [(6,vp b1), (2,vi i), (7,.nilIface), (9,.pointer (some ⟨p.b, 0, none⟩)), (49,.agg #[vi ((rgGet y.r (IntKind.i64.wrap (r + 1))).1.1), vi ((rgGet y.r (IntKind.i64.wrap (r + 1))).1.2.1), vi ((rgGet y.r (IntKind.i64.wrap (r + 1))).1.2.2.1), vi ((rgGet y.r (IntKind.i64.wrap (r + 1))).1.2.2.2)]), (50,.bool ((rgGet y.r (IntKind.i64.wrap (r + 1))).2))] [] has0 ?_
    refine Xo 21 (Xn 48 [vi 0, vi 0, vi 0, vi 0] (some 10) (fun b => vp b)) (fun b2 => ?_)
    refine Xo 22 (Xz [(0,vi ((rgGet y.r (IntKind.i64.wrap (r + 1))).1.1)), (1,vi ((rgGet y.r (IntKind.i64.wrap (r + 1))).1.2.1)), (2,vi ((rgGet y.r (IntKind.i64.wrap (r + 1))).1.2.2.1)), (3,vi ((rgGet y.r (IntKind.i64.wrap (r + 1))).1.2.2.2))]) (fun _ => ?_)
    refine Xt [23] [(10,vp b2), (6,vp b1), (2,vi i), (7,.nilIface), (9,.pointer (some ⟨p.b, 0, none⟩)), (11,.bool ((rgGet y.r (IntKind.i64.wrap (r + 1))).2))] [] has0 ?_
    refine Xd (Xp [(6,vp b1), (2,vi i), (7,.nilIface), (9,.pointer (some ⟨p.b, 0, none⟩)), (10,vp b2), (11,.bool ((rgGet y.r (IntKind.i64.wrap (r + 1))).2))] ?_)
    exact midR ((b2, ())) rfl rfl
   ·skip
    refine Xh 21 (Xn 48 [vi 0, vi 0, vi 0, vi 0] (some 10) (fun b => vp b)) (fun b2 => ?_)
    refine Xo 17 (Xa (some 48) (fun _ => .tuple #[.agg #[vi (rgGet y.r (IntKind.i64.wrap (r + 1))).1.1, vi (rgGet y.r (IntKind.i64.wrap (r + 1))).1.2.1, vi (rgGet y.r (IntKind.i64.wrap (r + 1))).1.2.2.1, vi (rgGet y.r (IntKind.i64.wrap (r + 1))).1.2.2.2], .bool (rgGet y.r (IntKind.i64.wrap (r + 1))).2]) (chg_at 2 rfl (hc _))) (fun _ => ?_)
    refine Xt [18, 19, 20] [(10,vp b2), (6,vp b1), (2,vi i), (7,.nilIface), (9,.pointer (some ⟨p.b, 0, none⟩)), (49,.agg #[vi ((rgGet y.r (IntKind.i64.wrap (r + 1))).1.1), vi ((rgGet y.r (IntKind.i64.wrap (r + 1))).1.2.1), vi ((rgGet y.r (IntKind.i64.wrap (r + 1))).1.2.2.1), vi ((rgGet y.r (IntKind.i64.wrap (r + 1))).1.2.2.2)]), (50,.bool ((rgGet y.r (IntKind.i64.wrap (r + 1))).2))] [] has0 ?_
    refine Xo 22 (Xz [(0,vi ((rgGet y.r (IntKind.i64.wrap (r + 1))).1.1)), (1,vi ((rgGet y.r (IntKind.i64.wrap (r + 1))).1.2.1)), (2,vi ((rgGet y.r (IntKind.i64.wrap (r + 1))).1.2.2.1)), (3,vi ((rgGet y.r (IntKind.i64.wrap (r + 1))).1.2.2.2))]) (fun _ => ?_)
    refine Xt [23] [(10,vp b2), (6,vp b1), (2,vi i), (7,.nilIface), (9,.pointer (some ⟨p.b, 0, none⟩)), (11,.bool ((rgGet y.r (IntKind.i64.wrap (r + 1))).2))] [] has0 ?_
    refine Xd (Xp [(6,vp b1), (2,vi i), (7,.nilIface), (9,.pointer (some ⟨p.b, 0, none⟩)), (10,vp b2), (11,.bool ((rgGet y.r (IntKind.i64.wrap (r + 1))).2))] ?_)
    exact midR ((b2, ())) rfl rfl
  obtain ⟨u, _⟩ := u
  dsimp only
  refine Xq (Xq (Xg 2 (Xe [(6,vp b1), (2,vi i), (7,.nilIface), (9,.pointer (some ⟨p.b, 0, none⟩)), (10,vp u), (52,.bool (!((rgGet y.r (IntKind.i64.wrap (r + 1))).2)))] ?_ 2)))
  cases h1 : ((rgGet y.r (IntKind.i64.wrap (r + 1))).2) with
  | true =>
   have he : wAudit c z d (i : Int) = (((((rgGet y.r (IntKind.i64.wrap (r + 1))).1.1, IntKind.i64.wrap (IntKind.i64.wrap ((rgGet y.r (IntKind.i64.wrap (r + 1))).1.2.2.1 * 100) + (rgGet y.r (IntKind.i64.wrap (r + 1))).1.2.2.2)), 0)), wUp z d { x with read := x.read.set i (rgGet y.r (IntKind.i64.wrap (r + 1))).1.1 }) := by rw [he0, if_pos h1]
   refine PT.lens [_, _] ((wdSide hp hx).comp (lensMany (l := sdL p x) 1 rfl)) ?_
   intro R hR
   refine Xc false (fun h => by cases h) (fun _ => ?_)
   refine Xk (Xq (Xy0 0 [7] 8 ?_))
   refine Xt [0, 1, 2, 3, 4, 5] [(6,vp b1), (7,.nilIface), (10,vp u), (56,vi i), (58,vi ((rgGet y.r (IntKind.i64.wrap (r + 1))).1.1)), (60,.pointer (some ⟨p.b, 4, none⟩))] [(⟨u, 0, none⟩, vi ((rgGet y.r (IntKind.i64.wrap (r + 1))).1.1))] (hasC (ba 0) has0) ?_
   refine Xu 6 (Xj 118 (.tmp 60) (.tmp 56) p.b 4 6 i 1 3 (i : Int) 61 Tryz.underlying118) ?_
   refine DT.pick 2 rfl ?_
   refine Xo 7 (setS (E := scE) (J := (4 + i)) (j := 0) (Sum.inr r) (Sum.inr (rgGet y.r (IntKind.i64.wrap (r + 1))).1.1) (.int .i64 ((rgGet y.r (IntKind.i64.wrap (r + 1))).1.1)) ⟨p.b, 4 + i * 1, none⟩ (fun _ => by kernel_rfl) (congrArg (fun k => Addr.mk p.b k none) (by show 4 + i * 1 = 0 + (4 + i) * 1 + 0; omega)) ((sdC_read hr)) (rfl) (by decide)) (fun _ => ?_)
   refine Xd (Xq (Xg 11 (Xl [(6,vp b1), (7,.nilIface), (70,.agg #[vi 0, vi ((rgGet y.r (IntKind.i64.wrap (r + 1))).1.1), vi (IntKind.i64.wrap ((IntKind.i64.wrap (((rgGet y.r (IntKind.i64.wrap (r + 1))).1.2.2.1) * 100)) + ((rgGet y.r (IntKind.i64.wrap (r + 1))).1.2.2.2)))])] [(⟨u, 0, none⟩, vi ((rgGet y.r (IntKind.i64.wrap (r + 1))).1.1)), (⟨u, 2, none⟩, vi ((rgGet y.r (IntKind.i64.wrap (r + 1))).1.2.2.1)), (⟨u, 3, none⟩, vi ((rgGet y.r (IntKind.i64.wrap (r + 1))).1.2.2.2))] (hasC (ba 1) (hasC (ba 1) (hasC (ba 1) has0))) ?_ 2 9)))
   refine Xh0 ?_ 2 2
   refine Xs (Xz [(0,vi 0), (1,vi ((rgGet y.r (IntKind.i64.wrap (r + 1))).1.1)), (2,vi (IntKind.i64.wrap ((IntKind.i64.wrap (((rgGet y.r (IntKind.i64.wrap (r + 1))).1.2.2.1) * 100)) + ((rgGet y.r (IntKind.i64.wrap (r + 1))).1.2.2.2))))]) (fun _ => ?_) 1
   refine Xe [(6,vp b1), (7,.nilIface)] ?_ 1
   refine Xv ?_
   refine doneG (.tuple #[.agg #[.int .i64 0, .int .i64 ((rgGet y.r (IntKind.i64.wrap (r + 1))).1.1), .int .i64 (IntKind.i64.wrap ((IntKind.i64.wrap (((rgGet y.r (IntKind.i64.wrap (r + 1))).1.2.2.1) * 100)) + ((rgGet y.r (IntKind.i64.wrap (r + 1))).1.2.2.2)))], .nilIface]) [(⟨b1, 0, none⟩, .int .i64 0), (⟨b1, 1, none⟩, .int .i64 ((rgGet y.r (IntKind.i64.wrap (r + 1))).1.1)), (⟨b1, 2, none⟩, .int .i64 (IntKind.i64.wrap ((IntKind.i64.wrap (((rgGet y.r (IntKind.i64.wrap (r + 1))).1.2.2.1) * 100)) + ((rgGet y.r (IntKind.i64.wrap (r + 1))).1.2.2.2))))] (hasC (blkAt (T := 31) (cs := [.int .i64 0, .int .i64 ((rgGet y.r (IntKind.i64.wrap (r + 1))).1.1), .int .i64 (IntKind.i64.wrap ((IntKind.i64.wrap (((rgGet y.r (IntKind.i64.wrap (r + 1))).1.2.2.1) * 100)) + ((rgGet y.r (IntKind.i64.wrap (r + 1))).1.2.2.2)))]) 0 rfl rfl) (hasC (blkAt (T := 31) (cs := [.int .i64 0, .int .i64 ((rgGet y.r (IntKind.i64.wrap (r + 1))).1.1), .int .i64 (IntKind.i64.wrap ((IntKind.i64.wrap (((rgGet y.r (IntKind.i64.wrap (r + 1))).1.2.2.1) * 100)) + ((rgGet y.r (IntKind.i64.wrap (r + 1))).1.2.2.2)))]) 0 rfl rfl) (hasC (blkAt (T := 31) (cs := [.int .i64 0, .int .i64 ((rgGet y.r (IntKind.i64.wrap (r + 1))).1.1), .int .i64 (IntKind.i64.wrap ((IntKind.i64.wrap (((rgGet y.r (IntKind.i64.wrap (r + 1))).1.2.2.1) * 100)) + ((rgGet y.r (IntKind.i64.wrap (r + 1))).1.2.2.2)))]) 0 rfl rfl) has0))) (fun _ => by kernel_rfl) (fun w hs => ?_) .ret (.inr rfl)
   exact ⟨(), by rw [he]; rfl, by rw [he, ← wdSide_set hp, ← sdL_read hok i]; rw [sdC_set] at hs; exact hR _ [] H _ (Sat.erase 1 rfl (Sat.tail hs))⟩
  | false =>
   have he : wAudit c z d (i : Int) = (((0, 0), 13), z) := by rw [he0, if_neg (by rw [h1]; simp)]
   refine Xc true (fun _ => ?_) (fun h => by cases h)
   refine Xq (Xg 4 (Xr [(6,vp b1), (2,vi i), (7,.nilIface), (9,.pointer (some ⟨p.b, 0, none⟩)), (10,vp u), (53,.agg #[vi 0, vi 0, vi 0]), (54,.iface 126 (vi 13))] ?_ 2 2))
   refine Xh0 ?_ 1 2
   refine Xs (Xz [(0,vi 0), (1,vi 0), (2,vi 0)]) (fun _ => ?_) 1
   refine Xe [(6,vp b1), (2,vi i), (7,.iface 126 (vi 13)), (9,.pointer (some ⟨p.b, 0, none⟩)), (10,vp u)] ?_ 1
   refine Xv (thenV ?_)
   refine doneG (.tuple #[.agg #[.int .i64 0, .int .i64 0, .int .i64 0], .iface 126 (.int .i64 13)]) [(⟨b1, 0, none⟩, .int .i64 0), (⟨b1, 1, none⟩, .int .i64 0), (⟨b1, 2, none⟩, .int .i64 0)] (hasC (blkAt (T := 31) (cs := [.int .i64 0, .int .i64 0, .int .i64 0]) 0 rfl rfl) (hasC (blkAt (T := 31) (cs := [.int .i64 0, .int .i64 0, .int .i64 0]) 0 rfl rfl) (hasC (blkAt (T := 31) (cs := [.int .i64 0, .int .i64 0, .int .i64 0]) 0 rfl rfl) has0))) (fun _ => by kernel_rfl) (fun w hs => ?_) .ret (.inr rfl)
   exact ⟨(), by rw [he]; rfl, by rw [he]; exact hs.tail.tail⟩
 ·skip
  have he : wAudit c z d a = (((0, 0), chkFlow c a d), z) := by rw [wAudit, if_neg hf]
  refine Xq (Xg 2 (Xs (Xn 31 [vi 0, vi 0, vi 0] (some 6) (fun b => vp b)) (fun b1 => ?_) 1))
  refine Xe [(6,vp b1), (0,vp wb), (1,vi d), (2,vi a), (7,.nilIface)] ?_ 1
  refine Xq (Xq (Xg 8 (Xl [(6,vp b1), (0,vp wb), (1,vi d), (2,vi a), (7,.nilIface), (15,.agg #[vi c.frame, vi c.epoch, .slice c.plans.a c.plans.l.length c.plans.c, .slice c.domains.a c.domains.l.length c.domains.c]), (16,vi d), (17,vi a)] [(⟨wb, 0, none⟩, vi c.frame), (⟨wb, 1, none⟩, vi c.epoch), (⟨wb, 2, none⟩, .slice c.plans.a c.plans.l.length c.plans.c), (⟨wb, 3, none⟩, .slice c.domains.a c.domains.l.length c.domains.c)] (hasC (up (wd_cell 0 (i := 0) rfl rfl)) (hasC (up (wd_cell 0 (i := 1) rfl rfl)) (hasC (up (wd_cell 0 (i := 2) rfl rfl)) (hasC (up (wd_cell 0 (i := 3) rfl rfl)) has0)))) ?_ 2 6)))
  refine Xs (Xa (some 18) (fun _ => .iface 126 (vi (chkFlow c a (d : Int)))) (ckread_no hk.up.up hf)) (fun _ => ?_) 1
  refine Xe [(6,vp b1), (0,vp wb), (1,vi d), (2,vi a), (7,.nilIface), (8,.iface 126 (vi (chkFlow c a (d : Int))))] ?_ 1
  refine Xq (Xg 2 (Xe [(6,vp b1), (0,vp wb), (1,vi d), (2,vi a), (7,.nilIface), (8,.iface 126 (vi (chkFlow c a (d : Int)))), (20,.bool true)] ?_ 2))
  refine Xc true (fun _ => ?_) (fun h => by cases h)
  refine Xq (Xg 4 (Xr [(6,vp b1), (0,vp wb), (1,vi d), (2,vi a), (7,.nilIface), (21,.agg #[vi 0, vi 0, vi 0]), (22,.iface 126 (vi (chkFlow c a (d : Int))))] ?_ 2 2))
  refine Xs (Xz [(0,vi 0), (1,vi 0), (2,vi 0)]) (fun _ => ?_) 1
  refine Xe [(6,vp b1), (0,vp wb), (1,vi d), (2,vi a), (7,.iface 126 (vi (chkFlow c a (d : Int))))] ?_ 1
  refine Xv (thenV ?_)
  refine doneG (.tuple #[.agg #[.int .i64 0, .int .i64 0, .int .i64 0], .iface 126 (.int .i64 (chkFlow c a (d : Int)))]) [(⟨b1, 0, none⟩, .int .i64 0), (⟨b1, 1, none⟩, .int .i64 0), (⟨b1, 2, none⟩, .int .i64 0)] (hasC (blkAt (T := 31) (cs := [.int .i64 0, .int .i64 0, .int .i64 0]) 0 rfl rfl) (hasC (blkAt (T := 31) (cs := [.int .i64 0, .int .i64 0, .int .i64 0]) 0 rfl rfl) (hasC (blkAt (T := 31) (cs := [.int .i64 0, .int .i64 0, .int .i64 0]) 0 rfl rfl) has0))) (fun _ => by kernel_rfl) (fun w hs => ?_) .ret (.inr rfl)
  exact ⟨(), by rw [he]; simp only [pqErr, if_neg hf], by rw [he]; exact hs.tail⟩
theorem wsend_pay {z : WS} {d : Nat} {x : SdS} (hx : z.s[d]? = some x) (hn : x.left ≠ 0) : wPay z d = wUp z d { x with left := if x.left = 0 then x.left else x.left - 1, all := x.all } := by
 rw [wPay, sdAt_of hx, if_neg hn]
set_option maxHeartbeats 1000000 in
set_option maxRecDepth 100000 in
theorem wsend_walk (H : List SP) (wb : Nat) (c : ConfV) (P : WP) (z : WS) (hk : KC H c) (hb : ∀ y ∈ z.s, y.b.l.length < 100000) (d : Nat) (p : SdP) (x : SdS) (hp : P.s[d]? = some p) (hx : z.s[d]? = some x) (hl : P.s.length ≤ 1000) (a b : Int) : ∀ v, Sat v (wdS wb c P z :: H) → Calls Tryz.prog 84 #[vp wb, vi d, vi a, vi b] v (Ret (ι := Unit) (fun _ => pqErr (wSend c z d a b).1) fun _ => wdS wb c P (wSend c z d a b).2 :: H) := by
 have hdl := (List.getElem?_eq_some_iff.1 hp).1
 have hsd := sdAt_of hx
 refine enterG (fn := Tryz.f84) 47 [vp wb, vi d, vi a, vi b] Tryz.func84 (by kernel_rfl) (by kernel_rfl) (by kernel_rfl) ?_
 refine PT.know (wd_len 0 rfl) ?_
 rintro ⟨hn1, hn2, hn6⟩
 refine PT.know (wd_sd 0 hp hx rfl) ?_
 intro hok
 by_cases hf : chkFlow c d a = 0
 ·skip
  obtain ⟨_, i, rfl, hi⟩ := chkFlow_is hf
  obtain ⟨q, y0, hq, hy0⟩ : ∃ q y, P.s[i]? = some q ∧ z.s[i]? = some y := ⟨_, _, List.getElem?_eq_getElem (by omega), List.getElem?_eq_getElem (by omega)⟩
  have hql := (List.getElem?_eq_some_iff.1 hq).1
  have hpu := fun H => wdPurse (wb := wb) (c := c) (P := P) (w := z) (ι := Unit) (l' := fun _ => if x.left = 0 then x.left else x.left - 1) (a' := fun _ => x.all) hp hx (fun _ h => ⟨h.1, by obtain ⟨_, h2, _⟩ := h; show 0 ≤ (if x.left = 0 then x.left else x.left - 1) ∧ (if x.left = 0 then x.left else x.left - 1) ≤ 8; split <;> omega, h.2.2⟩) (fun H => puspend_walk H p.p x.left x.all (by obtain ⟨_, h2, _⟩ := hok; omega)) H
  refine PT.know (wd_some 0 hp rfl) ?_
  rintro ⟨sb, so, hA⟩
  refine Xq (Xg 1 (Xe [(0,vp wb), (1,vi d), (2,vi i), (3,vi b), (8,.nilIface)] ?_ 1))
  refine Xq (Xq (Xg 8 (Xl [(0,vp wb), (1,vi d), (2,vi i), (3,vi b), (8,.nilIface), (13,.agg #[vi c.frame, vi c.epoch, .slice c.plans.a c.plans.l.length c.plans.c, .slice c.domains.a c.domains.l.length c.domains.c]), (14,vi d), (15,vi i)] [(⟨wb, 0, none⟩, vi c.frame), (⟨wb, 1, none⟩, vi c.epoch), (⟨wb, 2, none⟩, .slice c.plans.a c.plans.l.length c.plans.c), (⟨wb, 3, none⟩, .slice c.domains.a c.domains.l.length c.domains.c)] (hasC (wd_cell 0 (i := 0) rfl rfl) (hasC (wd_cell 0 (i := 1) rfl rfl) (hasC (wd_cell 0 (i := 2) rfl rfl) (hasC (wd_cell 0 (i := 3) rfl rfl) has0)))) ?_ 2 6)))
  refine Xs (Xa (some 16) (fun _ => .nilIface) (cksend_ok hk.up hf)) (fun _ => ?_) 1
  refine Xe [(0,vp wb), (1,vi d), (2,vi i), (3,vi b), (8,.nilIface), (9,.nilIface)] ?_ 1
  refine Xq (Xg 2 (Xe [(0,vp wb), (1,vi d), (2,vi i), (3,vi b), (8,.nilIface), (9,.nilIface), (18,.bool false)] ?_ 2))
  refine Xc false (fun h => by cases h) (fun _ => ?_)
  refine Xk (Xq (Xq (Xg 12 (Xl [(0,vp wb), (1,vi d), (2,vi i), (3,vi b), (8,.nilIface), (23,.slice (some ⟨sb, so, none⟩) P.s.length P.n), (24,vi d)] [(⟨wb, 4, none⟩, .slice (some ⟨sb, so, none⟩) P.s.length P.n)] (hasC (wd_sides 0 hA rfl) has0) ?_ 7 5))))
  refine Xs (yldS (Xi 107 (.tmp 23) (.tmp 24) sb so P.s.length P.n d 1 110 (d : Int) 25 Tryz.underlying107)) (fun _ => ?_) 6
  refine Xl [(0,vp wb), (1,vi d), (2,vi i), (3,vi b), (8,.nilIface), (29,.pointer (some ⟨p.p, 0, none⟩))] [(⟨sb, so + d * 1, none⟩, .pointer (some ⟨p.b, 0, none⟩)), (⟨p.b, 3, none⟩, .pointer (some ⟨p.p, 0, none⟩))] (hasC (wd_ptr 0 hA hp rfl) (hasC (wd_side 0 hp hx (i := 3) rfl rfl rfl) has0)) ?_ 2 4
  by_cases h0 : x.left = 0
  ·skip
   have he : wSend c z d (i : Int) b = (14, z) := by rw [wSend, if_pos hf, hsd, if_pos h0]
   have hpu0 : ∀ v, Sat v (wdS wb c P z :: H) → Calls Tryz.prog 122 #[.pointer (some ⟨p.p, 0, none⟩)] v (Ret (ι := Unit) (fun _ => .bool false) fun _ => wdS wb c P z :: H) := by
    have := hpu H
    simp only [h0, if_true, show ((0 : Int) == 0) = true from rfl, Bool.not_true] at this
    rw [show ({ x with left := 0, all := x.all } : SdS) = x by rw [← h0], wUp_self hx] at this
    exact this
   refine Xs (Xa (some 30) (fun _ => .bool false) (hpu0)) (fun _ => ?_) 1
   refine Xe [(0,vp wb), (1,vi d), (2,vi i), (3,vi b), (8,.nilIface), (31,.bool true)] ?_ 1
   refine Xc true (fun _ => ?_) (fun h => by cases h)
   refine Xq (Xg 2 (Xe [(0,vp wb), (1,vi d), (2,vi i), (3,vi b), (8,.iface 126 (vi 14))] ?_ 2))
   refine Xv (thenV (Y0 (.iface 126 (vi 14)) (fun w hs => ?_)))
   exact ⟨(), by rw [he]; rfl, by rw [he]; exact hs⟩
  ·skip
   have hz1 := wsend_pay hx h0
   have he : wSend c z d (i : Int) b = (0, wPut (wPay z d) d i b) := by rw [wSend, if_pos hf, hsd, if_neg h0, Int.toNat_natCast]
   have hpu1 : ∀ v, Sat v (wdS wb c P z :: H) → Calls Tryz.prog 122 #[.pointer (some ⟨p.p, 0, none⟩)] v (Ret (ι := Unit) (fun _ => .bool true) fun _ => wdS wb c P (wPay z d) :: H) := by
    have := hpu H
    rw [hz1]
    simp only [show (x.left == 0) = false from beq_eq_false_iff_ne.2 h0, Bool.not_false] at this
    exact this
   obtain ⟨y, hy, hyb⟩ : ∃ y, (wPay z d).s[i]? = some y ∧ y.b.l.length < 100000 := by
    rw [wPay, wUp, hsd]
    by_cases hdi : d = i
    ·subst hdi
     exact ⟨{ x with left := x.left - 1 }, by rw [List.getElem?_set_self (by omega)], hb x (List.mem_of_getElem? hx)⟩
    ·exact ⟨y0, by rw [List.getElem?_set_ne hdi]; exact hy0, hb y0 (List.mem_of_getElem? hy0)⟩
   have hpt := wdBox (wb := wb) (c := c) (X := fun _ : Unit => []) (k' := fun _ => bxPut y.b d b) hq hy (fun H => bxPut_c H q.x y.b d b hyb) H
   simp only [List.nil_append] at hpt
   refine Xs (Xa (some 30) (fun _ => .bool true) (hpu1)) (fun _ => ?_) 1
   refine Xe [(0,vp wb), (1,vi d), (2,vi i), (3,vi b), (8,.nilIface), (31,.bool false)] ?_ 1
   refine Xc false (fun h => by cases h) (fun _ => ?_)
   refine Xk (Xq (Xg 14 (Xl [(1,vi d), (3,vi b), (8,.nilIface), (36,.slice (some ⟨sb, so, none⟩) P.s.length P.n), (37,vi i)] [(⟨wb, 4, none⟩, .slice (some ⟨sb, so, none⟩) P.s.length P.n)] (hasC (wd_sides 0 hA rfl) has0) ?_ 9 5)))
   refine Xs (yldS (Xi 107 (.tmp 36) (.tmp 37) sb so P.s.length P.n i 1 110 (i : Int) 38 Tryz.underlying107)) (fun _ => ?_) 8
   refine Xl [(8,.nilIface), (42,.pointer (some ⟨q.x, 0, none⟩)), (45,.agg #[vi d, vi b])] [(⟨sb, so + i * 1, none⟩, .pointer (some ⟨q.b, 0, none⟩)), (⟨q.b, 2, none⟩, .pointer (some ⟨q.x, 0, none⟩))] (hasC (wd_ptr 0 hA hq rfl) (hasC (wd_side 0 hq hy (i := 2) rfl rfl rfl) has0)) ?_ 1 7
   refine Xs (Xa (some 46) (fun _ => .bool (!decide (y.b.room ≤ bxCnt y.b d))) (hpt)) (fun _ => ?_) 0
   refine endR ?_
   refine Xq (Xg 1 (Xe [(8,.nilIface)] ?_ 1))
   refine Xv (Y0 (.nilIface) (fun w hs => ?_))
   exact ⟨(), by rw [he]; rfl, by rw [he, wPut, sdAt_of hy]; exact hs⟩
 ·skip
  have he : wSend c z d a b = (chkFlow c d a, z) := by rw [wSend, if_neg hf]
  refine Xq (Xg 1 (Xe [(0,vp wb), (1,vi d), (2,vi a), (3,vi b), (8,.nilIface)] ?_ 1))
  refine Xq (Xq (Xg 8 (Xl [(0,vp wb), (1,vi d), (2,vi a), (3,vi b), (8,.nilIface), (13,.agg #[vi c.frame, vi c.epoch, .slice c.plans.a c.plans.l.length c.plans.c, .slice c.domains.a c.domains.l.length c.domains.c]), (14,vi d), (15,vi a)] [(⟨wb, 0, none⟩, vi c.frame), (⟨wb, 1, none⟩, vi c.epoch), (⟨wb, 2, none⟩, .slice c.plans.a c.plans.l.length c.plans.c), (⟨wb, 3, none⟩, .slice c.domains.a c.domains.l.length c.domains.c)] (hasC (wd_cell 0 (i := 0) rfl rfl) (hasC (wd_cell 0 (i := 1) rfl rfl) (hasC (wd_cell 0 (i := 2) rfl rfl) (hasC (wd_cell 0 (i := 3) rfl rfl) has0)))) ?_ 2 6)))
  refine Xs (Xa (some 16) (fun _ => .iface 126 (vi (chkFlow c (d : Int) a))) (cksend_no hk.up hf)) (fun _ => ?_) 1
  refine Xe [(0,vp wb), (1,vi d), (2,vi a), (3,vi b), (8,.nilIface), (9,.iface 126 (vi (chkFlow c (d : Int) a)))] ?_ 1
  refine Xq (Xg 2 (Xe [(0,vp wb), (1,vi d), (2,vi a), (3,vi b), (8,.nilIface), (9,.iface 126 (vi (chkFlow c (d : Int) a))), (18,.bool true)] ?_ 2))
  refine Xc true (fun _ => ?_) (fun h => by cases h)
  refine Xq (Xg 2 (Xe [(0,vp wb), (1,vi d), (2,vi a), (3,vi b), (8,.iface 126 (vi (chkFlow c (d : Int) a)))] ?_ 2))
  refine Xv (thenV (Y0 (.iface 126 (vi (chkFlow c (d : Int) a))) (fun w hs => ?_)))
  exact ⟨(), by rw [he]; simp only [pqErr, if_neg hf], by rw [he]; exact hs⟩
end Go.Proofs.YtfhkgohokbkgiaaGreatDoor
set_option linter.unusedVariables false
set_option linter.unusedSimpArgs false
namespace Go.Proofs.YtfhkgohokbkgiaaGreatDoor
open Go.RowKit G
set_option maxHeartbeats 2000000 in
set_option maxRecDepth 100000 in
theorem wthreads_walk (H : List SP) (k : Nat) (s : KS) (hid : s.nx ≤ 1099511627776) (tick th op a b : Int) : ∀ v, Sat v (kerS k s :: H) → Calls Tryz.prog 88 #[vp k, vi tick, vi th, .agg #[vi op, vi a, vi b]] v (Ret (ι := Unit) (fun _ => .tuple #[.agg #[vi 0, vi (kAct s tick th op a b).1.1, vi 0], pqErr (kAct s tick th op a b).1.2]) fun _ => kerS k (kAct s tick th op a b).2 :: H) := by
 refine enterG (fn := Tryz.f88) 90 [vp k, vi tick, vi th, .agg #[vi op, vi a, vi b]] Tryz.func88 (by kernel_rfl) (by kernel_rfl) (by kernel_rfl) ?_
 refine Xq (Xg 3 (Xs (Xn 35 [vi op, vi a, vi b] (some 7) (fun b => vp b)) (fun b1 => ?_) 2))
 refine Xs (Xn 31 [vi 0, vi 0, vi 0] (some 8) (fun b => vp b)) (fun b2 => ?_) 1
 refine Xe [(8,vp b2), (7,vp b1), (0,vp k), (1,vi tick), (2,vi th), (9,.nilIface)] ?_ 1
 refine Xq (Xg 1 (Xs (Xn 31 [vi 0, vi 0, vi 0] (some 10) (fun b => vp b)) (fun b3 => ?_) 0))
 refine endR ?_
 refine Xq (Xg 1 (Xe [(10,vp b3), (8,vp b2), (7,vp b1), (0,vp k), (1,vi tick), (2,vi th), (9,.nilIface), (11,.nilIface)] ?_ 1))
 refine Xq (Xq (Xg 2 (Xm [(10,vp b3), (8,vp b2), (7,vp b1), (0,vp k), (1,vi tick), (2,vi th), (9,.nilIface), (11,.nilIface), (15,vi op)] [(⟨b1, 0, none⟩, vi op)] (hasC (ba 2) has0) ?_ 2)))
 refine Xb 0 (Xq (Xg 2 (Xe [(10,vp b3), (8,vp b2), (7,vp b1), (0,vp k), (1,vi tick), (2,vi th), (9,.nilIface), (11,.nilIface), (15,vi op), (17,.bool (op == 1))] ?_ 2)))
 refine Xc (op == 1) (fun h1 => ?_) (fun h1 => ?_)
 ·skip
  have he : kAct s tick th op a b = (((kspawn s a b).1.1, (kspawn s a b).1.2), (kspawn s a b).2) := by rw [eq_of_beq h1] <;> rfl
  refine Xg 12 (Xl [(10,vp b3), (8,vp b2), (9,.nilIface), (11,.nilIface), (20,vp k), (22,vi a), (24,vi b)] [(⟨b1, 1, none⟩, vi a), (⟨b1, 2, none⟩, vi b)] (hasC (ba 2) (hasC (ba 2) has0)) ?_ 7 5)
  refine Xs (Xa (some 25) (fun _ => .tuple #[vi (kspawn s a b).1.1, pqErr (kspawn s a b).1.2]) (chg_at 3 rfl (krSpawn _ k s hid a b))) (fun _ => ?_) 6
  refine Xr [(10,vp b3), (8,vp b2), (9,.nilIface), (11,.nilIface), (26,vi ((kspawn s a b).1.1)), (27,pqErr (kspawn s a b).1.2), (28,vq b3 1)] ?_ 2 4
  refine Xs (Xz [(1,vi ((kspawn s a b).1.1))]) (fun _ => ?_) 1
  refine Xe [(10,vp b3), (8,vp b2), (9,.nilIface), (11,pqErr (kspawn s a b).1.2)] ?_ 1
  refine Xq (Xg 4 (Xl [(8,vp b2), (9,.nilIface), (88,.agg #[vi 0, vi ((kspawn s a b).1.1), vi 0]), (89,pqErr (kspawn s a b).1.2)] [(⟨b3, 0, none⟩, vi 0), (⟨b3, 1, none⟩, vi ((kspawn s a b).1.1)), (⟨b3, 2, none⟩, vi 0)] (hasC (ba 0) (hasC (ba 0) (hasC (ba 0) has0))) ?_ 2 2))
  refine Xh0 ?_ 1 2
  refine Xs (Xz [(0,vi 0), (1,vi ((kspawn s a b).1.1)), (2,vi 0)]) (fun _ => ?_) 1
  refine Xe [(8,vp b2), (9,pqErr (kspawn s a b).1.2)] ?_ 1
  refine Xv ?_
  refine doneG (.tuple #[.agg #[.int .i64 0, .int .i64 ((kspawn s a b).1.1), .int .i64 0], pqErr (kspawn s a b).1.2]) [(⟨b2, 0, none⟩, .int .i64 0), (⟨b2, 1, none⟩, .int .i64 ((kspawn s a b).1.1)), (⟨b2, 2, none⟩, .int .i64 0)] (hasC (blkAt (T := 31) (cs := [.int .i64 0, .int .i64 ((kspawn s a b).1.1), .int .i64 0]) 0 rfl rfl) (hasC (blkAt (T := 31) (cs := [.int .i64 0, .int .i64 ((kspawn s a b).1.1), .int .i64 0]) 0 rfl rfl) (hasC (blkAt (T := 31) (cs := [.int .i64 0, .int .i64 ((kspawn s a b).1.1), .int .i64 0]) 0 rfl rfl) has0))) (fun _ => by kernel_rfl) (fun w hs => ?_) .ret (.inr rfl)
  exact ⟨(), by rw [he] <;> rfl, by rw [he]; exact hs.tail.tail.tail⟩
 ·skip
  refine Xq (Xg 2 (Xe [(10,vp b3), (8,vp b2), (7,vp b1), (0,vp k), (1,vi tick), (2,vi th), (9,.nilIface), (11,.nilIface), (15,vi op), (29,.bool (op == 2))] ?_ 2))
  refine Xc (op == 2) (fun h2 => ?_) (fun h2 => ?_)
  ·skip
   have he : kAct s tick th op a b = (((kgroup s a b).1.1, (kgroup s a b).1.2), (kgroup s a b).2) := by rw [eq_of_beq h2] <;> rfl
   refine Xg 12 (Xl [(10,vp b3), (8,vp b2), (9,.nilIface), (11,.nilIface), (32,vp k), (34,vi a), (36,vi b)] [(⟨b1, 1, none⟩, vi a), (⟨b1, 2, none⟩, vi b)] (hasC (ba 2) (hasC (ba 2) has0)) ?_ 7 5)
   refine Xs (Xa (some 37) (fun _ => .tuple #[vi (kgroup s a b).1.1, pqErr (kgroup s a b).1.2]) (chg_at 3 rfl (krGroup _ k s hid a b))) (fun _ => ?_) 6
   refine Xr [(10,vp b3), (8,vp b2), (9,.nilIface), (11,.nilIface), (38,vi ((kgroup s a b).1.1)), (39,pqErr (kgroup s a b).1.2), (40,vq b3 1)] ?_ 2 4
   refine Xs (Xz [(1,vi ((kgroup s a b).1.1))]) (fun _ => ?_) 1
   refine Xe [(10,vp b3), (8,vp b2), (9,.nilIface), (11,pqErr (kgroup s a b).1.2)] ?_ 1
   refine Xq (Xg 4 (Xl [(8,vp b2), (9,.nilIface), (88,.agg #[vi 0, vi ((kgroup s a b).1.1), vi 0]), (89,pqErr (kgroup s a b).1.2)] [(⟨b3, 0, none⟩, vi 0), (⟨b3, 1, none⟩, vi ((kgroup s a b).1.1)), (⟨b3, 2, none⟩, vi 0)] (hasC (ba 0) (hasC (ba 0) (hasC (ba 0) has0))) ?_ 2 2))
   refine Xh0 ?_ 1 2
   refine Xs (Xz [(0,vi 0), (1,vi ((kgroup s a b).1.1)), (2,vi 0)]) (fun _ => ?_) 1
   refine Xe [(8,vp b2), (9,pqErr (kgroup s a b).1.2)] ?_ 1
   refine Xv ?_
   refine doneG (.tuple #[.agg #[.int .i64 0, .int .i64 ((kgroup s a b).1.1), .int .i64 0], pqErr (kgroup s a b).1.2]) [(⟨b2, 0, none⟩, .int .i64 0), (⟨b2, 1, none⟩, .int .i64 ((kgroup s a b).1.1)), (⟨b2, 2, none⟩, .int .i64 0)] (hasC (blkAt (T := 31) (cs := [.int .i64 0, .int .i64 ((kgroup s a b).1.1), .int .i64 0]) 0 rfl rfl) (hasC (blkAt (T := 31) (cs := [.int .i64 0, .int .i64 ((kgroup s a b).1.1), .int .i64 0]) 0 rfl rfl) (hasC (blkAt (T := 31) (cs := [.int .i64 0, .int .i64 ((kgroup s a b).1.1), .int .i64 0]) 0 rfl rfl) has0))) (fun _ => by kernel_rfl) (fun w hs => ?_) .ret (.inr rfl)
   exact ⟨(), by rw [he] <;> rfl, by rw [he]; exact hs.tail.tail.tail⟩
  ·skip
   refine Xq (Xg 2 (Xe [(10,vp b3), (8,vp b2), (7,vp b1), (0,vp k), (1,vi tick), (2,vi th), (9,.nilIface), (11,.nilIface), (15,vi op), (41,.bool (op == 3))] ?_ 2))
   refine Xc (op == 3) (fun h3 => ?_) (fun h3 => ?_)
   ·skip
    have he : kAct s tick th op a b = ((0, (kexit s th).1), (kexit s th).2) := by rw [eq_of_beq h3] <;> rfl
    refine Xg 4 (Xr [(10,vp b3), (8,vp b2), (9,.nilIface), (11,.nilIface), (43,vp k), (44,vi th)] ?_ 2 2)
    refine Xs (Xa (some 45) (fun _ => pqErr (kexit s th).1) (chg_at 3 rfl (krExit _ k s th))) (fun _ => ?_) 1
    refine Xe [(10,vp b3), (8,vp b2), (9,.nilIface), (11,pqErr (kexit s th).1)] ?_ 1
    refine Xq (Xg 4 (Xl [(8,vp b2), (9,.nilIface), (88,.agg #[vi 0, vi 0, vi 0]), (89,pqErr (kexit s th).1)] [(⟨b3, 0, none⟩, vi 0), (⟨b3, 1, none⟩, vi 0), (⟨b3, 2, none⟩, vi 0)] (hasC (ba 0) (hasC (ba 0) (hasC (ba 0) has0))) ?_ 2 2))
    refine Xh0 ?_ 1 2
    refine Xs (Xz [(0,vi 0), (1,vi 0), (2,vi 0)]) (fun _ => ?_) 1
    refine Xe [(8,vp b2), (9,pqErr (kexit s th).1)] ?_ 1
    refine Xv ?_
    refine doneG (.tuple #[.agg #[.int .i64 0, .int .i64 0, .int .i64 0], pqErr (kexit s th).1]) [(⟨b2, 0, none⟩, .int .i64 0), (⟨b2, 1, none⟩, .int .i64 0), (⟨b2, 2, none⟩, .int .i64 0)] (hasC (blkAt (T := 31) (cs := [.int .i64 0, .int .i64 0, .int .i64 0]) 0 rfl rfl) (hasC (blkAt (T := 31) (cs := [.int .i64 0, .int .i64 0, .int .i64 0]) 0 rfl rfl) (hasC (blkAt (T := 31) (cs := [.int .i64 0, .int .i64 0, .int .i64 0]) 0 rfl rfl) has0))) (fun _ => by kernel_rfl) (fun w hs => ?_) .ret (.inr rfl)
    exact ⟨(), by rw [he] <;> rfl, by rw [he]; exact hs.tail.tail.tail⟩
   ·skip
    refine Xq (Xg 2 (Xe [(10,vp b3), (8,vp b2), (7,vp b1), (0,vp k), (1,vi tick), (2,vi th), (9,.nilIface), (11,.nilIface), (15,vi op), (46,.bool (op == 4))] ?_ 2))
    refine Xc (op == 4) (fun h4 => ?_) (fun h4 => ?_)
    ·skip
     refine Xq (Xq (Xg 3 (Xm [(10,vp b3), (8,vp b2), (7,vp b1), (0,vp k), (1,vi tick), (2,vi th), (9,.nilIface), (11,.nilIface), (50,.bool (decide (a > 1000)))] [(⟨b1, 1, none⟩, vi a)] (hasC (ba 2) has0) ?_ 3)))
     refine Xc (decide (a > 1000)) (fun hl => ?_) (fun hl => ?_)
     ·skip
      have he : kAct s tick th op a b = ((0, 12), s) := by rw [eq_of_beq h4, kAct, if_neg (by decide), if_neg (by decide), if_neg (by decide), if_pos rfl, if_pos (of_decide_eq_true hl)]
      refine Xq (Xg 4 (Xl [(10,vp b3), (8,vp b2), (7,vp b1), (0,vp k), (1,vi tick), (2,vi th), (9,.nilIface), (11,.nilIface), (51,.agg #[vi 0, vi 0, vi 0]), (52,.iface 126 (vi 12))] [(⟨b3, 0, none⟩, vi 0), (⟨b3, 1, none⟩, vi 0), (⟨b3, 2, none⟩, vi 0)] (hasC (ba 0) (hasC (ba 0) (hasC (ba 0) has0))) ?_ 2 2))
      refine Xh0 ?_ 1 2
      refine Xs (Xz [(0,vi 0), (1,vi 0), (2,vi 0)]) (fun _ => ?_) 1
      refine Xe [(10,vp b3), (8,vp b2), (7,vp b1), (0,vp k), (1,vi tick), (2,vi th), (9,.iface 126 (vi 12)), (11,.nilIface)] ?_ 1
      refine Xv (thenV (blockV (thenV ?_)))
      refine doneG (.tuple #[.agg #[.int .i64 0, .int .i64 0, .int .i64 0], .iface 126 (.int .i64 12)]) [(⟨b2, 0, none⟩, .int .i64 0), (⟨b2, 1, none⟩, .int .i64 0), (⟨b2, 2, none⟩, .int .i64 0)] (hasC (blkAt (T := 31) (cs := [.int .i64 0, .int .i64 0, .int .i64 0]) 0 rfl rfl) (hasC (blkAt (T := 31) (cs := [.int .i64 0, .int .i64 0, .int .i64 0]) 0 rfl rfl) (hasC (blkAt (T := 31) (cs := [.int .i64 0, .int .i64 0, .int .i64 0]) 0 rfl rfl) has0))) (fun _ => by kernel_rfl) (fun w hs => ?_) .ret (.inr rfl)
      exact ⟨(), by rw [he] <;> rfl, by rw [he]; exact hs.tail.tail.tail⟩
     ·skip
      have he : kAct s tick th op a b = ((0, (ksleep s th (IntKind.i64.wrap (IntKind.i64.wrap (tick + 1) + a))).1), (ksleep s th (IntKind.i64.wrap (IntKind.i64.wrap (tick + 1) + a))).2) := by rw [eq_of_beq h4, kAct, if_neg (by decide), if_neg (by decide), if_neg (by decide), if_pos rfl, if_neg (of_decide_eq_false hl)]
      refine Xk (Xg 9 (Xl [(10,vp b3), (8,vp b2), (9,.nilIface), (11,.nilIface), (53,vp k), (54,vi th), (59,vi (IntKind.i64.wrap ((IntKind.i64.wrap (tick + 1)) + a)))] [(⟨b1, 1, none⟩, vi a)] (hasC (ba 2) has0) ?_ 2 7))
      refine Xs (Xa (some 60) (fun _ => pqErr (ksleep s th (IntKind.i64.wrap (IntKind.i64.wrap (tick + 1) + a))).1) (chg_at 3 rfl (krSleep _ k s th (IntKind.i64.wrap (IntKind.i64.wrap (tick + 1) + a))))) (fun _ => ?_) 1
      refine Xe [(10,vp b3), (8,vp b2), (9,.nilIface), (11,pqErr (ksleep s th (IntKind.i64.wrap (IntKind.i64.wrap (tick + 1) + a))).1)] ?_ 1
      refine Xq (Xg 4 (Xl [(8,vp b2), (9,.nilIface), (88,.agg #[vi 0, vi 0, vi 0]), (89,pqErr (ksleep s th (IntKind.i64.wrap (IntKind.i64.wrap (tick + 1) + a))).1)] [(⟨b3, 0, none⟩, vi 0), (⟨b3, 1, none⟩, vi 0), (⟨b3, 2, none⟩, vi 0)] (hasC (ba 0) (hasC (ba 0) (hasC (ba 0) has0))) ?_ 2 2))
      refine Xh0 ?_ 1 2
      refine Xs (Xz [(0,vi 0), (1,vi 0), (2,vi 0)]) (fun _ => ?_) 1
      refine Xe [(8,vp b2), (9,pqErr (ksleep s th (IntKind.i64.wrap (IntKind.i64.wrap (tick + 1) + a))).1)] ?_ 1
      refine Xv ?_
      refine doneG (.tuple #[.agg #[.int .i64 0, .int .i64 0, .int .i64 0], pqErr (ksleep s th (IntKind.i64.wrap (IntKind.i64.wrap (tick + 1) + a))).1]) [(⟨b2, 0, none⟩, .int .i64 0), (⟨b2, 1, none⟩, .int .i64 0), (⟨b2, 2, none⟩, .int .i64 0)] (hasC (blkAt (T := 31) (cs := [.int .i64 0, .int .i64 0, .int .i64 0]) 0 rfl rfl) (hasC (blkAt (T := 31) (cs := [.int .i64 0, .int .i64 0, .int .i64 0]) 0 rfl rfl) (hasC (blkAt (T := 31) (cs := [.int .i64 0, .int .i64 0, .int .i64 0]) 0 rfl rfl) has0))) (fun _ => by kernel_rfl) (fun w hs => ?_) .ret (.inr rfl)
      exact ⟨(), by rw [he] <;> rfl, by rw [he]; exact hs.tail.tail.tail⟩
    ·skip
     refine Xq (Xg 2 (Xe [(10,vp b3), (8,vp b2), (7,vp b1), (0,vp k), (2,vi th), (9,.nilIface), (11,.nilIface), (15,vi op), (61,.bool (op == 5))] ?_ 2))
     refine Xc (op == 5) (fun h5 => ?_) (fun h5 => ?_)
     ·skip
      have he : kAct s tick th op a b = ((if (kwait s th a).1.1 = true then 1 else 0, (kwait s th a).1.2), (kwait s th a).2) := by rw [eq_of_beq h5] <;> rfl
      refine Xq (Xg 10 (Xl [(10,vp b3), (8,vp b2), (9,.nilIface), (11,.nilIface), (64,vp k), (65,vi th), (67,vi a)] [(⟨b1, 1, none⟩, vi a)] (hasC (ba 2) has0) ?_ 6 4))
      refine Xs (Xa (some 68) (fun _ => .tuple #[.bool (kwait s th a).1.1, pqErr (kwait s th a).1.2]) (chg_at 3 rfl (krWait _ k s th a))) (fun _ => ?_) 5
      refine Xe [(10,vp b3), (8,vp b2), (9,.nilIface), (11,.nilIface), (12,.bool ((kwait s th a).1.1)), (13,pqErr (kwait s th a).1.2)] ?_ 5
      refine Xq (Xg 2 (Xe [(10,vp b3), (8,vp b2), (9,.nilIface), (11,pqErr (kwait s th a).1.2), (12,.bool ((kwait s th a).1.1))] ?_ 2))
      refine Xq (Xg 1 (Xe [(10,vp b3), (8,vp b2), (9,.nilIface), (11,pqErr (kwait s th a).1.2), (72,.bool ((kwait s th a).1.1))] ?_ 1))
      cases hw : ((kwait s th a).1.1) with
      | true =>
       refine Xc true (fun _ => ?_) (fun h => by cases h)
       refine Xg 2 (Xr [(10,vp b3), (8,vp b2), (9,.nilIface), (11,pqErr (kwait s th a).1.2), (73,vq b3 1)] ?_ 1 1)
       refine Xs (Xz [(1,vi 1)]) (fun _ => ?_) 0
       refine endR ?_
       refine Xq (Xg 4 (Xl [(8,vp b2), (9,.nilIface), (88,.agg #[vi 0, vi 1, vi 0]), (89,pqErr (kwait s th a).1.2)] [(⟨b3, 0, none⟩, vi 0), (⟨b3, 1, none⟩, vi 1), (⟨b3, 2, none⟩, vi 0)] (hasC (ba 0) (hasC (ba 0) (hasC (ba 0) has0))) ?_ 2 2))
       refine Xh0 ?_ 1 2
       refine Xs (Xz [(0,vi 0), (1,vi 1), (2,vi 0)]) (fun _ => ?_) 1
       refine Xe [(8,vp b2), (9,pqErr (kwait s th a).1.2)] ?_ 1
       refine Xv ?_
       refine doneG (.tuple #[.agg #[.int .i64 0, .int .i64 1, .int .i64 0], pqErr (kwait s th a).1.2]) [(⟨b2, 0, none⟩, .int .i64 0), (⟨b2, 1, none⟩, .int .i64 1), (⟨b2, 2, none⟩, .int .i64 0)] (hasC (blkAt (T := 31) (cs := [.int .i64 0, .int .i64 1, .int .i64 0]) 0 rfl rfl) (hasC (blkAt (T := 31) (cs := [.int .i64 0, .int .i64 1, .int .i64 0]) 0 rfl rfl) (hasC (blkAt (T := 31) (cs := [.int .i64 0, .int .i64 1, .int .i64 0]) 0 rfl rfl) has0))) (fun _ => by kernel_rfl) (fun w hs => ?_) .ret (.inr rfl)
       exact ⟨(), by rw [he, if_pos hw] <;> rfl, by rw [he]; exact hs.tail.tail.tail⟩
      | false =>
       refine Xc false (fun h => by cases h) (fun _ => ?_)
       refine Xk (Xq (Xg 4 (Xl [(8,vp b2), (9,.nilIface), (88,.agg #[vi 0, vi 0, vi 0]), (89,pqErr (kwait s th a).1.2)] [(⟨b3, 0, none⟩, vi 0), (⟨b3, 1, none⟩, vi 0), (⟨b3, 2, none⟩, vi 0)] (hasC (ba 0) (hasC (ba 0) (hasC (ba 0) has0))) ?_ 2 2)))
       refine Xh0 ?_ 1 2
       refine Xs (Xz [(0,vi 0), (1,vi 0), (2,vi 0)]) (fun _ => ?_) 1
       refine Xe [(8,vp b2), (9,pqErr (kwait s th a).1.2)] ?_ 1
       refine Xv ?_
       refine doneG (.tuple #[.agg #[.int .i64 0, .int .i64 0, .int .i64 0], pqErr (kwait s th a).1.2]) [(⟨b2, 0, none⟩, .int .i64 0), (⟨b2, 1, none⟩, .int .i64 0), (⟨b2, 2, none⟩, .int .i64 0)] (hasC (blkAt (T := 31) (cs := [.int .i64 0, .int .i64 0, .int .i64 0]) 0 rfl rfl) (hasC (blkAt (T := 31) (cs := [.int .i64 0, .int .i64 0, .int .i64 0]) 0 rfl rfl) (hasC (blkAt (T := 31) (cs := [.int .i64 0, .int .i64 0, .int .i64 0]) 0 rfl rfl) has0))) (fun _ => by kernel_rfl) (fun w hs => ?_) .ret (.inr rfl)
       exact ⟨(), by rw [he, if_neg (by rw [hw]; simp)] <;> rfl, by rw [he]; exact hs.tail.tail.tail⟩
     ·skip
      refine Xq (Xg 2 (Xe [(10,vp b3), (8,vp b2), (7,vp b1), (0,vp k), (9,.nilIface), (11,.nilIface), (15,vi op), (74,.bool (op == 6))] ?_ 2))
      refine Xc (op == 6) (fun h6 => ?_) (fun h6 => ?_)
      ·skip
       have he : kAct s tick th op a b = ((0, (ksignal s a).1), (ksignal s a).2) := by rw [eq_of_beq h6] <;> rfl
       refine Xg 5 (Xl [(10,vp b3), (8,vp b2), (9,.nilIface), (11,.nilIface), (76,vp k), (78,vi a)] [(⟨b1, 1, none⟩, vi a)] (hasC (ba 2) has0) ?_ 2 3)
       refine Xs (Xa (some 79) (fun _ => pqErr (ksignal s a).1) (chg_at 3 rfl (krSignal _ k s a))) (fun _ => ?_) 1
       refine Xe [(10,vp b3), (8,vp b2), (9,.nilIface), (11,pqErr (ksignal s a).1)] ?_ 1
       refine Xq (Xg 4 (Xl [(8,vp b2), (9,.nilIface), (88,.agg #[vi 0, vi 0, vi 0]), (89,pqErr (ksignal s a).1)] [(⟨b3, 0, none⟩, vi 0), (⟨b3, 1, none⟩, vi 0), (⟨b3, 2, none⟩, vi 0)] (hasC (ba 0) (hasC (ba 0) (hasC (ba 0) has0))) ?_ 2 2))
       refine Xh0 ?_ 1 2
       refine Xs (Xz [(0,vi 0), (1,vi 0), (2,vi 0)]) (fun _ => ?_) 1
       refine Xe [(8,vp b2), (9,pqErr (ksignal s a).1)] ?_ 1
       refine Xv ?_
       refine doneG (.tuple #[.agg #[.int .i64 0, .int .i64 0, .int .i64 0], pqErr (ksignal s a).1]) [(⟨b2, 0, none⟩, .int .i64 0), (⟨b2, 1, none⟩, .int .i64 0), (⟨b2, 2, none⟩, .int .i64 0)] (hasC (blkAt (T := 31) (cs := [.int .i64 0, .int .i64 0, .int .i64 0]) 0 rfl rfl) (hasC (blkAt (T := 31) (cs := [.int .i64 0, .int .i64 0, .int .i64 0]) 0 rfl rfl) (hasC (blkAt (T := 31) (cs := [.int .i64 0, .int .i64 0, .int .i64 0]) 0 rfl rfl) has0))) (fun _ => by kernel_rfl) (fun w hs => ?_) .ret (.inr rfl)
       exact ⟨(), by rw [he] <;> rfl, by rw [he]; exact hs.tail.tail.tail⟩
      ·skip
       refine Xq (Xg 2 (Xe [(10,vp b3), (8,vp b2), (7,vp b1), (0,vp k), (9,.nilIface), (11,.nilIface), (80,.bool (op == 7))] ?_ 2))
       refine Xc (op == 7) (fun h7 => ?_) (fun h7 => ?_)
       ·skip
        have he : kAct s tick th op a b = ((0, (kweight s a b).1), (kweight s a b).2) := by rw [eq_of_beq h7] <;> rfl
        refine Xg 7 (Xl [(10,vp b3), (8,vp b2), (9,.nilIface), (11,.nilIface), (82,vp k), (84,vi a), (86,vi b)] [(⟨b1, 1, none⟩, vi a), (⟨b1, 2, none⟩, vi b)] (hasC (ba 2) (hasC (ba 2) has0)) ?_ 2 5)
        refine Xs (Xa (some 87) (fun _ => pqErr (kweight s a b).1) (chg_at 3 rfl (krWeight _ k s a b))) (fun _ => ?_) 1
        refine Xe [(10,vp b3), (8,vp b2), (9,.nilIface), (11,pqErr (kweight s a b).1)] ?_ 1
        refine Xq (Xg 4 (Xl [(8,vp b2), (9,.nilIface), (88,.agg #[vi 0, vi 0, vi 0]), (89,pqErr (kweight s a b).1)] [(⟨b3, 0, none⟩, vi 0), (⟨b3, 1, none⟩, vi 0), (⟨b3, 2, none⟩, vi 0)] (hasC (ba 0) (hasC (ba 0) (hasC (ba 0) has0))) ?_ 2 2))
        refine Xh0 ?_ 1 2
        refine Xs (Xz [(0,vi 0), (1,vi 0), (2,vi 0)]) (fun _ => ?_) 1
        refine Xe [(8,vp b2), (9,pqErr (kweight s a b).1)] ?_ 1
        refine Xv ?_
        refine doneG (.tuple #[.agg #[.int .i64 0, .int .i64 0, .int .i64 0], pqErr (kweight s a b).1]) [(⟨b2, 0, none⟩, .int .i64 0), (⟨b2, 1, none⟩, .int .i64 0), (⟨b2, 2, none⟩, .int .i64 0)] (hasC (blkAt (T := 31) (cs := [.int .i64 0, .int .i64 0, .int .i64 0]) 0 rfl rfl) (hasC (blkAt (T := 31) (cs := [.int .i64 0, .int .i64 0, .int .i64 0]) 0 rfl rfl) (hasC (blkAt (T := 31) (cs := [.int .i64 0, .int .i64 0, .int .i64 0]) 0 rfl rfl) has0))) (fun _ => by kernel_rfl) (fun w hs => ?_) .ret (.inr rfl)
        exact ⟨(), by rw [he] <;> rfl, by rw [he]; exact hs.tail.tail.tail⟩
       ·skip
        refine Xg 2 (Xe [(10,vp b3), (8,vp b2), (9,.nilIface), (11,.iface 126 (vi 16))] ?_ 2)
        refine Xq (Xg 4 (Xl [(8,vp b2), (9,.nilIface), (88,.agg #[vi 0, vi 0, vi 0]), (89,.iface 126 (vi 16))] [(⟨b3, 0, none⟩, vi 0), (⟨b3, 1, none⟩, vi 0), (⟨b3, 2, none⟩, vi 0)] (hasC (ba 0) (hasC (ba 0) (hasC (ba 0) has0))) ?_ 2 2))
        refine Xh0 ?_ 1 2
        refine Xs (Xz [(0,vi 0), (1,vi 0), (2,vi 0)]) (fun _ => ?_) 1
        refine Xe [(8,vp b2), (9,.iface 126 (vi 16))] ?_ 1
        refine Xv ?_
        have he : kAct s tick th op a b = ((0, 16), s) := by rw [kAct, if_neg (beq_eq_false_iff_ne.1 h1), if_neg (beq_eq_false_iff_ne.1 h2), if_neg (beq_eq_false_iff_ne.1 h3), if_neg (beq_eq_false_iff_ne.1 h4), if_neg (beq_eq_false_iff_ne.1 h5), if_neg (beq_eq_false_iff_ne.1 h6), if_neg (beq_eq_false_iff_ne.1 h7)]
        refine doneG (.tuple #[.agg #[.int .i64 0, .int .i64 0, .int .i64 0], .iface 126 (.int .i64 16)]) [(⟨b2, 0, none⟩, .int .i64 0), (⟨b2, 1, none⟩, .int .i64 0), (⟨b2, 2, none⟩, .int .i64 0)] (hasC (blkAt (T := 31) (cs := [.int .i64 0, .int .i64 0, .int .i64 0]) 0 rfl rfl) (hasC (blkAt (T := 31) (cs := [.int .i64 0, .int .i64 0, .int .i64 0]) 0 rfl rfl) (hasC (blkAt (T := 31) (cs := [.int .i64 0, .int .i64 0, .int .i64 0]) 0 rfl rfl) has0))) (fun _ => by kernel_rfl) (fun w hs => ?_) .normal (.inl rfl)
        exact ⟨(), by rw [he] <;> rfl, by rw [he]; exact hs.tail.tail.tail⟩
end Go.Proofs.YtfhkgohokbkgiaaGreatDoor
set_option linter.unusedVariables false
set_option linter.unusedSimpArgs false
namespace Go.Proofs.YtfhkgohokbkgiaaGreatDoor
open Go.RowKit G
set_option maxRecDepth 100000 in
theorem iskept_walk (H : List SP) (op : Int) : ∀ v, Sat v H → Calls Tryz.prog 50 #[vi op] v (Ret (ι := Unit) (fun _ => .bool (isKept op)) fun _ => H) := by
 refine enterG (fn := Tryz.f50) 12 [vi op] Tryz.func50 (by kernel_rfl) (by kernel_rfl) (by kernel_rfl) ?_
 refine Xq (Xg 1 (Xe [(0,vi op), (2,.bool false)] ?_ 1))
 refine Xq (Xq (Xg 1 (Xe [(2,.bool false), (3,vi op)] ?_ 1)))
 refine Xb 0 (Xq (Xq (Xg 2 (Xe [(2,.bool false), (3,vi op), (4,.bool (op == 1))] ?_ 2))))
 cases h1 : ((op == 1)) with
 | true =>
  have he : isKept op = true := by rw [eq_of_beq h1]; rfl
  refine Xc true (fun _ => ?_) (fun h => by cases h)
  refine Xk (Xc true (fun _ => ?_) (fun h => by cases h))
  refine Xq (Xg 1 (Xe [(2,.bool true)] ?_ 1))
  refine Xv (blockV (thenV (Y0 (.bool true) (fun w hs => ?_))))
  exact ⟨(), by rw [he], hs⟩
 | false =>
  refine Xc false (fun h => by cases h) (fun _ => ?_)
  refine Xq (Xg 2 (Xe [(2,.bool false), (3,vi op), (4,.bool (op == 2))] ?_ 2))
  cases h2 : ((op == 2)) with
  | true =>
   have he : isKept op = true := by rw [eq_of_beq h2]; rfl
   refine Xc true (fun _ => ?_) (fun h => by cases h)
   refine Xk (Xc true (fun _ => ?_) (fun h => by cases h))
   refine Xq (Xg 1 (Xe [(2,.bool true)] ?_ 1))
   refine Xv (blockV (thenV (Y0 (.bool true) (fun w hs => ?_))))
   exact ⟨(), by rw [he], hs⟩
  | false =>
   refine Xc false (fun h => by cases h) (fun _ => ?_)
   refine Xq (Xg 2 (Xe [(2,.bool false), (3,vi op), (4,.bool (op == 3))] ?_ 2))
   cases h3 : ((op == 3)) with
   | true =>
    have he : isKept op = true := by rw [eq_of_beq h3]; rfl
    refine Xc true (fun _ => ?_) (fun h => by cases h)
    refine Xk (Xc true (fun _ => ?_) (fun h => by cases h))
    refine Xq (Xg 1 (Xe [(2,.bool true)] ?_ 1))
    refine Xv (blockV (thenV (Y0 (.bool true) (fun w hs => ?_))))
    exact ⟨(), by rw [he], hs⟩
   | false =>
    refine Xc false (fun h => by cases h) (fun _ => ?_)
    refine Xq (Xg 2 (Xe [(2,.bool false), (3,vi op), (4,.bool (op == 7))] ?_ 2))
    cases h7 : ((op == 7)) with
    | true =>
     have he : isKept op = true := by rw [eq_of_beq h7]; rfl
     refine Xc true (fun _ => ?_) (fun h => by cases h)
     refine Xk (Xc true (fun _ => ?_) (fun h => by cases h))
     refine Xq (Xg 1 (Xe [(2,.bool true)] ?_ 1))
     refine Xv (blockV (thenV (Y0 (.bool true) (fun w hs => ?_))))
     exact ⟨(), by rw [he], hs⟩
    | false =>
     refine Xc false (fun h => by cases h) (fun _ => ?_)
     refine Xq (Xg 2 (Xe [(2,.bool false), (3,vi op), (4,.bool (op == 11))] ?_ 2))
     cases h11 : ((op == 11)) with
     | true =>
      have he : isKept op = true := by rw [eq_of_beq h11]; rfl
      refine Xc true (fun _ => ?_) (fun h => by cases h)
      refine Xk (Xc true (fun _ => ?_) (fun h => by cases h))
      refine Xq (Xg 1 (Xe [(2,.bool true)] ?_ 1))
      refine Xv (blockV (thenV (Y0 (.bool true) (fun w hs => ?_))))
      exact ⟨(), by rw [he], hs⟩
     | false =>
      refine Xc false (fun h => by cases h) (fun _ => ?_)
      refine Xq (Xg 2 (Xe [(2,.bool false), (3,vi op), (4,.bool (op == 13))] ?_ 2))
      cases h13 : ((op == 13)) with
      | true =>
       have he : isKept op = true := by rw [eq_of_beq h13]; rfl
       refine Xc true (fun _ => ?_) (fun h => by cases h)
       refine Xk (Xc true (fun _ => ?_) (fun h => by cases h))
       refine Xq (Xg 1 (Xe [(2,.bool true)] ?_ 1))
       refine Xv (blockV (thenV (Y0 (.bool true) (fun w hs => ?_))))
       exact ⟨(), by rw [he], hs⟩
      | false =>
       refine Xc false (fun h => by cases h) (fun _ => ?_)
       refine Xg 2 (Xe [(2,.bool false), (4,.bool (op == 14))] ?_ 2)
       cases h14 : ((op == 14)) with
       | true =>
        have he : isKept op = true := by rw [eq_of_beq h14]; rfl
        refine Xc true (fun _ => ?_) (fun h => by cases h)
        refine Xq (Xg 1 (Xe [(2,.bool true)] ?_ 1))
        refine Xv (blockV (thenV (Y0 (.bool true) (fun w hs => ?_))))
        exact ⟨(), by rw [he], hs⟩
       | false =>
        refine Xc false (fun h => by cases h) (fun _ => ?_)
        refine Xk (Xq (Xg 1 (Xe [(2,.bool false)] ?_ 1)))
        refine Xv ?_
        have he : isKept op = false := by unfold isKept; rw [h1, h2, h3, h7, h11, h13, h14]; rfl
        refine Y0 (.bool false) (fun w hs => ?_)
        exact ⟨(), by rw [he], hs⟩
set_option maxHeartbeats 2000000 in
set_option maxRecDepth 100000 in
theorem wdoes_walk (H : List SP) (wb : Nat) (c : ConfV) (P : WP) (z : WS) (hk : KC H c) (hcl : c.domains.l.length ≤ 1000) (hb : ∀ y ∈ z.s, y.b.l.length < 100000) (d : Nat) (p : SdP) (x : SdS) (hp : P.s[d]? = some p) (hx : z.s[d]? = some x) (hl : P.s.length ≤ 1000) (hid : x.k.nx ≤ 1099511627776) (tick th op a b : Int) : ∀ v, Sat v (wdS wb c P z :: H) → Calls Tryz.prog 48 #[vp wb, vi tick, vi d, vi th, .agg #[vi op, vi a, vi b]] v (Ret (ι := Unit) (fun _ => .tuple #[.agg #[vi 0, vi (wDoes c z tick d th op a b).1.1.1, vi (wDoes c z tick d th op a b).1.1.2], pqErr (wDoes c z tick d th op a b).1.2]) fun _ => wdS wb c P (wDoes c z tick d th op a b).2 :: H) := by
 have hdl := (List.getElem?_eq_some_iff.1 hp).1
 have hsd := sdAt_of hx
 have hclk := fun H => wdLed (wb := wb) (c := c) (P := P) (w := z) (l' := fun _ => z.l) (fun H => ldClock_c H P.l z.l (d : Int)) H
 have hthr := fun H => wdKer (wb := wb) (c := c) (X := fun _ : Unit => []) (k' := fun _ => (kAct x.k tick th op a b).2) hp hx (fun H => wthreads_walk H p.k x.k hid tick th op a b) H
 simp only [List.nil_append] at hthr
 refine enterG (fn := Tryz.f48) 90 [vp wb, vi tick, vi d, vi th, .agg #[vi op, vi a, vi b]] Tryz.func48 (by kernel_rfl) (by kernel_rfl) (by kernel_rfl) ?_
 refine Xq (Xg 3 (Xs (Xn 35 [vi op, vi a, vi b] (some 9) (fun b => vp b)) (fun b1 => ?_) 2))
 refine Xs (Xn 31 [vi 0, vi 0, vi 0] (some 10) (fun b => vp b)) (fun b2 => ?_) 1
 refine Xe [(10,vp b2), (9,vp b1), (0,vp wb), (1,vi tick), (2,vi d), (3,vi th), (11,.nilIface)] ?_ 1
 refine Xq (Xq (Xg 2 (Xm [(10,vp b2), (9,vp b1), (0,vp wb), (1,vi tick), (2,vi d), (3,vi th), (11,.nilIface), (13,vi op)] [(⟨b1, 0, none⟩, vi op)] (hasC (ba 1) has0) ?_ 2)))
 refine Xb 0 (Xq (Xg 2 (Xe [(10,vp b2), (9,vp b1), (0,vp wb), (1,vi tick), (2,vi d), (3,vi th), (11,.nilIface), (13,vi op), (14,.bool (op == 8))] ?_ 2)))
 refine Xc (op == 8) (fun h8 => ?_) (fun h8 => ?_)
 ·skip
  have he : wDoes c z tick d th op a b = (((wClock z d, 0), 0), z) := by rw [eq_of_beq h8] <;> rfl
  refine Xq (Xg 9 (Xl [(10,vp b2), (9,vp b1), (0,vp wb), (1,vi tick), (2,vi d), (3,vi th), (11,.nilIface), (19,.pointer (some ⟨P.l, 0, none⟩)), (20,vi d)] [(⟨wb, 5, none⟩, .pointer (some ⟨P.l, 0, none⟩))] (hasC (wd_cell 2 (i := 5) rfl rfl) has0) ?_ 4 5))
  refine Xs (Xa (some 21) (fun _ => vi ((ldAt z.l (d : Int)).own + (ldAt z.l (d : Int)).got)) (chg_at 2 rfl (hclk _))) (fun _ => ?_) 3
  refine Xr [(10,vp b2), (9,vp b1), (0,vp wb), (1,vi tick), (2,vi d), (3,vi th), (11,.nilIface), (22,.agg #[vi 0, vi ((ldAt z.l (d : Int)).own + (ldAt z.l (d : Int)).got), vi 0])] ?_ 2 1
  refine Xs (Xz [(0,vi 0), (1,vi ((ldAt z.l (d : Int)).own + (ldAt z.l (d : Int)).got)), (2,vi 0)]) (fun _ => ?_) 1
  refine Xe [(10,vp b2), (9,vp b1), (0,vp wb), (1,vi tick), (2,vi d), (3,vi th), (11,.nilIface)] ?_ 1
  refine Xv (blockV (thenV ?_))
  refine doneG (.tuple #[.agg #[.int .i64 0, .int .i64 ((ldAt z.l (d : Int)).own + (ldAt z.l (d : Int)).got), .int .i64 0], .nilIface]) [(⟨b2, 0, none⟩, .int .i64 0), (⟨b2, 1, none⟩, .int .i64 ((ldAt z.l (d : Int)).own + (ldAt z.l (d : Int)).got)), (⟨b2, 2, none⟩, .int .i64 0)] (hasC (blkAt (T := 31) (cs := [.int .i64 0, .int .i64 ((ldAt z.l (d : Int)).own + (ldAt z.l (d : Int)).got), .int .i64 0]) 0 rfl rfl) (hasC (blkAt (T := 31) (cs := [.int .i64 0, .int .i64 ((ldAt z.l (d : Int)).own + (ldAt z.l (d : Int)).got), .int .i64 0]) 0 rfl rfl) (hasC (blkAt (T := 31) (cs := [.int .i64 0, .int .i64 ((ldAt z.l (d : Int)).own + (ldAt z.l (d : Int)).got), .int .i64 0]) 0 rfl rfl) has0))) (fun _ => by kernel_rfl) (fun w hs => ?_) .ret (.inr rfl)
  exact ⟨(), by rw [he] <;> rfl, by rw [he]; exact hs.tail.tail⟩
 ·skip
  refine Xq (Xg 2 (Xe [(10,vp b2), (9,vp b1), (0,vp wb), (1,vi tick), (2,vi d), (3,vi th), (11,.nilIface), (13,vi op), (23,.bool (op == 9))] ?_ 2))
  refine Xc (op == 9) (fun h9 => ?_) (fun h9 => ?_)
  ·skip
   have he : wDoes c z tick d th op a b = (wStat c z d a, z) := by rw [eq_of_beq h9] <;> rfl
   refine Xq (Xg 9 (Xl [(10,vp b2), (9,vp b1), (0,vp wb), (1,vi tick), (2,vi d), (3,vi th), (11,.nilIface), (25,vp wb), (26,vi d), (28,vi a)] [(⟨b1, 1, none⟩, vi a)] (hasC (ba 1) has0) ?_ 5 4))
   refine Xs (Xa (some 29) (fun _ => .tuple #[.agg #[vi 0, vi (wStat c z d a).1.1, vi (wStat c z d a).1.2], pqErr (wStat c z d a).2]) (chg_at 2 rfl (wstat_walk _ wb c P z hk.up.up (d : Int) a))) (fun _ => ?_) 4
   refine Xr [(10,vp b2), (9,vp b1), (0,vp wb), (1,vi tick), (2,vi d), (3,vi th), (11,.nilIface), (30,.agg #[vi 0, vi ((wStat c z d a).1.1), vi ((wStat c z d a).1.2)]), (31,pqErr (wStat c z d a).2)] ?_ 2 2
   refine Xs (Xz [(0,vi 0), (1,vi ((wStat c z d a).1.1)), (2,vi ((wStat c z d a).1.2))]) (fun _ => ?_) 1
   refine Xe [(10,vp b2), (9,vp b1), (0,vp wb), (1,vi tick), (2,vi d), (3,vi th), (11,pqErr (wStat c z d a).2)] ?_ 1
   refine Xv (blockV (thenV ?_))
   refine doneG (.tuple #[.agg #[.int .i64 0, .int .i64 ((wStat c z d a).1.1), .int .i64 ((wStat c z d a).1.2)], pqErr (wStat c z d a).2]) [(⟨b2, 0, none⟩, .int .i64 0), (⟨b2, 1, none⟩, .int .i64 ((wStat c z d a).1.1)), (⟨b2, 2, none⟩, .int .i64 ((wStat c z d a).1.2))] (hasC (blkAt (T := 31) (cs := [.int .i64 0, .int .i64 ((wStat c z d a).1.1), .int .i64 ((wStat c z d a).1.2)]) 0 rfl rfl) (hasC (blkAt (T := 31) (cs := [.int .i64 0, .int .i64 ((wStat c z d a).1.1), .int .i64 ((wStat c z d a).1.2)]) 0 rfl rfl) (hasC (blkAt (T := 31) (cs := [.int .i64 0, .int .i64 ((wStat c z d a).1.1), .int .i64 ((wStat c z d a).1.2)]) 0 rfl rfl) has0))) (fun _ => by kernel_rfl) (fun w hs => ?_) .ret (.inr rfl)
   exact ⟨(), by rw [he] <;> rfl, by rw [he]; exact hs.tail.tail⟩
  ·skip
   refine Xq (Xg 2 (Xe [(10,vp b2), (9,vp b1), (0,vp wb), (1,vi tick), (2,vi d), (3,vi th), (11,.nilIface), (13,vi op), (32,.bool (op == 10))] ?_ 2))
   refine Xc (op == 10) (fun h10 => ?_) (fun h10 => ?_)
   ·skip
    have he : wDoes c z tick d th op a b = wAudit c z d a := by rw [eq_of_beq h10] <;> rfl
    refine Xq (Xg 9 (Xl [(10,vp b2), (9,vp b1), (0,vp wb), (1,vi tick), (2,vi d), (3,vi th), (11,.nilIface), (34,vp wb), (35,vi d), (37,vi a)] [(⟨b1, 1, none⟩, vi a)] (hasC (ba 1) has0) ?_ 5 4))
    refine Xs (Xa (some 38) (fun _ => .tuple #[.agg #[vi 0, vi (wAudit c z d a).1.1.1, vi (wAudit c z d a).1.1.2], pqErr (wAudit c z d a).1.2]) (chg_at 2 rfl (waudit_walk _ wb c P z hk.up.up d p x hp hx hl a))) (fun _ => ?_) 4
    refine Xr [(10,vp b2), (9,vp b1), (0,vp wb), (1,vi tick), (2,vi d), (3,vi th), (11,.nilIface), (39,.agg #[vi 0, vi ((wAudit c z d a).1.1.1), vi ((wAudit c z d a).1.1.2)]), (40,pqErr (wAudit c z d a).1.2)] ?_ 2 2
    refine Xs (Xz [(0,vi 0), (1,vi ((wAudit c z d a).1.1.1)), (2,vi ((wAudit c z d a).1.1.2))]) (fun _ => ?_) 1
    refine Xe [(10,vp b2), (9,vp b1), (0,vp wb), (1,vi tick), (2,vi d), (3,vi th), (11,pqErr (wAudit c z d a).1.2)] ?_ 1
    refine Xv (blockV (thenV ?_))
    refine doneG (.tuple #[.agg #[.int .i64 0, .int .i64 ((wAudit c z d a).1.1.1), .int .i64 ((wAudit c z d a).1.1.2)], pqErr (wAudit c z d a).1.2]) [(⟨b2, 0, none⟩, .int .i64 0), (⟨b2, 1, none⟩, .int .i64 ((wAudit c z d a).1.1.1)), (⟨b2, 2, none⟩, .int .i64 ((wAudit c z d a).1.1.2))] (hasC (blkAt (T := 31) (cs := [.int .i64 0, .int .i64 ((wAudit c z d a).1.1.1), .int .i64 ((wAudit c z d a).1.1.2)]) 0 rfl rfl) (hasC (blkAt (T := 31) (cs := [.int .i64 0, .int .i64 ((wAudit c z d a).1.1.1), .int .i64 ((wAudit c z d a).1.1.2)]) 0 rfl rfl) (hasC (blkAt (T := 31) (cs := [.int .i64 0, .int .i64 ((wAudit c z d a).1.1.1), .int .i64 ((wAudit c z d a).1.1.2)]) 0 rfl rfl) has0))) (fun _ => by kernel_rfl) (fun w hs => ?_) .ret (.inr rfl)
    exact ⟨(), by rw [he] <;> rfl, by rw [he]; exact hs.tail.tail⟩
   ·skip
    refine Xq (Xg 2 (Xe [(10,vp b2), (9,vp b1), (0,vp wb), (1,vi tick), (2,vi d), (3,vi th), (11,.nilIface), (13,vi op), (41,.bool (op == 11))] ?_ 2))
    refine Xc (op == 11) (fun h11 => ?_) (fun h11 => ?_)
    ·skip
     have he : wDoes c z tick d th op a b = (((0, 0), (wSend c z d a b).1), (wSend c z d a b).2) := by rw [eq_of_beq h11] <;> rfl
     refine Xq (Xg 10 (Xl [(10,vp b2), (9,vp b1), (0,vp wb), (1,vi tick), (2,vi d), (3,vi th), (11,.nilIface), (43,.agg #[vi 0, vi 0, vi 0]), (44,vp wb), (45,vi d), (47,vi a), (49,vi b)] [(⟨b1, 1, none⟩, vi a), (⟨b1, 2, none⟩, vi b)] (hasC (ba 1) (hasC (ba 1) has0)) ?_ 3 7))
     refine Xs (Xa (some 50) (fun _ => pqErr (wSend c z d a b).1) (chg_at 2 rfl (wsend_walk _ wb c P z hk.up.up hb d p x hp hx hl a b))) (fun _ => ?_) 2
     refine Xs (Xz [(0,vi 0), (1,vi 0), (2,vi 0)]) (fun _ => ?_) 1
     refine Xe [(10,vp b2), (9,vp b1), (0,vp wb), (1,vi tick), (2,vi d), (3,vi th), (11,pqErr (wSend c z d a b).1)] ?_ 1
     refine Xv (blockV (thenV ?_))
     refine doneG (.tuple #[.agg #[.int .i64 0, .int .i64 0, .int .i64 0], pqErr (wSend c z d a b).1]) [(⟨b2, 0, none⟩, .int .i64 0), (⟨b2, 1, none⟩, .int .i64 0), (⟨b2, 2, none⟩, .int .i64 0)] (hasC (blkAt (T := 31) (cs := [.int .i64 0, .int .i64 0, .int .i64 0]) 0 rfl rfl) (hasC (blkAt (T := 31) (cs := [.int .i64 0, .int .i64 0, .int .i64 0]) 0 rfl rfl) (hasC (blkAt (T := 31) (cs := [.int .i64 0, .int .i64 0, .int .i64 0]) 0 rfl rfl) has0))) (fun _ => by kernel_rfl) (fun w hs => ?_) .ret (.inr rfl)
     exact ⟨(), by rw [he] <;> rfl, by rw [he]; exact hs.tail.tail⟩
    ·skip
     refine Xq (Xg 2 (Xe [(10,vp b2), (9,vp b1), (0,vp wb), (1,vi tick), (2,vi d), (3,vi th), (11,.nilIface), (13,vi op), (51,.bool (op == 12))] ?_ 2))
     refine Xc (op == 12) (fun h12 => ?_) (fun h12 => ?_)
     ·skip
      have he : wDoes c z tick d th op a b = wRecv z d := by rw [eq_of_beq h12] <;> rfl
      refine Xq (Xg 7 (Xr [(10,vp b2), (9,vp b1), (0,vp wb), (1,vi tick), (2,vi d), (3,vi th), (11,.nilIface), (53,vp wb), (54,vi d)] ?_ 5 2))
      refine Xs (Xa (some 55) (fun _ => .tuple #[.agg #[vi 0, vi (wRecv z d).1.1.1, vi (wRecv z d).1.1.2], pqErr (wRecv z d).1.2]) (chg_at 2 rfl (wrecv_walk _ wb c P z d p x hp hx hl))) (fun _ => ?_) 4
      refine Xr [(10,vp b2), (9,vp b1), (0,vp wb), (1,vi tick), (2,vi d), (3,vi th), (11,.nilIface), (56,.agg #[vi 0, vi ((wRecv z d).1.1.1), vi ((wRecv z d).1.1.2)]), (57,pqErr (wRecv z d).1.2)] ?_ 2 2
      refine Xs (Xz [(0,vi 0), (1,vi ((wRecv z d).1.1.1)), (2,vi ((wRecv z d).1.1.2))]) (fun _ => ?_) 1
      refine Xe [(10,vp b2), (9,vp b1), (0,vp wb), (1,vi tick), (2,vi d), (3,vi th), (11,pqErr (wRecv z d).1.2)] ?_ 1
      refine Xv (blockV (thenV ?_))
      refine doneG (.tuple #[.agg #[.int .i64 0, .int .i64 ((wRecv z d).1.1.1), .int .i64 ((wRecv z d).1.1.2)], pqErr (wRecv z d).1.2]) [(⟨b2, 0, none⟩, .int .i64 0), (⟨b2, 1, none⟩, .int .i64 ((wRecv z d).1.1.1)), (⟨b2, 2, none⟩, .int .i64 ((wRecv z d).1.1.2))] (hasC (blkAt (T := 31) (cs := [.int .i64 0, .int .i64 ((wRecv z d).1.1.1), .int .i64 ((wRecv z d).1.1.2)]) 0 rfl rfl) (hasC (blkAt (T := 31) (cs := [.int .i64 0, .int .i64 ((wRecv z d).1.1.1), .int .i64 ((wRecv z d).1.1.2)]) 0 rfl rfl) (hasC (blkAt (T := 31) (cs := [.int .i64 0, .int .i64 ((wRecv z d).1.1.1), .int .i64 ((wRecv z d).1.1.2)]) 0 rfl rfl) has0))) (fun _ => by kernel_rfl) (fun w hs => ?_) .ret (.inr rfl)
      exact ⟨(), by rw [he] <;> rfl, by rw [he]; exact hs.tail.tail⟩
     ·skip
      refine Xq (Xg 2 (Xe [(10,vp b2), (9,vp b1), (0,vp wb), (1,vi tick), (2,vi d), (3,vi th), (11,.nilIface), (13,vi op), (58,.bool (op == 13))] ?_ 2))
      refine Xc (op == 13) (fun h13 => ?_) (fun h13 => ?_)
      ·skip
       have he : wDoes c z tick d th op a b = (((0, 0), (wLevel c z d a).1), (wLevel c z d a).2) := by rw [eq_of_beq h13] <;> rfl
       refine Xq (Xg 8 (Xl [(10,vp b2), (9,vp b1), (0,vp wb), (1,vi tick), (2,vi d), (3,vi th), (11,.nilIface), (60,.agg #[vi 0, vi 0, vi 0]), (61,vp wb), (62,vi d), (64,vi a)] [(⟨b1, 1, none⟩, vi a)] (hasC (ba 1) has0) ?_ 3 5))
       refine Xs (Xa (some 65) (fun _ => pqErr (wLevel c z d a).1) (chg_at 2 rfl (wlevel_walk _ wb c P z hk.up.up d a))) (fun _ => ?_) 2
       refine Xs (Xz [(0,vi 0), (1,vi 0), (2,vi 0)]) (fun _ => ?_) 1
       refine Xe [(10,vp b2), (9,vp b1), (0,vp wb), (1,vi tick), (2,vi d), (3,vi th), (11,pqErr (wLevel c z d a).1)] ?_ 1
       refine Xv (blockV (thenV ?_))
       refine doneG (.tuple #[.agg #[.int .i64 0, .int .i64 0, .int .i64 0], pqErr (wLevel c z d a).1]) [(⟨b2, 0, none⟩, .int .i64 0), (⟨b2, 1, none⟩, .int .i64 0), (⟨b2, 2, none⟩, .int .i64 0)] (hasC (blkAt (T := 31) (cs := [.int .i64 0, .int .i64 0, .int .i64 0]) 0 rfl rfl) (hasC (blkAt (T := 31) (cs := [.int .i64 0, .int .i64 0, .int .i64 0]) 0 rfl rfl) (hasC (blkAt (T := 31) (cs := [.int .i64 0, .int .i64 0, .int .i64 0]) 0 rfl rfl) has0))) (fun _ => by kernel_rfl) (fun w hs => ?_) .ret (.inr rfl)
       exact ⟨(), by rw [he] <;> rfl, by rw [he]; exact hs.tail.tail⟩
      ·skip
       refine Xq (Xg 2 (Xe [(10,vp b2), (9,vp b1), (0,vp wb), (1,vi tick), (2,vi d), (3,vi th), (11,.nilIface), (66,.bool (op == 14))] ?_ 2))
       refine Xc (op == 14) (fun h14 => ?_) (fun h14 => ?_)
       ·skip
        have he : wDoes c z tick d th op a b = (((0, 0), (wPlan c z d a).1), (wPlan c z d a).2) := by rw [eq_of_beq h14] <;> rfl
        refine Xq (Xg 8 (Xl [(10,vp b2), (9,vp b1), (0,vp wb), (1,vi tick), (2,vi d), (3,vi th), (11,.nilIface), (68,.agg #[vi 0, vi 0, vi 0]), (69,vp wb), (70,vi d), (72,vi a)] [(⟨b1, 1, none⟩, vi a)] (hasC (ba 1) has0) ?_ 3 5))
        refine Xs (Xa (some 73) (fun _ => pqErr (wPlan c z d a).1) (chg_at 2 rfl (wplan_walk _ wb c P z hk.up.up hcl d a))) (fun _ => ?_) 2
        refine Xs (Xz [(0,vi 0), (1,vi 0), (2,vi 0)]) (fun _ => ?_) 1
        refine Xe [(10,vp b2), (9,vp b1), (0,vp wb), (1,vi tick), (2,vi d), (3,vi th), (11,pqErr (wPlan c z d a).1)] ?_ 1
        refine Xv (blockV (thenV ?_))
        refine doneG (.tuple #[.agg #[.int .i64 0, .int .i64 0, .int .i64 0], pqErr (wPlan c z d a).1]) [(⟨b2, 0, none⟩, .int .i64 0), (⟨b2, 1, none⟩, .int .i64 0), (⟨b2, 2, none⟩, .int .i64 0)] (hasC (blkAt (T := 31) (cs := [.int .i64 0, .int .i64 0, .int .i64 0]) 0 rfl rfl) (hasC (blkAt (T := 31) (cs := [.int .i64 0, .int .i64 0, .int .i64 0]) 0 rfl rfl) (hasC (blkAt (T := 31) (cs := [.int .i64 0, .int .i64 0, .int .i64 0]) 0 rfl rfl) has0))) (fun _ => by kernel_rfl) (fun w hs => ?_) .ret (.inr rfl)
        exact ⟨(), by rw [he] <;> rfl, by rw [he]; exact hs.tail.tail⟩
       ·skip
        refine Xk (Xq ?_)
        have he : wDoes c z tick d th op a b = ((((kAct x.k tick th op a b).1.1, 0), (kAct x.k tick th op a b).1.2), wUp z d { x with k := (kAct x.k tick th op a b).2 }) := by rw [wDoes, hsd, if_neg (beq_eq_false_iff_ne.1 h8), if_neg (beq_eq_false_iff_ne.1 h9), if_neg (beq_eq_false_iff_ne.1 h10), if_neg (beq_eq_false_iff_ne.1 h11), if_neg (beq_eq_false_iff_ne.1 h12), if_neg (beq_eq_false_iff_ne.1 h13), if_neg (beq_eq_false_iff_ne.1 h14)]
        refine PT.know (wd_some 2 hp rfl) ?_
        rintro ⟨sb, so, hA⟩
        refine drawR (fun w => Sat w (blk b1 35 [.int .i64 op, .int .i64 a, .int .i64 b] :: wdAny wb c P :: H)) [] 18 (by kernel_rfl) (by kernel_rfl) (by kernel_rfl) (fun _ h => by first | exact any1 (h) | exact any1 (h.tail) | exact any1 (h.tail.tail) | exact any1 (h.tail.tail.tail) | exact any1 (h.tail.tail.tail.tail) | exact any1 (h.tail.tail.tail.tail.tail)) ?_
        refine takesR [0, 1, 2, 3, 4, 10, 11, 12] [10, 11, 77, 78, 84, 85, 86] 10 [true, true, true, true, true, false, false, false, false, false, true, true, true, false, false, false, false, false] [(10, .pointer (some ⟨b2, 0, none⟩)), (11, .nilIface), (77, .slice (some ⟨sb, so, none⟩) P.s.length P.n), (78, .int .i64 (d : Int)), (84, .int .i64 tick), (85, .int .i64 th), (86, .agg #[.int .i64 op, .int .i64 a, .int .i64 b])] [(⟨wb, 4, none⟩, .slice (some ⟨sb, so, none⟩) P.s.length P.n), (⟨b1, 0, none⟩, .int .i64 op), (⟨b1, 1, none⟩, .int .i64 a), (⟨b1, 2, none⟩, .int .i64 b)] rfl (fun _ d _ _ _ h => by cases d <;> exact h) (fun _ h => by first | exact any1 (h) | exact any1 (h.tail) | exact any1 (h.tail.tail) | exact any1 (h.tail.tail.tail) | exact any1 (h.tail.tail.tail.tail) | exact any1 (h.tail.tail.tail.tail.tail)) (hasC (wa_sides 1 hA rfl) (hasC (blkAt (T := 35) (cs := [.int .i64 op, .int .i64 a, .int .i64 b]) 0 rfl rfl) (hasC (blkAt (T := 35) (cs := [.int .i64 op, .int .i64 a, .int .i64 b]) 0 rfl rfl) (hasC (blkAt (T := 35) (cs := [.int .i64 op, .int .i64 a, .int .i64 b]) 0 rfl rfl) has0)))) (fun _ => by kernel_rfl) ?_
        refine takeR1 5 9 [true, true, true, true, true, true, false, false, false, false, true, true, true, false, false, false, false, false] rfl rfl (by kernel_rfl) (fun _ d _ _ _ h => by cases d <;> exact h) (fun _ h => by first | exact any1 (h) | exact any1 (h.tail) | exact any1 (h.tail.tail) | exact any1 (h.tail.tail.tail) | exact any1 (h.tail.tail.tail.tail) | exact any1 (h.tail.tail.tail.tail.tail)) (idxY 107 (.tmp 77) (.tmp 78) sb so P.s.length P.n d 1 110 (d : Int) .i64 (some 79) (fun _ => by kernel_rfl) (by kernel_rfl) (by kernel_rfl) (fun _ => by kernel_rfl) (fun _ => by kernel_rfl) Tryz.underlying107 (by kernel_rfl) (by first | rfl | assumption | simp) (by first | omega | (simp; done) | (simp; omega) | (simp at *; omega))) ?_
        refine takesR [6, 7, 8, 9] [10, 11, 84, 85, 86, 83] 5 [true, true, true, true, true, true, true, true, true, true, true, true, true, false, false, false, false, false] [(10, .pointer (some ⟨b2, 0, none⟩)), (11, .nilIface), (84, .int .i64 tick), (85, .int .i64 th), (86, .agg #[.int .i64 op, .int .i64 a, .int .i64 b]), (83, .pointer (some ⟨p.k, 0, none⟩))] [(⟨sb, so + d * 1, none⟩, .pointer (some ⟨p.b, 0, none⟩)), (⟨p.b, 0, none⟩, .pointer (some ⟨p.k, 0, none⟩))] rfl (fun _ d _ _ _ h => by cases d <;> exact h) (fun _ h => by first | exact any1 (h) | exact any1 (h.tail) | exact any1 (h.tail.tail) | exact any1 (h.tail.tail.tail) | exact any1 (h.tail.tail.tail.tail) | exact any1 (h.tail.tail.tail.tail.tail)) (hasC (wa_ptr 1 hA hp rfl) (hasC (wa_side 1 hp (i := 0) rfl rfl) has0)) (fun _ => by kernel_rfl) ?_
        refine oneR 13 4 [true, true, true, true, true, true, true, true, true, true, true, true, true, true, false, false, false, false] rfl rfl (by kernel_rfl) (callS 88 [.pointer (some ⟨p.k, 0, none⟩), .int .i64 tick, .int .i64 th, .agg #[.int .i64 op, .int .i64 a, .int .i64 b]] (some 87) (fun _ => .tuple #[.agg #[.int .i64 0, .int .i64 (kAct x.k tick th op a b).1.1, .int .i64 0], pqErr (kAct x.k tick th op a b).1.2]) (fun _ => (blk b2 31 [.int .i64 0, .int .i64 0, .int .i64 0] :: blk b1 35 [.int .i64 op, .int .i64 a, .int .i64 b] :: wdS wb c P (wUp z d { x with k := (kAct x.k tick th op a b).2 }) :: H)) (fun _ => by kernel_rfl) (chg_at (H := (blk b2 31 [.int .i64 0, .int .i64 0, .int .i64 0] :: blk b1 35 [.int .i64 op, .int .i64 a, .int .i64 b] :: wdS wb c P z :: H)) 2 rfl (hthr _))) (fun _ _ h hn => by first | exact h | exact h.tail | exact h.tail.tail | exact h.tail.tail.tail | exact any1 (h) | exact any1 (h.tail) | exact any1 (h.tail.tail) | exact any1 (h.tail.tail.tail) | exact any1 (h.tail.tail.tail.tail) | exact any1 (h.tail.tail.tail.tail.tail) | exact absurd hn (by decide)) (fun _ => ?_)
        refine takesR [14, 15] [10, 11, 88, 89] 2 [true, true, true, true, true, true, true, true, true, true, true, true, true, true, true, true, false, false] [(10, .pointer (some ⟨b2, 0, none⟩)), (11, .nilIface), (88, .agg #[.int .i64 0, .int .i64 ((kAct x.k tick th op a b).1.1), .int .i64 0]), (89, pqErr (kAct x.k tick th op a b).1.2)] [] rfl (fun _ d _ _ _ h => by cases d <;> exact h) (fun _ h => by first | exact any1 (h) | exact any1 (h.tail) | exact any1 (h.tail.tail) | exact any1 (h.tail.tail.tail) | exact any1 (h.tail.tail.tail.tail) | exact any1 (h.tail.tail.tail.tail.tail)) has0 (fun _ => by kernel_rfl) ?_
        refine oneR 16 1 [true, true, true, true, true, true, true, true, true, true, true, true, true, true, true, true, true, false] rfl rfl (by kernel_rfl) (storeS [(0, .int .i64 0), (1, .int .i64 ((kAct x.k tick th op a b).1.1)), (2, .int .i64 0)] [.int .i64 0, .int .i64 ((kAct x.k tick th op a b).1.1), .int .i64 0] (fun _ => by kernel_rfl) (by kernel_rfl) (by kernel_rfl)) (fun _ _ h hn => by first | exact h | exact h.tail | exact h.tail.tail | exact h.tail.tail.tail | exact any1 (h) | exact any1 (h.tail) | exact any1 (h.tail.tail) | exact any1 (h.tail.tail.tail) | exact any1 (h.tail.tail.tail.tail) | exact any1 (h.tail.tail.tail.tail.tail) | exact absurd hn (by decide)) (fun _ => ?_)
        refine takesR [17] [10, 11] 0 [true, true, true, true, true, true, true, true, true, true, true, true, true, true, true, true, true, true] [(10, .pointer (some ⟨b2, 0, none⟩)), (11, pqErr (kAct x.k tick th op a b).1.2)] [] rfl (fun _ d _ _ _ h => by cases d <;> exact h) (fun _ h => by first | exact any1 (h) | exact any1 (h.tail) | exact any1 (h.tail.tail) | exact any1 (h.tail.tail.tail) | exact any1 (h.tail.tail.tail.tail) | exact any1 (h.tail.tail.tail.tail.tail)) has0 (fun _ => by kernel_rfl) ?_
        refine Xd (Xv ?_)
        refine doneG (.tuple #[.agg #[.int .i64 0, .int .i64 ((kAct x.k tick th op a b).1.1), .int .i64 0], pqErr (kAct x.k tick th op a b).1.2]) [(⟨b2, 0, none⟩, .int .i64 0), (⟨b2, 1, none⟩, .int .i64 ((kAct x.k tick th op a b).1.1)), (⟨b2, 2, none⟩, .int .i64 0)] (hasC (blkAt (T := 31) (cs := [.int .i64 0, .int .i64 ((kAct x.k tick th op a b).1.1), .int .i64 0]) 0 rfl rfl) (hasC (blkAt (T := 31) (cs := [.int .i64 0, .int .i64 ((kAct x.k tick th op a b).1.1), .int .i64 0]) 0 rfl rfl) (hasC (blkAt (T := 31) (cs := [.int .i64 0, .int .i64 ((kAct x.k tick th op a b).1.1), .int .i64 0]) 0 rfl rfl) has0))) (fun _ => by kernel_rfl) (fun w hs => ?_) .ret (.inr rfl)
        exact ⟨(), by rw [he] <;> rfl, by rw [he]; exact hs.tail.tail⟩
end Go.Proofs.YtfhkgohokbkgiaaGreatDoor
set_option linter.unusedVariables false
set_option linter.unusedSimpArgs false
namespace Go.Proofs.YtfhkgohokbkgiaaGreatDoor
open Go.RowKit G Go.Extern.Stop Go.Stop Go.Extern
theorem asValueOfP (t : Addr) (w : World) : (ReflectliteValue.unpack (.iface 128 (.pointer (some t)))).run Tryz.prog w
    = .ok (.agg #[.pointer (some ⟨1, 128, none⟩), .pointer (some ⟨w.heap.size, 0, none⟩), .int .u64 150]) (w.alloc (.cells #[.pointer (some t)] 128)) := by kernel_rfl
theorem asTypeP (a : Addr) (w : World) : (ReflectliteValue.methodAny (ReflectliteValue.valueError "reflectlite.Value.Type" 0) (fun t _ _ _ => ReflectliteType.toType t) #[.agg #[.pointer (some ⟨1, 128, none⟩), .pointer (some a), .int .u64 150]]).run Tryz.prog w
    = .ok (.iface 261 (.agg #[.pointer (some ⟨1, 128, none⟩)])) w := by kernel_rfl
theorem asMethKind (k : Nat) (h : Value) (w : World) : (Go.method (k + 2) 261 (.agg #[h]) "Kind").run Tryz.prog w = .ok (271, h) w := by kernel_rfl
theorem asMethElem (k : Nat) (h : Value) (w : World) : (Go.method (k + 1) 261 (.agg #[h]) "Elem").run Tryz.prog w = .ok (286, .agg #[h]) w := by kernel_rfl
theorem asMethImpl (k : Nat) (h : Value) (w : World) : (Go.method (k + 1) 261 (.agg #[h]) "Implements").run Tryz.prog w = .ok (287, .agg #[h]) w := by kernel_rfl
theorem asMethAsgn (k : Nat) (h : Value) (w : World) : (Go.method (k + 1) 261 (.agg #[h]) "AssignableTo").run Tryz.prog w = .ok (284, .agg #[h]) w := by kernel_rfl
theorem asKindP (w : World) : ((ReflectliteType.abiMethod fun t => (fun a : Nat => Value.int IntKind.u8 (a : Int)) <$> Rtype.kind t) #[.pointer (some ⟨1, 128, none⟩)]).run Tryz.prog w = .ok (.int .u8 22) w := by kernel_rfl
theorem asKindE (w : World) : ((ReflectliteType.abiMethod fun t => (fun a : Nat => Value.int IntKind.u8 (a : Int)) <$> Rtype.kind t) #[.pointer (some ⟨1, 126, none⟩)]).run Tryz.prog w = .ok (.int .u8 2) w := by kernel_rfl
theorem asRlm (z : Sem Value) (f : TypeId → Addr → Nat → Nat → Sem Value) (v : Value) :
    ReflectliteValue.method z f #[v] = (do match ← ReflectliteValue.parts v with | none => z | some (t, a, fl) => f t a fl (fl % 32)) := rfl
theorem asPartsP (a : Addr) (w : World) : (ReflectliteValue.parts (.agg #[.pointer (some ⟨1, 128, none⟩), .pointer (some a), .int .u64 150])).run Tryz.prog w = .ok (some (128, a, 150)) w := by kernel_rfl
theorem asIsNilP (a p : Addr) (W : World) (ha : W.cell? a = some (.pointer (some p))) :
    (ReflectliteValue.method (ReflectliteValue.valueError "reflectlite.Value.IsNil" 0) ReflectliteValue.isNil #[.agg #[.pointer (some ⟨1, 128, none⟩), .pointer (some a), .int .u64 150]]).run Tryz.prog W = .ok (.bool false) W := by
  rw [asRlm]
  simp only [Sem.run_bind, asPartsP, Result.andThen]
  simp [ReflectliteValue.isNil, loadVar, isAgg, underlying, Tryz.underlying128, ha, Result.andThen]
theorem asElemP (w : World) : (ReflectliteType.method ReflectliteType.elem #[.agg #[.pointer (some ⟨1, 128, none⟩)]]).run Tryz.prog w = .ok (.iface 261 (.agg #[.pointer (some ⟨1, 126, none⟩)])) w := by kernel_rfl
theorem asImplE (w : World) : (ReflectliteType.relation "Implements" ReflectliteType.implements_ #[.agg #[.pointer (some ⟨1, 126, none⟩)], .iface 261 (.agg #[.pointer (some ⟨1, 123, none⟩)])]).run Tryz.prog w = .ok (.bool true) w := by kernel_rfl
theorem asTypeOfE (v : Value) (w : World) : (ReflectliteType.typeOf #[.iface 126 v]).run Tryz.prog w = .ok (.iface 261 (.agg #[.pointer (some ⟨1, 126, none⟩)])) w := by kernel_rfl
theorem asAsgnE (w : World) : (ReflectliteType.relation "AssignableTo" ReflectliteType.assignableTo #[.agg #[.pointer (some ⟨1, 126, none⟩)], .iface 261 (.agg #[.pointer (some ⟨1, 126, none⟩)])]).run Tryz.prog w = .ok (.bool true) w := by kernel_rfl
theorem asValueOfE (e : Int) (w : World) : (ReflectliteValue.unpack (.iface 126 (.int .i64 e))).run Tryz.prog w
    = .ok (.agg #[.pointer (some ⟨1, 126, none⟩), .pointer (some ⟨w.heap.size, 0, none⟩), .int .u64 130]) (w.alloc (.cells #[.int .i64 e] 126)) := by kernel_rfl
theorem asElemOfP (w : World) : (Rtype.elem? 128).run Tryz.prog w = .ok (some 126) w := by kernel_rfl
theorem asMkE (p : Addr) (w : World) : (ReflectliteValue.mk 126 p ReflectliteValue.flagAddr).run Tryz.prog w = .ok (.agg #[.pointer (some ⟨1, 126, none⟩), .pointer (some p), .int .u64 386]) w := by kernel_rfl
theorem asElemVP (a p : Addr) (W : World) (ha : W.cell? a = some (.pointer (some p))) :
    (ReflectliteValue.method (ReflectliteValue.valueError "reflectlite.Value.Elem" 0) ReflectliteValue.elem #[.agg #[.pointer (some ⟨1, 128, none⟩), .pointer (some a), .int .u64 150]]).run Tryz.prog W
      = .ok (.agg #[.pointer (some ⟨1, 126, none⟩), .pointer (some p), .int .u64 386]) W := by
  rw [asRlm]
  simp only [Sem.run_bind, asPartsP, Result.andThen]
  simp [ReflectliteValue.elem, loadVar, isAgg, underlying, Tryz.underlying128, ha, Result.andThen, asElemOfP, asMkE]
theorem asRls (v x : Value) : ReflectliteValue.set #[v, x] = (do
    let (some (dst, a, fl), some (src, b, _)) := (← ReflectliteValue.parts v, ← ReflectliteValue.parts x)
      | unsupported (.noEntry "extern/(internal/reflectlite.Value).Set.zeroValue")
    if fl / ReflectliteValue.flagAddr % 2 == 0 then unsupported (.noEntry "extern/(internal/reflectlite.Value).Set.unaddressable")
    let val ← loadVar src b
    if ← Rtype.directlyAssignable dst src then storeVar dst a val
    else if ← Rtype.implements dst src then
      if (← Rtype.kind src) == 20 then
        match val with
        | .nilIface => unsupported (.noEntry "extern/reflectlite: a nil value of one interface type handed on as a value of another")
        | _ => storeVar dst a val
      else storeVar dst a (.iface src val)
    else panicString ("reflectlite.Set: value of type " ++ (← Rtype.spelt src) ++ " is not assignable to type " ++ (← Rtype.spelt dst))
    pure (.tuple #[])) := rfl
theorem asPartsEa (a : Addr) (w : World) : (ReflectliteValue.parts (.agg #[.pointer (some ⟨1, 126, none⟩), .pointer (some a), .int .u64 386])).run Tryz.prog w = .ok (some (126, a, 386)) w := by kernel_rfl
theorem asPartsE (a : Addr) (w : World) : (ReflectliteValue.parts (.agg #[.pointer (some ⟨1, 126, none⟩), .pointer (some a), .int .u64 130])).run Tryz.prog w = .ok (some (126, a, 130)) w := by kernel_rfl
theorem asDirect (w : World) : (Rtype.directlyAssignable 126 126).run Tryz.prog w = .ok true w := by kernel_rfl
theorem asSet (ta b : Addr) (e : Int) (old : Value) (W : World) (hb : W.cell? b = some (.int .i64 e)) (ht : W.cell? ta = some old) (hf : W.frozen? ta = false) :
    (ReflectliteValue.set #[.agg #[.pointer (some ⟨1, 126, none⟩), .pointer (some ta), .int .u64 386], .agg #[.pointer (some ⟨1, 126, none⟩), .pointer (some b), .int .u64 130]]).run Tryz.prog W
      = .ok (.tuple #[]) (W.setCell ta (.int .i64 e)) := by
  rw [asRls]
  simp only [Sem.run_bind, asPartsEa, asPartsE, Result.andThen]
  simp [ReflectliteValue.flagAddr, loadVar, isAgg, underlying, Tryz.underlying126, hb, Result.andThen, asDirect, storeVar, Value.cells, storeCells, Addr.add]
  rw [run_store Tryz.prog W ta _ _ (by rfl)]
  simp [ht, hf]
/-- What the package errors keeps: the type of errors. -/
def errT : Value := .iface 261 (.agg #[.pointer (some ⟨1, 123, none⟩)])
set_option maxHeartbeats 4000000 in
set_option maxRecDepth 100000 in
theorem as_errno_w (e : Int) (t : Addr) (old : Value) (w : World) (hg : w.cell? ⟨0, 0, none⟩ = some (.iface 261 (.agg #[.pointer (some ⟨1, 123, none⟩)]))) (ht0 : w.cell? t = some old) (hf0 : w.frozen? t = false) :
    Calls Tryz.prog 49 #[.iface 126 (.int .i64 e), .iface 128 (.pointer (some t))] w fun ev w' => ev = .returned (.bool true) ∧ w' = ((((w.alloc (.cells #[.pointer (some t)] 128)).alloc (.cells #[.pointer (some ⟨1, 128, none⟩), .pointer (some ⟨w.heap.size, 0, none⟩), .int .u64 150] 192)).alloc (.cells #[.pointer (some ⟨1, 128, none⟩), .pointer (some ⟨w.heap.size, 0, none⟩), .int .u64 150] 192)).alloc (.cells #[.int .i64 e] 126)).setCell t (.int .i64 e) := by
  have h6 := @run_callFunc_extern Tryz.prog 89 _ (fun args => ReflectliteValue.unpack (args.getD 0 (.tuple #[]))) Tryz.func89 (by kernel_rfl) (by kernel_rfl) (by kernel_rfl) (by kernel_rfl)
  have h7 := @run_callFunc_extern Tryz.prog 90 _ (ReflectliteValue.methodAny (ReflectliteValue.valueError "reflectlite.Value.Type" 0) (fun t _ _ _ => ReflectliteType.toType t)) Tryz.func90 (by kernel_rfl) (by kernel_rfl) (by kernel_rfl) (by kernel_rfl)
  have h8 := @run_callFunc_extern Tryz.prog 91 _ (ReflectliteValue.method (ReflectliteValue.valueError "reflectlite.Value.IsNil" 0) ReflectliteValue.isNil) Tryz.func91 (by kernel_rfl) (by kernel_rfl) (by kernel_rfl) (by kernel_rfl)
  have h27 := @run_callFunc_extern Tryz.prog 271 _ (ReflectliteType.abiMethod fun t => do pure (.int .u8 (← Rtype.kind t))) Tryz.func271 (by kernel_rfl) (by kernel_rfl) (by kernel_rfl) (by kernel_rfl)
  have h37 := @run_callFunc_extern Tryz.prog 286 _ (ReflectliteType.method ReflectliteType.elem) Tryz.func286 (by kernel_rfl) (by kernel_rfl) (by kernel_rfl) (by kernel_rfl)
  have h38 := @run_callFunc_extern Tryz.prog 287 _ (ReflectliteType.relation "Implements" ReflectliteType.implements_) Tryz.func287 (by kernel_rfl) (by kernel_rfl) (by kernel_rfl) (by kernel_rfl)
  have h10 := @run_callFunc_extern Tryz.prog 135 _ ReflectliteType.typeOf Tryz.func135 (by kernel_rfl) (by kernel_rfl) (by kernel_rfl) (by kernel_rfl)
  have h35 := @run_callFunc_extern Tryz.prog 284 _ (ReflectliteType.relation "AssignableTo" ReflectliteType.assignableTo) Tryz.func284 (by kernel_rfl) (by kernel_rfl) (by kernel_rfl) (by kernel_rfl)
  have h11 := @run_callFunc_extern Tryz.prog 136 _ (ReflectliteValue.method (ReflectliteValue.valueError "reflectlite.Value.Elem" 0) ReflectliteValue.elem) Tryz.func136 (by kernel_rfl) (by kernel_rfl) (by kernel_rfl) (by kernel_rfl)
  have h12 := @run_callFunc_extern Tryz.prog 137 _ ReflectliteValue.set Tryz.func137 (by kernel_rfl) (by kernel_rfl) (by kernel_rfl) (by kernel_rfl)
  have tO := asTypeOfE
  have mA := asMethAsgn
  have a25 := asAsgnE
  have v25 := asValueOfE
  have f6 := asValueOfP
  have f7 := asTypeP
  have mK := asMethKind
  have mE := asMethElem
  have mI := asMethImpl
  have k27 := asKindP
  have k25 := asKindE
  have e27 := asElemP
  have i25 := asImplE
  have n8 := asIsNilP ⟨w.heap.size, 0, none⟩ t ((w.alloc (.cells #[.pointer (some t)] 128)).alloc (.cells #[.pointer (some ⟨1, 128, none⟩), .pointer (some ⟨w.heap.size, 0, none⟩), .int .u64 150] 192)) (by simp)
  have hlt : 0 < w.heap.size := by
    rcases Nat.lt_or_ge 0 w.heap.size with h | h
    · exact h
    · simp [World.cell?, Array.getElem?_eq_none h] at hg
  have hg2 : ((w.alloc (.cells #[.pointer (some t)] 128)).alloc (.cells #[.pointer (some ⟨1, 128, none⟩), .pointer (some ⟨w.heap.size, 0, none⟩), .int .u64 150] 192)).cell? ⟨0, 0, none⟩ = some (.iface 261 (.agg #[.pointer (some ⟨1, 123, none⟩)])) := by
    rw [World.cell?_alloc_lt _ _ ⟨0, 0, none⟩ (by first | (simp; done) | (simp; omega)), World.cell?_alloc_lt _ _ ⟨0, 0, none⟩ hlt]; exact hg
  have htl : t.block < w.heap.size := by
    rcases Nat.lt_or_ge t.block w.heap.size with h | h
    · exact h
    · simp [World.cell?, Array.getElem?_eq_none h] at ht0
  have el := asElemVP ⟨w.heap.size, 0, none⟩ t (((w.alloc (.cells #[.pointer (some t)] 128)).alloc (.cells #[.pointer (some ⟨1, 128, none⟩), .pointer (some ⟨w.heap.size, 0, none⟩), .int .u64 150] 192)).alloc (.cells #[.pointer (some ⟨1, 128, none⟩), .pointer (some ⟨w.heap.size, 0, none⟩), .int .u64 150] 192)) (by rw [World.cell?_alloc_lt _ _ ⟨w.heap.size, 0, none⟩ (by simp; omega)]; simp)
  have st := asSet t ⟨w.heap.size + 1 + 1 + 1, 0, none⟩ e old ((((w.alloc (.cells #[.pointer (some t)] 128)).alloc (.cells #[.pointer (some ⟨1, 128, none⟩), .pointer (some ⟨w.heap.size, 0, none⟩), .int .u64 150] 192)).alloc (.cells #[.pointer (some ⟨1, 128, none⟩), .pointer (some ⟨w.heap.size, 0, none⟩), .int .u64 150] 192)).alloc (.cells #[.int .i64 e] 126))
    (by rw [World.cell?_alloc_at _ _ _ _ (by simp)]; rfl)
    (by rw [World.cell?_alloc_lt _ _ t (by simp; omega), World.cell?_alloc_lt _ _ t (by simp; omega), World.cell?_alloc_lt _ _ t (by simp; omega), World.cell?_alloc_lt _ _ t htl]; exact ht0)
    (by rw [World.frozen?_alloc_old _ _ t (by simp; omega), World.frozen?_alloc_old _ _ t (by simp; omega), World.frozen?_alloc_old _ _ t (by simp; omega), World.frozen?_alloc_old _ _ t (Nat.ne_of_lt htl)]; exact hf0)
  go_enter Tryz.func49, Tryz.ntmps49
  go_wp2
  refine wp_loop_rounds 1 ?_
  rw [rounds_succ]
  go_wp2
  go_ret
  exact ⟨rfl, rfl⟩
/-- The memory tells what the package errors keeps. -/
def EK (H : List SP) : Prop := ∀ w, Sat w H → w.cell? ⟨0, 0, none⟩ = some errT
theorem EK.up {X : SP} {H : List SP} (h : EK H) : EK (X :: H) := fun w hs => h w hs.tail
theorem EK.old {W : World} {H : List SP} (i : Nat) (hi : H[i]? = some (old W)) (h : W.cell? ⟨0, 0, none⟩ = some errT) : EK H := fun w hs => by
  obtain ⟨G, ⟨h1, h2⟩, _⟩ := Sat.pick i hi hs
  have hlt : 0 < W.heap.size := by
    rcases Nat.lt_or_ge 0 W.heap.size with c | c
    · exact c
    · simp [World.cell?, Array.getElem?_eq_none c] at h
  rw [← h]
  have e := h1.2.2.2.2 _ hlt
  unfold World.cell?
  rw [e]
theorem as_errno (H : List SP) (hE : EK H) (e old : Int) (b : Nat) : ∀ w, Sat w (blk b 126 [.int .i64 old] :: H) → Calls Tryz.prog 49 #[.iface 126 (.int .i64 e), .iface 128 (.pointer (some ⟨b, 0, none⟩))] w (Ret (ι := Unit) (fun _ => .bool true) fun _ => blk b 126 [.int .i64 e] :: H) := fun w hs => by
  have h1 := blkAt (b := b) (T := 126) (cs := [.int .i64 old]) (H := blk b 126 [.int .i64 old] :: H) 0 rfl (j := 0) rfl w hs
  have h2 : w.frozen? ⟨b, 0, none⟩ = false := by obtain ⟨G, hG⟩ := hs.head; exact hG.1.frozen 0
  refine (as_errno_w e ⟨b, 0, none⟩ (.int .i64 old) w (hE.up w hs) h1 h2).mono ?_
  rintro ev w' ⟨rfl, rfl⟩
  refine ⟨(), rfl, ?_⟩
  exact Sat.change ((((hs.stay (Upd.alloc _ _ _)).stay (Upd.alloc _ _ _)).stay (Upd.alloc _ _ _)).stay (Upd.alloc _ _ _)) fun G hG => ⟨Upd.setCell _ ⟨b, 0, none⟩ _ ((hG.2 b).2 rfl), G, ⟨hG.1.set 0 _, hG.2⟩, fun x hx => .inl hx⟩
end Go.Proofs.YtfhkgohokbkgiaaGreatDoor
set_option linter.unusedVariables false
set_option linter.unusedSimpArgs false
namespace Go.Proofs.YtfhkgohokbkgiaaGreatDoor
open Go.RowKit G
set_option maxRecDepth 100000 in
theorem as_nil (H : List SP) (b : Nat) : ∀ w, Sat w H → Calls Tryz.prog 49 #[.nilIface, .iface 128 (vp b)] w (Ret (ι := Unit) (fun _ => .bool false) fun _ => H) := by
 refine enterG (fn := Tryz.f49) 42 [.nilIface, .iface 128 (vp b)] Tryz.func49 (by kernel_rfl) (by kernel_rfl) (by kernel_rfl) ?_
 refine Xq (Xg 1 (Xe [(0,.nilIface), (1,.iface 128 (vp b)), (4,.bool false)] ?_ 1))
 refine Xq (Xq (Xg 2 (Xe [(0,.nilIface), (1,.iface 128 (vp b)), (4,.bool false), (9,.bool true)] ?_ 2)))
 refine Xc true (fun _ => ?_) (fun h => by cases h)
 refine Xq (Xg 1 (Xe [(0,.nilIface), (1,.iface 128 (vp b)), (4,.bool false)] ?_ 1))
 refine Xv (thenV (Y0 (.bool false) (fun w hs => ?_)))
 exact ⟨(), rfl, hs⟩
theorem wUp_len (z : WS) (d : Nat) (x : SdS) : (wUp z d x).s.length = z.s.length := by simp [wUp]
theorem wDoes_len (c : ConfV) (z : WS) (tick : Int) (d : Nat) (th op a b : Int) : (wDoes c z tick d th op a b).2.s.length = z.s.length := by
 unfold wDoes
 split
 ·rfl
 split
 ·rfl
 split
 ·unfold wAudit; split
  ·split
   ·exact wUp_len _ _ _
   ·rfl
  ·rfl
 split
 ·unfold wSend; split
  ·split
   ·rfl
   ·simp only [wPut, wPay, wUp_len]
  ·rfl
 split
 ·unfold wRecv; split
  ·exact wUp_len _ _ _
  ·rfl
 split
 ·unfold wLevel; split <;> rfl
 split
 ·unfold wPlan; split <;> rfl
 ·exact wUp_len _ _ _
set_option maxHeartbeats 2000000 in
set_option maxRecDepth 100000 in
theorem wact_walk (H : List SP) (hE : EK H) (wb : Nat) (c : ConfV) (P : WP) (z : WS) (hk : KC H c) (hcl : c.domains.l.length ≤ 1000) (hb : ∀ y ∈ z.s, y.b.l.length < 100000) (d : Nat) (p : SdP) (x : SdS) (hp : P.s[d]? = some p) (hx : z.s[d]? = some x) (hl : P.s.length ≤ 1000) (hid : x.k.nx ≤ 1099511627776) (tick th op a b : Int) : ∀ v, Sat v (wdS wb c P z :: H) → Calls Tryz.prog 14 #[vp wb, vi tick, vi d, vi th, .agg #[vi op, vi a, vi b]] v (Ret (ι := Unit) (fun _ => .tuple #[.agg #[vi (wAct c z tick d th op a b).1.1.1, vi (wAct c z tick d th op a b).1.1.2.1, vi (wAct c z tick d th op a b).1.1.2.2], .bool (wAct c z tick d th op a b).1.2]) fun _ => wdS wb c P (wAct c z tick d th op a b).2 :: H) := by
 have hdl := (List.getElem?_eq_some_iff.1 hp).1
 have hsd := sdAt_of hx
 refine enterG (fn := Tryz.f14) 55 [vp wb, vi tick, vi d, vi th, .agg #[vi op, vi a, vi b]] Tryz.func14 (by kernel_rfl) (by kernel_rfl) (by kernel_rfl) ?_
 refine Xq (Xg 3 (Xs (Xn 35 [vi op, vi a, vi b] (some 9) (fun b => vp b)) (fun b1 => ?_) 2))
 refine Xs (Xn 31 [vi 0, vi 0, vi 0] (some 10) (fun b => vp b)) (fun b2 => ?_) 1
 refine Xe [(10,vp b2), (9,vp b1), (0,vp wb), (1,vi tick), (2,vi d), (3,vi th), (11,.bool false)] ?_ 1
 refine Xq (Xg 4 (Xr [(10,vp b2), (9,vp b1), (0,vp wb), (1,vi tick), (2,vi d), (3,vi th), (11,.bool false), (16,vp wb), (17,vi d)] ?_ 2 2))
 refine Xs (Xa (some 18) (fun _ => .pointer (some ⟨p.b, 0, none⟩)) (chg_at 2 rfl (wside_walk _ wb c P z d p x hp hx hl))) (fun _ => ?_) 1
 refine Xe [(10,vp b2), (9,vp b1), (0,vp wb), (1,vi tick), (2,vi d), (3,vi th), (11,.bool false), (12,.pointer (some ⟨p.b, 0, none⟩))] ?_ 1
 refine Xq (Xq (Xg 7 (Xm [(10,vp b2), (9,vp b1), (0,vp wb), (1,vi tick), (2,vi d), (3,vi th), (11,.bool false), (12,.pointer (some ⟨p.b, 0, none⟩)), (25,.bool (op == 0))] [(⟨b1, 0, none⟩, vi op)] (hasC (ba 1) has0) ?_ 7)))
 refine Xc (op == 0) (fun h1 => ?_) (fun h1 => ?_)
 ·skip
  have he : wAct c z tick d th op a b = (((0, 0, 0), false), z) := by rw [wAct, if_pos (eq_of_beq h1)]
  refine Xq (Xg 3 (Xr [(10,vp b2), (9,vp b1), (0,vp wb), (1,vi tick), (2,vi d), (3,vi th), (11,.bool false), (12,.pointer (some ⟨p.b, 0, none⟩)), (26,.agg #[vi 0, vi 0, vi 0])] ?_ 2 1))
  refine Xs (Xz [(0,vi 0), (1,vi 0), (2,vi 0)]) (fun _ => ?_) 1
  refine Xe [(10,vp b2), (9,vp b1), (0,vp wb), (1,vi tick), (2,vi d), (3,vi th), (11,.bool false), (12,.pointer (some ⟨p.b, 0, none⟩))] ?_ 1
  refine Xv (thenV ?_)
  refine doneG (.tuple #[.agg #[.int .i64 0, .int .i64 0, .int .i64 0], .bool false]) [(⟨b2, 0, none⟩, .int .i64 0), (⟨b2, 1, none⟩, .int .i64 0), (⟨b2, 2, none⟩, .int .i64 0)] (hasC (blkAt (T := 31) (cs := [.int .i64 0, .int .i64 0, .int .i64 0]) 0 rfl rfl) (hasC (blkAt (T := 31) (cs := [.int .i64 0, .int .i64 0, .int .i64 0]) 0 rfl rfl) (hasC (blkAt (T := 31) (cs := [.int .i64 0, .int .i64 0, .int .i64 0]) 0 rfl rfl) has0))) (fun _ => by kernel_rfl) (fun w hs => ?_) .ret (.inr rfl)
  exact ⟨(), by rw [he] <;> rfl, by rw [he]; exact hs.tail.tail⟩
 ·skip
  have h0 : op ≠ 0 := beq_eq_false_iff_ne.1 h1
  refine Xk (Xq (Xg 12 (Xl [(10,vp b2), (9,vp b1), (1,vi tick), (11,.bool false), (12,.pointer (some ⟨p.b, 0, none⟩)), (28,vp wb), (29,vi tick), (30,vi d), (31,vi th), (32,.agg #[vi op, vi a, vi b])] [(⟨b1, 0, none⟩, vi op), (⟨b1, 1, none⟩, vi a), (⟨b1, 2, none⟩, vi b)] (hasC (ba 1) (hasC (ba 1) (hasC (ba 1) has0))) ?_ 7 5)))
  refine Xs (Xa (some 33) (fun _ => .tuple #[.agg #[vi 0, vi (wDoes c z tick d th op a b).1.1.1, vi (wDoes c z tick d th op a b).1.1.2], pqErr (wDoes c z tick d th op a b).1.2]) (chg_at 2 rfl (wdoes_walk _ wb c P z hk.up.up hcl hb d p x hp hx hl hid tick th op a b))) (fun _ => ?_) 6
  obtain ⟨y, hy⟩ : ∃ y, (wDoes c z tick d th op a b).2.s[d]? = some y := ⟨_, List.getElem?_eq_getElem (by rw [wDoes_len]; exact (List.getElem?_eq_some_iff.1 hx).1)⟩
  have hadd : ∀ (cd : Int) (H : List SP), ∀ v, Sat v (wdS wb c P (wDoes c z tick d th op a b).2 :: H) → Calls Tryz.prog 51 #[.pointer (some ⟨p.r, 0, none⟩), .int .i64 tick, .int .i64 op, .int .i64 cd] v (Ret (ι := Unit) (fun _ => .tuple #[]) fun _ => wdS wb c P (wUp (wDoes c z tick d th op a b).2 d { y with r := rgAdd y.r tick op cd }) :: H) := by
   intro cd H
   have := wdRing (wb := wb) (c := c) (P := P) (X := fun _ : Unit => []) (k' := fun _ => rgAdd y.r tick op cd) hp hy (fun H => rgAdd_c H p.r y.r tick op cd) H
   simp only [List.nil_append] at this
   exact this
  refine Xr [(10,vp b2), (9,vp b1), (1,vi tick), (11,.bool false), (12,.pointer (some ⟨p.b, 0, none⟩)), (34,.agg #[vi 0, vi ((wDoes c z tick d th op a b).1.1.1), vi ((wDoes c z tick d th op a b).1.1.2)]), (35,pqErr (wDoes c z tick d th op a b).1.2)] ?_ 3 3
  refine Xs (Xn 31 [vi 0, vi 0, vi 0] (some 13) (fun b => vp b)) (fun b3 => ?_) 2
  refine Xs (Xz [(0,vi 0), (1,vi ((wDoes c z tick d th op a b).1.1.1)), (2,vi ((wDoes c z tick d th op a b).1.1.2))]) (fun _ => ?_) 1
  refine Xe [(13,vp b3), (10,vp b2), (9,vp b1), (1,vi tick), (11,.bool false), (12,.pointer (some ⟨p.b, 0, none⟩)), (14,pqErr (wDoes c z tick d th op a b).1.2)] ?_ 1
  refine Xq (Xg 1 (Xs (Xn 126 [vi 0] (some 15) (fun b => vp b)) (fun b4 => ?_) 0))
  refine endR ?_
  refine Xq (Xq (Xg 3 (Xr [(15,vp b4), (13,vp b3), (10,vp b2), (9,vp b1), (1,vi tick), (11,.bool false), (12,.pointer (some ⟨p.b, 0, none⟩)), (36,pqErr (wDoes c z tick d th op a b).1.2), (37,.iface 128 (vp b4))] ?_ 1 2)))
  by_cases hz0 : (wDoes c z tick d th op a b).1.2 = 0
  ·skip
   have hsay : wSays (wDoes c z tick d th op a b).1 = (0, (wDoes c z tick d th op a b).1.1.1, (wDoes c z tick d th op a b).1.1.2) := by rw [wSays, if_pos hz0]
   refine Xs (callS 49 [pqErr (wDoes c z tick d th op a b).1.2, .iface 128 (.pointer (some ⟨b4, 0, none⟩))] (some 38) (fun _ => .bool false) (fun _ => (blk b4 126 [.int .i64 0] :: blk b3 31 [.int .i64 0, .int .i64 ((wDoes c z tick d th op a b).1.1.1), .int .i64 ((wDoes c z tick d th op a b).1.1.2)] :: blk b2 31 [.int .i64 0, .int .i64 0, .int .i64 0] :: blk b1 35 [.int .i64 op, .int .i64 a, .int .i64 b] :: wdS wb c P (wDoes c z tick d th op a b).2 :: H)) (fun _ => by kernel_rfl) ((by rw [hz0]; exact as_nil _ b4))) (fun _ => ?_) 0
   refine endR ?_
   refine Xc false (fun h => by cases h) (fun _ => ?_)
   refine Xk (Xq (Xq (Xg 3 (Xl [(13,vp b3), (10,vp b2), (9,vp b1), (1,vi tick), (11,.bool false), (12,.pointer (some ⟨p.b, 0, none⟩)), (42,vi op)] [(⟨b1, 0, none⟩, vi op)] (hasC (ba 3) has0) ?_ 1 2))))
   refine Xs (Xa (some 43) (fun _ => .bool (isKept op)) (iskept_walk _ op)) (fun _ => ?_) 0
   refine endR ?_
   cases hkp : ((isKept op)) with
   | true =>
    have he : wAct c z tick d th op a b = (((0, (wDoes c z tick d th op a b).1.1.1, (wDoes c z tick d th op a b).1.1.2), true), wUp (wDoes c z tick d th op a b).2 d { y with r := rgAdd y.r tick op (0) }) := by rw [wAct, if_neg h0, hsay, wKeep, if_pos hkp, sdAt_of hy]
    refine Xc true (fun _ => ?_) (fun h => by cases h)
    refine Xy0 0 [9] 10 ?_
    refine Xt [0, 1, 2, 3, 4, 5, 6, 7, 8] [(13,vp b3), (10,vp b2), (11,.bool false), (47,.pointer (some ⟨p.r, 0, none⟩)), (48,vi tick), (50,vi op), (52,vi 0)] [(⟨p.b, 1, none⟩, .pointer (some ⟨p.r, 0, none⟩)), (⟨b1, 0, none⟩, vi op), (⟨b3, 0, none⟩, vi 0)] (hasC (wd_side 4 hp hy (i := 1) rfl rfl rfl) (hasC (ba 3) (hasC (ba 1) has0))) ?_
    refine Xo 9 (Xa (some 53) (fun _ => .tuple #[]) (chg_at 4 rfl (hadd (0) _))) (fun _ => ?_)
    refine Xd (Xq (Xg 3 (Xl [(10,vp b2), (11,.bool false), (54,.agg #[vi 0, vi ((wDoes c z tick d th op a b).1.1.1), vi ((wDoes c z tick d th op a b).1.1.2)])] [(⟨b3, 0, none⟩, vi 0), (⟨b3, 1, none⟩, vi ((wDoes c z tick d th op a b).1.1.1)), (⟨b3, 2, none⟩, vi ((wDoes c z tick d th op a b).1.1.2))] (hasC (ba 1) (hasC (ba 1) (hasC (ba 1) has0))) ?_ 2 1)))
    refine Xh0 ?_ 2 2
    refine Xs (Xz [(0,vi 0), (1,vi ((wDoes c z tick d th op a b).1.1.1)), (2,vi ((wDoes c z tick d th op a b).1.1.2))]) (fun _ => ?_) 1
    refine Xe [(10,vp b2), (11,.bool true)] ?_ 1
    refine Xv ?_
    refine doneG (.tuple #[.agg #[.int .i64 0, .int .i64 ((wDoes c z tick d th op a b).1.1.1), .int .i64 ((wDoes c z tick d th op a b).1.1.2)], .bool true]) [(⟨b2, 0, none⟩, .int .i64 0), (⟨b2, 1, none⟩, .int .i64 ((wDoes c z tick d th op a b).1.1.1)), (⟨b2, 2, none⟩, .int .i64 ((wDoes c z tick d th op a b).1.1.2))] (hasC (blkAt (T := 31) (cs := [.int .i64 0, .int .i64 ((wDoes c z tick d th op a b).1.1.1), .int .i64 ((wDoes c z tick d th op a b).1.1.2)]) 0 rfl rfl) (hasC (blkAt (T := 31) (cs := [.int .i64 0, .int .i64 ((wDoes c z tick d th op a b).1.1.1), .int .i64 ((wDoes c z tick d th op a b).1.1.2)]) 0 rfl rfl) (hasC (blkAt (T := 31) (cs := [.int .i64 0, .int .i64 ((wDoes c z tick d th op a b).1.1.1), .int .i64 ((wDoes c z tick d th op a b).1.1.2)]) 0 rfl rfl) has0))) (fun _ => by kernel_rfl) (fun w hs => ?_) .ret (.inr rfl)
    exact ⟨(), by rw [he] <;> rfl, by rw [he]; exact hs.tail.tail.tail.tail⟩
   | false =>
    have he : wAct c z tick d th op a b = (((0, (wDoes c z tick d th op a b).1.1.1, (wDoes c z tick d th op a b).1.1.2), true), (wDoes c z tick d th op a b).2) := by rw [wAct, if_neg h0, hsay, wKeep, if_neg (by rw [hkp]; simp)]
    refine Xc false (fun h => by cases h) (fun _ => ?_)
    refine Xk (Xq (Xg 3 (Xl [(10,vp b2), (11,.bool false), (54,.agg #[vi 0, vi ((wDoes c z tick d th op a b).1.1.1), vi ((wDoes c z tick d th op a b).1.1.2)])] [(⟨b3, 0, none⟩, vi 0), (⟨b3, 1, none⟩, vi ((wDoes c z tick d th op a b).1.1.1)), (⟨b3, 2, none⟩, vi ((wDoes c z tick d th op a b).1.1.2))] (hasC (ba 1) (hasC (ba 1) (hasC (ba 1) has0))) ?_ 2 1)))
    refine Xh0 ?_ 2 2
    refine Xs (Xz [(0,vi 0), (1,vi ((wDoes c z tick d th op a b).1.1.1)), (2,vi ((wDoes c z tick d th op a b).1.1.2))]) (fun _ => ?_) 1
    refine Xe [(10,vp b2), (11,.bool true)] ?_ 1
    refine Xv ?_
    refine doneG (.tuple #[.agg #[.int .i64 0, .int .i64 ((wDoes c z tick d th op a b).1.1.1), .int .i64 ((wDoes c z tick d th op a b).1.1.2)], .bool true]) [(⟨b2, 0, none⟩, .int .i64 0), (⟨b2, 1, none⟩, .int .i64 ((wDoes c z tick d th op a b).1.1.1)), (⟨b2, 2, none⟩, .int .i64 ((wDoes c z tick d th op a b).1.1.2))] (hasC (blkAt (T := 31) (cs := [.int .i64 0, .int .i64 ((wDoes c z tick d th op a b).1.1.1), .int .i64 ((wDoes c z tick d th op a b).1.1.2)]) 0 rfl rfl) (hasC (blkAt (T := 31) (cs := [.int .i64 0, .int .i64 ((wDoes c z tick d th op a b).1.1.1), .int .i64 ((wDoes c z tick d th op a b).1.1.2)]) 0 rfl rfl) (hasC (blkAt (T := 31) (cs := [.int .i64 0, .int .i64 ((wDoes c z tick d th op a b).1.1.1), .int .i64 ((wDoes c z tick d th op a b).1.1.2)]) 0 rfl rfl) has0))) (fun _ => by kernel_rfl) (fun w hs => ?_) .ret (.inr rfl)
    exact ⟨(), by rw [he] <;> rfl, by rw [he]; exact hs.tail.tail.tail.tail⟩
  ·skip
   have hsay : wSays (wDoes c z tick d th op a b).1 = ((wDoes c z tick d th op a b).1.2, 0, 0) := by rw [wSays, if_neg hz0]
   refine Xs (callS 49 [pqErr (wDoes c z tick d th op a b).1.2, .iface 128 (.pointer (some ⟨b4, 0, none⟩))] (some 38) (fun _ => .bool true) (fun _ => (blk b4 126 [.int .i64 (wDoes c z tick d th op a b).1.2] :: blk b3 31 [.int .i64 0, .int .i64 ((wDoes c z tick d th op a b).1.1.1), .int .i64 ((wDoes c z tick d th op a b).1.1.2)] :: blk b2 31 [.int .i64 0, .int .i64 0, .int .i64 0] :: blk b1 35 [.int .i64 op, .int .i64 a, .int .i64 b] :: wdS wb c P (wDoes c z tick d th op a b).2 :: H)) (fun _ => by kernel_rfl) ((by rw [pqErr, if_neg hz0]; exact as_errno _ (hE.up.up.up.up) (wDoes c z tick d th op a b).1.2 0 b4))) (fun _ => ?_) 0
   refine endR ?_
   refine Xc true (fun _ => ?_) (fun h => by cases h)
   refine Xg 3 (Xl [(13,vp b3), (10,vp b2), (9,vp b1), (1,vi tick), (11,.bool false), (12,.pointer (some ⟨p.b, 0, none⟩)), (40,.agg #[vi ((wDoes c z tick d th op a b).1.2), vi 0, vi 0])] [(⟨b4, 0, none⟩, vi ((wDoes c z tick d th op a b).1.2))] (hasC (ba 0) has0) ?_ 1 2)
   refine Xh0 ?_ 1 1
   refine Xs (Xz [(0,vi ((wDoes c z tick d th op a b).1.2)), (1,vi 0), (2,vi 0)]) (fun _ => ?_) 0
   refine endR ?_
   refine Xq (Xq (Xg 3 (Xl [(13,vp b3), (10,vp b2), (9,vp b1), (1,vi tick), (11,.bool false), (12,.pointer (some ⟨p.b, 0, none⟩)), (42,vi op)] [(⟨b1, 0, none⟩, vi op)] (hasC (ba 3) has0) ?_ 1 2)))
   refine Xs (Xa (some 43) (fun _ => .bool (isKept op)) (iskept_walk _ op)) (fun _ => ?_) 0
   refine endR ?_
   cases hkp : ((isKept op)) with
   | true =>
    have he : wAct c z tick d th op a b = ((((wDoes c z tick d th op a b).1.2, 0, 0), true), wUp (wDoes c z tick d th op a b).2 d { y with r := rgAdd y.r tick op ((wDoes c z tick d th op a b).1.2) }) := by rw [wAct, if_neg h0, hsay, wKeep, if_pos hkp, sdAt_of hy]
    refine Xc true (fun _ => ?_) (fun h => by cases h)
    refine Xy0 0 [9] 10 ?_
    refine Xt [0, 1, 2, 3, 4, 5, 6, 7, 8] [(13,vp b3), (10,vp b2), (11,.bool false), (47,.pointer (some ⟨p.r, 0, none⟩)), (48,vi tick), (50,vi op), (52,vi ((wDoes c z tick d th op a b).1.2))] [(⟨p.b, 1, none⟩, .pointer (some ⟨p.r, 0, none⟩)), (⟨b1, 0, none⟩, vi op), (⟨b3, 0, none⟩, vi ((wDoes c z tick d th op a b).1.2))] (hasC (wd_side 4 hp hy (i := 1) rfl rfl rfl) (hasC (ba 3) (hasC (ba 0) has0))) ?_
    refine Xo 9 (Xa (some 53) (fun _ => .tuple #[]) (chg_at 4 rfl (hadd ((wDoes c z tick d th op a b).1.2) _))) (fun _ => ?_)
    refine Xd (Xq (Xg 3 (Xl [(10,vp b2), (11,.bool false), (54,.agg #[vi ((wDoes c z tick d th op a b).1.2), vi 0, vi 0])] [(⟨b3, 0, none⟩, vi ((wDoes c z tick d th op a b).1.2)), (⟨b3, 1, none⟩, vi 0), (⟨b3, 2, none⟩, vi 0)] (hasC (ba 0) (hasC (ba 0) (hasC (ba 0) has0))) ?_ 2 1)))
    refine Xh0 ?_ 2 2
    refine Xs (Xz [(0,vi ((wDoes c z tick d th op a b).1.2)), (1,vi 0), (2,vi 0)]) (fun _ => ?_) 1
    refine Xe [(10,vp b2), (11,.bool true)] ?_ 1
    refine Xv ?_
    refine doneG (.tuple #[.agg #[.int .i64 ((wDoes c z tick d th op a b).1.2), .int .i64 0, .int .i64 0], .bool true]) [(⟨b2, 0, none⟩, .int .i64 ((wDoes c z tick d th op a b).1.2)), (⟨b2, 1, none⟩, .int .i64 0), (⟨b2, 2, none⟩, .int .i64 0)] (hasC (blkAt (T := 31) (cs := [.int .i64 ((wDoes c z tick d th op a b).1.2), .int .i64 0, .int .i64 0]) 0 rfl rfl) (hasC (blkAt (T := 31) (cs := [.int .i64 ((wDoes c z tick d th op a b).1.2), .int .i64 0, .int .i64 0]) 0 rfl rfl) (hasC (blkAt (T := 31) (cs := [.int .i64 ((wDoes c z tick d th op a b).1.2), .int .i64 0, .int .i64 0]) 0 rfl rfl) has0))) (fun _ => by kernel_rfl) (fun w hs => ?_) .ret (.inr rfl)
    exact ⟨(), by rw [he] <;> rfl, by rw [he]; exact hs.tail.tail.tail.tail⟩
   | false =>
    have he : wAct c z tick d th op a b = ((((wDoes c z tick d th op a b).1.2, 0, 0), true), (wDoes c z tick d th op a b).2) := by rw [wAct, if_neg h0, hsay, wKeep, if_neg (by rw [hkp]; simp)]
    refine Xc false (fun h => by cases h) (fun _ => ?_)
    refine Xk (Xq (Xg 3 (Xl [(10,vp b2), (11,.bool false), (54,.agg #[vi ((wDoes c z tick d th op a b).1.2), vi 0, vi 0])] [(⟨b3, 0, none⟩, vi ((wDoes c z tick d th op a b).1.2)), (⟨b3, 1, none⟩, vi 0), (⟨b3, 2, none⟩, vi 0)] (hasC (ba 0) (hasC (ba 0) (hasC (ba 0) has0))) ?_ 2 1)))
    refine Xh0 ?_ 2 2
    refine Xs (Xz [(0,vi ((wDoes c z tick d th op a b).1.2)), (1,vi 0), (2,vi 0)]) (fun _ => ?_) 1
    refine Xe [(10,vp b2), (11,.bool true)] ?_ 1
    refine Xv ?_
    refine doneG (.tuple #[.agg #[.int .i64 ((wDoes c z tick d th op a b).1.2), .int .i64 0, .int .i64 0], .bool true]) [(⟨b2, 0, none⟩, .int .i64 ((wDoes c z tick d th op a b).1.2)), (⟨b2, 1, none⟩, .int .i64 0), (⟨b2, 2, none⟩, .int .i64 0)] (hasC (blkAt (T := 31) (cs := [.int .i64 ((wDoes c z tick d th op a b).1.2), .int .i64 0, .int .i64 0]) 0 rfl rfl) (hasC (blkAt (T := 31) (cs := [.int .i64 ((wDoes c z tick d th op a b).1.2), .int .i64 0, .int .i64 0]) 0 rfl rfl) (hasC (blkAt (T := 31) (cs := [.int .i64 ((wDoes c z tick d th op a b).1.2), .int .i64 0, .int .i64 0]) 0 rfl rfl) has0))) (fun _ => by kernel_rfl) (fun w hs => ?_) .ret (.inr rfl)
    exact ⟨(), by rw [he] <;> rfl, by rw [he]; exact hs.tail.tail.tail.tail⟩
end Go.Proofs.YtfhkgohokbkgiaaGreatDoor
set_option linter.unusedVariables false
set_option linter.unusedSimpArgs false
namespace Go.Proofs.YtfhkgohokbkgiaaGreatDoor
open Go.RowKit G
def fillS (x : SdS) : SdS := { x with left := x.all }
def epS (z : WS) (u : Nat) : WS := { z with s := (z.s.take u).map fillS ++ z.s.drop u, t := ltTurn z.t }
theorem epS_0 (z : WS) : epS z 0 = { z with t := ltTurn z.t } := by simp [epS]
theorem epS_all (z : WS) {u : Nat} (h : z.s.length ≤ u) : epS z u = wEpoch z := by
 simp only [epS, wEpoch]
 rw [List.take_of_length_le h, List.drop_eq_nil_of_le h, List.append_nil]
 rfl
theorem epS_get {z : WS} {u : Nat} {x : SdS} (hx : z.s[u]? = some x) : (epS z u).s[u]? = some x := by
 have hu := (List.getElem?_eq_some_iff.1 hx).1
 simp only [epS]
 rw [List.getElem?_append_right (by simp [List.length_take]; omega), List.length_map, List.length_take, Nat.min_eq_left (by omega), Nat.sub_self, List.getElem?_drop]
 exact hx
theorem epS_len (z : WS) (u : Nat) : (epS z u).s.length = z.s.length := by simp [epS]; omega
theorem epS_succ {z : WS} {u : Nat} {x : SdS} (hx : z.s[u]? = some x) : wUp (epS z u) u { x with left := x.all, all := x.all } = epS z (u + 1) := by
 have hu := (List.getElem?_eq_some_iff.1 hx)
 obtain ⟨hl, rfl⟩ := hu
 simp only [epS, wUp]
 congr 1
 rw [List.set_append_right _ _ (by simp [List.length_take]; omega), List.length_map, List.length_take, Nat.min_eq_left (by omega), Nat.sub_self, List.take_add_one, List.getElem?_eq_getElem hl, ← List.getElem_cons_drop hl, List.set_cons_zero, List.map_append]
 simp [fillS]
set_option maxRecDepth 100000 in
theorem wepoch_walk (H : List SP) (wb : Nat) (c : ConfV) (P : WP) (z : WS) (hl : P.s.length ≤ 1000) : ∀ v, Sat v (wdS wb c P z :: H) → Calls Tryz.prog 20 #[vp wb] v (Ret (ι := Unit) (fun _ => .tuple #[]) fun _ => wdS wb c P (wEpoch z) :: H) := by
 have hc := wdLat (wb := wb) (c := c) (P := P) (w := z) (H := H) (X := fun _ : Unit => []) (t' := fun _ => ltTurn z.t) (fun R => ltTurn_c (R ++ H) P.t c z.t)
 simp only [List.nil_append, ← epS_0] at hc
 refine enterG (fn := Tryz.f20) 28 [vp wb] Tryz.func20 (by kernel_rfl) (by kernel_rfl) (by kernel_rfl) ?_
 refine PT.know (wd_len 0 rfl) ?_
 rintro ⟨hn1, hn2, hn6⟩
 refine scopeG 0 (fun (u : Nat) => [(0, vp wb), (2, vi u)]) (fun (u : Nat) => (wdS wb c P (epS z u) :: H)) (fun k (u : Nat) => k + u = P.s.length) (by kernel_rfl) (by kernel_rfl) (by kernel_rfl) (by kernel_rfl) ?_ ?_
 ·skip
  rintro k u hku K hK
  refine Xq (Xg 7 (Xm [(0,vp wb), (2,vi u), (14,.bool (decide ((u : Int) < (P.s.length : Int))))] [(⟨wb, 4, none⟩, .slice P.a P.s.length P.n)] (hasC (wd_cell 0 (i := 4) rfl rfl) has0) ?_ 7))
  refine Xc (decide ((u : Int) < (P.s.length : Int))) (fun h1 => ?_) (fun h1 => ?_)
  ·skip
   have hu : u < P.s.length := by have := of_decide_eq_true h1; omega
   obtain ⟨p, x, hp, hx⟩ : ∃ p x, P.s[u]? = some p ∧ z.s[u]? = some x := ⟨_, _, List.getElem?_eq_getElem hu, List.getElem?_eq_getElem (by omega)⟩
   have hfi := fun H => wdPurse (wb := wb) (c := c) (P := P) (ι := Unit) (l' := fun _ => x.all) (a' := fun _ => x.all) hp (epS_get hx) (fun _ h => ⟨h.1, h.2.2, h.2.2⟩) (fun H => pufill_walk H p.p x.left x.all) H
   simp only [epS_succ hx] at hfi
   refine PT.know (wd_some 0 hp rfl) ?_
   rintro ⟨sb, so, hA⟩
   refine Xq (Xg 11 (Xl [(0,vp wb), (2,vi u), (18,.slice (some ⟨sb, so, none⟩) P.s.length P.n), (19,vi u)] [(⟨wb, 4, none⟩, .slice (some ⟨sb, so, none⟩) P.s.length P.n)] (hasC (wd_sides 0 hA rfl) has0) ?_ 6 5))
   refine Xs (yldS (Xi 107 (.tmp 18) (.tmp 19) sb so P.s.length P.n u 1 110 (u : Int) 20 Tryz.underlying107)) (fun _ => ?_) 5
   refine Xl [(0,vp wb), (2,vi u), (24,.pointer (some ⟨p.p, 0, none⟩))] [(⟨sb, so + u * 1, none⟩, .pointer (some ⟨p.b, 0, none⟩)), (⟨p.b, 3, none⟩, .pointer (some ⟨p.p, 0, none⟩))] (hasC (wd_ptr 0 hA hp rfl) (hasC (wd_side 0 hp (epS_get hx) (i := 3) rfl rfl rfl) has0)) ?_ 1 4
   refine Xs (Xa (some 25) (fun _ => .tuple #[]) (hfi _)) (fun _ => ?_) 0
   refine endR ?_
   refine Xq (Xg 3 (Xe [(0,vp wb), (2,vi (IntKind.i64.wrap ((u : Int) + 1)))] ?_ 3))
   refine gotoR 0 (by kernel_rfl) (by kernel_rfl) ?_
   rw [show IntKind.i64.wrap ((u : Int) + 1) = ((u + 1 : Nat) : Int) by rw [IntKind.wrap_i64]; omega]
   refine Xp [(0,vp wb), (2,vi ((u + 1 : Nat) : Int))] ?_
   exact jumpR (hK (k - 1) (u + 1) (by omega) (by omega))
  ·skip
   have hu : P.s.length ≤ u := by have := of_decide_eq_false h1; omega
   refine Xk (Y1 (.tuple #[]) (fun w hs => ?_))
   exact ⟨(), rfl, by rw [epS_all z (by omega)] at hs; exact hs⟩
 ·skip
  intro K hK
  refine Xq (Xg 5 (Xl [(0,vp wb), (6,.pointer (some ⟨P.t, 0, none⟩))] [(⟨wb, 6, none⟩, .pointer (some ⟨P.t, 0, none⟩))] (hasC (wd_cell 0 (i := 6) rfl rfl) has0) ?_ 1 4))
  refine Xs (Xa (some 7) (fun _ => .tuple #[]) (hc)) (fun _ => ?_) 0
  refine endR ?_
  refine Xq (Xg 1 (Xe [(0,vp wb), (2,vi 0)] ?_ 1))
  refine Xq ?_
  refine labelR (by kernel_rfl) ?_
  refine Xp [(0,vp wb), (2,vi 0)] ?_
  refine codeR (by kernel_rfl) (hK P.s.length 0 (by omega))
end Go.Proofs.YtfhkgohokbkgiaaGreatDoor
