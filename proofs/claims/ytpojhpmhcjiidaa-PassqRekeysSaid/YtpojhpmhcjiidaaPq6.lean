/- passq: entries compared; errors; what the laws know first. Conditions: none. -/
import Derived.Test.YtpojhpmhcjiidaaPq5
import Derived.Test.YtpojhpmhcjiidaaErr
import Derived.Laws.StructEq
import Derived.ChangeKeysEq
set_option linter.unusedVariables false
set_option linter.unusedSimpArgs false
namespace Go.Proofs.Ytpojhpmhcjiidaa
open Go.RowKit G
theorem isErr_walk (H : List SP) (a b : Int) : ∀ w, Sat w H → Calls Try.prog 15 #[.iface 42 (.int .i64 a), .iface 42 (.int .i64 b)] w (Ret (ι := Unit) (fun _ => .bool (a == b)) fun _ => H) := fun w hs =>
  (is_errno a b w).mono fun e w' ⟨he, hw⟩ => ⟨(), he, hw ▸ hs⟩
theorem eqFields_int {P : Program} (w : World) (d : Nat) (xs ys : Array Value) (f : Field) (fs : List Field) (k k' : IntKind) (a b : Int) (hn : (f.name == "_") = false) (hu : P.underlying f.type = some (.int k')) (hp : P.plainKey f.type = true) (hx : xs[f.offset]? = some (.int k a)) (hy : ys[f.offset]? = some (.int k b)) :
    (Op.eqFields (d + 1) xs ys (f :: fs)).run P w = if (a == b) = true then (Op.eqFields (d + 1) xs ys fs).run P w else .ok false w := by
  have hn' : f.name ≠ "_" := by simpa using hn
  rw [Op.eqFields, if_pos hn']
  simp only [Sem.run_bind, run_part_plain w hp hx, run_part_plain w hp hy, Result.andThen_ok, run_equalIn_int w d f.type k k' a b hu]
  cases h : (a == b) <;> simp
theorem SatF.unpick : ∀ {l : List SP} (i : Nat) {P : SP} {w : World} {F : Nat → Prop}, l[i]? = some P → SatF (P :: l.eraseIdx i) w F → SatF l w F
  | [], i, P, w, F, h, _ => by simp at h
  | Q :: l, 0, P, w, F, h, hs => by simp at h; subst h; exact hs
  | Q :: l, i + 1, P, w, F, h, hs => by
    obtain ⟨G, h1, h2, h3⟩ := SatF.swap hs
    exact ⟨G, h1, h2, SatF.unpick i (by simpa using h) h3⟩
theorem same_at {P : Program} {f : FuncId} {vs : Array Value} {v : Value} {X : SP} {H : List SP} (j : Nat) (hj : H[j]? = some X) (h : ∀ w, Sat w (X :: H.eraseIdx j) → Calls P f vs w (Ret (ι := Unit) (fun _ => v) fun _ => X :: H.eraseIdx j)) : ∀ w, Sat w H → Calls P f vs w (Ret (ι := Unit) (fun _ => v) fun _ => H) := fun w hs =>
  (h w (hs.pick j hj)).mono fun e w' ⟨p, he, hx⟩ => ⟨p, he, SatF.unpick j hj hx⟩
theorem SatF.unpickSet : ∀ {l : List SP} (i : Nat) {P Y : SP} {w : World} {F : Nat → Prop}, l[i]? = some P → SatF (Y :: l.eraseIdx i) w F → SatF (l.set i Y) w F
  | [], i, P, Y, w, F, h, _ => by simp at h
  | Q :: l, 0, P, Y, w, F, h, hs => hs
  | Q :: l, i + 1, P, Y, w, F, h, hs => by
    obtain ⟨G, h1, h2, h3⟩ := SatF.swap hs
    exact ⟨G, h1, h2, SatF.unpickSet i (by simpa using h) h3⟩
theorem chg_at {ι : Type} {P : Program} {f : FuncId} {vs : Array Value} {rv : ι → Value} {X : SP} {Y : ι → SP} {H : List SP} (j : Nat) (hj : H[j]? = some X) (h : ∀ w, Sat w (X :: H.eraseIdx j) → Calls P f vs w (Ret rv fun x => Y x :: H.eraseIdx j)) : ∀ w, Sat w H → Calls P f vs w (Ret rv fun x => H.set j (Y x)) := fun w hs =>
  (h w (hs.pick j hj)).mono fun e w' ⟨p, he, hx⟩ => ⟨p, he, SatF.unpickSet j hj hx⟩
theorem all_at (H : List SP) (j b : Nat) (room : Int) (l : List (Int × Int)) (hj : H[j]? = some (idxS b room l)) (hl : l.length ≤ 1000000) : ∀ w, Sat w H → Calls Try.prog 13 #[.pointer (some ⟨b, 0, none⟩)] w (Ret (ι := Option Addr × Nat) (fun p => .slice p.1 l.length p.2) fun p => row slE 31 (.slice p.1 l.length p.2) l :: H) := fun w hs =>
  (all_idx _ b room l hl w (hs.pick j hj)).mono fun e w' ⟨p, he, G, h1, h2, h3⟩ => ⟨p, he, G, h1, h2, SatF.unpick j hj h3⟩
theorem all_some (H : List SP) (j b : Nat) (room : Int) (l : List (Int × Int)) (hj : H[j]? = some (idxS b room l)) (hl : l.length ≤ 1000000) (hn : l ≠ []) : ∀ w, Sat w H → Calls Try.prog 13 #[.pointer (some ⟨b, 0, none⟩)] w (Ret (ι := Nat × Nat × Nat) (fun p => .slice (some ⟨p.1, p.2.1, none⟩) l.length p.2.2) fun p => row slE 31 (.slice (some ⟨p.1, p.2.1, none⟩) l.length p.2.2) l :: H) := fun w hs =>
  (all_at H j b room l hj hl w hs).mono fun e w' ⟨⟨A, cap⟩, he, hx⟩ => by
    rcases rowA (A := A) (k := cap) 0 rfl w' hx with ⟨_, h, _⟩ | ⟨b', o', rfl⟩
    · exact absurd h hn
    · exact ⟨(b', o', cap), he, hx⟩
def entEq (a b : Int × Int) : Bool := a.1 == b.1 && a.2 == b.2
theorem ent_eqv (a b : Int × Int) (w : World) : (Op.equalIn 10000 31 (.agg #[.int .i64 a.1, .int .i64 a.2]) (.agg #[.int .i64 b.1, .int .i64 b.2])).run Try.prog w = .ok (entEq a b) w := by
  unfold entEq
  rw [run_equalIn_struct w 9999 _ _ _ (by kernel_rfl) (by kernel_rfl)]
  have hl : (Try.prog.fieldsOf 31).toList = [(Try.prog.fieldsOf 31).toList.getD 0 default, (Try.prog.fieldsOf 31).toList.getD 1 default] := by kernel_rfl
  rw [hl, eqFields_int w 9998 _ _ _ _ .i64 .i64 a.1 b.1 (by kernel_rfl) (by kernel_rfl) (by kernel_rfl) (by kernel_rfl) (by kernel_rfl), eqFields_int w 9998 _ _ _ _ .i64 .i64 a.2 b.2 (by kernel_rfl) (by kernel_rfl) (by kernel_rfl) (by kernel_rfl) (by kernel_rfl)]
  cases a.1 == b.1 <;> cases a.2 == b.2 <;> simp [Op.eqFields]
theorem ent_eql (a b : Int × Int) (x y : Operand) (w : World) : (do eqGuard .eql 31 x y (.agg #[.int .i64 a.1, .int .i64 a.2]) (.agg #[.int .i64 b.1, .int .i64 b.2]); binOp .eql 31 (.agg #[.int .i64 a.1, .int .i64 a.2]) (.agg #[.int .i64 b.1, .int .i64 b.2]) : Sem Value).run Try.prog w = .ok (.bool (entEq a b)) w := by
  have h := ent_eqv a b w
  rw [Sem.run_bind, run_eqGuard_agg w _ _ _ _ _ _ (by kernel_rfl)]
  simp only [Result.andThen_ok]
  rw [run_eql_struct, h]
  rfl
theorem ent_neq (a b : Int × Int) (x y : Operand) (w : World) : (do eqGuard .neq 31 x y (.agg #[.int .i64 a.1, .int .i64 a.2]) (.agg #[.int .i64 b.1, .int .i64 b.2]); binOp .neq 31 (.agg #[.int .i64 a.1, .int .i64 a.2]) (.agg #[.int .i64 b.1, .int .i64 b.2]) : Sem Value).run Try.prog w = .ok (.bool (!entEq a b)) w := by
  have h := ent_eqv a b w
  rw [Sem.run_bind, run_eqGuard_agg w _ _ _ _ _ _ (by kernel_rfl)]
  simp only [Result.andThen_ok]
  rw [run_neq_struct, h]
  rfl
theorem put_ok {l' : List (Int × Int)} {room : Int} {l : List (Int × Int)} {p id : Int} (h : putE room l p id = (0, l')) (hsr : SrtE l) (hl : l.length < 1000000) (H : List SP) (b : Nat) : ∀ w, Sat w (idxS b room l :: H) → Calls Try.prog 9 #[.pointer (some ⟨b, 0, none⟩), .int .i64 p, .int .i64 id] w (Ret (ι := Unit) (fun _ => .nilIface) fun _ => idxS b room l' :: H) := by
  have := put_idx H b room l p id hsr hl
  rw [h] at this
  exact this
theorem put_no {e : Int} {room : Int} {l : List (Int × Int)} {p id : Int} (h : putE room l p id = (e, l)) (he : e ≠ 0) (hsr : SrtE l) (hl : l.length < 1000000) (H : List SP) (b : Nat) : ∀ w, Sat w (idxS b room l :: H) → Calls Try.prog 9 #[.pointer (some ⟨b, 0, none⟩), .int .i64 p, .int .i64 id] w (Ret (ι := Unit) (fun _ => .iface 42 (.int .i64 e)) fun _ => idxS b room l :: H) := by
  have := put_idx H b room l p id hsr hl
  rw [h] at this
  simp only [pqErr, if_neg he] at this
  exact this
theorem drop_ok {l' : List (Int × Int)} {room : Int} {l : List (Int × Int)} {id : Int} (h : dropE l id = (0, l')) (hl : l.length < 1000000) (H : List SP) (b : Nat) : ∀ w, Sat w (idxS b room l :: H) → Calls Try.prog 11 #[.pointer (some ⟨b, 0, none⟩), .int .i64 id] w (Ret (ι := Unit) (fun _ => .nilIface) fun _ => idxS b room l' :: H) := by
  have := drop_idx H b room l id hl
  rw [h] at this
  exact this
theorem drop_no {room : Int} {l : List (Int × Int)} {id : Int} (h : dropE l id = (13, l)) (hl : l.length < 1000000) (H : List SP) (b : Nat) : ∀ w, Sat w (idxS b room l :: H) → Calls Try.prog 11 #[.pointer (some ⟨b, 0, none⟩), .int .i64 id] w (Ret (ι := Unit) (fun _ => .iface 42 (.int .i64 13)) fun _ => idxS b room l :: H) := by
  have := drop_idx H b room l id hl
  rw [h] at this
  exact this
theorem rekey_ok {l' : List (Int × Int)} {room : Int} {l : List (Int × Int)} {id p : Int} (h : rekeyE l id p = (0, l')) (hsr : SrtE l) (hl : l.length < 1000000) (H : List SP) (b : Nat) : ∀ w, Sat w (idxS b room l :: H) → Calls Try.prog 16 #[.pointer (some ⟨b, 0, none⟩), .int .i64 id, .int .i64 p] w (Ret (ι := Unit) (fun _ => .nilIface) fun _ => idxS b room l' :: H) := by
  have := rekey_idx H b room l id p hsr hl
  rw [h] at this
  exact this
theorem shift_is {l' : List (Int × Int)} {room : Int} {l : List (Int × Int)} {n : Int} (h : shiftE l n = l') (hsr : SrtE l') (hl : l.length ≤ 64) (H : List SP) (b : Nat) : ∀ w, Sat w (idxS b room l :: H) → Calls Try.prog 14 #[.pointer (some ⟨b, 0, none⟩), .int .i64 n] w (Ret (ι := Unit) (fun _ => .tuple #[]) fun _ => idxS b room l' :: H) := by
  have := shift_idx H b room l n hl (by rw [h]; exact hsr)
  rw [h] at this
  exact this
set_option maxHeartbeats 1000000 in
set_option maxRecDepth 100000 in
theorem known_true (H : List SP) : ∀ w, Sat w H → Calls Try.prog 7 #[] w (Ret (ι := Unit) (fun _ => .bool true) fun _ => H) := by
  have s1 : SrtE [(7, 1)] := by simp [SrtE]
  have s2 : SrtE [(3, 2), (7, 1)] := by simp [SrtE, eLt]
  have s3 : SrtE [(0, 1), (1, 2)] := by simp [SrtE, eLt]
  refine enterG (fn := Try.f7) 113 [] Try.func7 (by kernel_rfl) (by kernel_rfl) (by kernel_rfl) ?_
  refine seqR (by kernel_rfl) ?_
  refine regionR 1 (by kernel_rfl) (by kernel_rfl) ?_
  refine (run0 (z := 0) 1 [0] [(0, .bool false)] (fun _ => by kernel_rfl) (endR ?_) : RT _ _ _ _ _ _ 1 _)
  refine seqR (by kernel_rfl) ?_
  refine regionR 2 (by kernel_rfl) (by kernel_rfl) ?_
  refine (stepR (z := 1) (callS 8 [.int .i64 2] (some 14) (fun (b : Nat) => .pointer (some ⟨b, 0, none⟩)) (fun (b : Nat) => idxS b 2 ([] : List (Int × Int)) :: H) (fun _ => by kernel_rfl) (new_walk _ 2)) (fun (b : Nat) => ?_) : RT _ _ _ _ _ _ 2 _)
  refine (run0 (z := 0) 1 [0, 1] [(0, .bool false), (1, .pointer (some ⟨b, 0, none⟩))] (fun _ => by kernel_rfl) (endR ?_) : RT _ _ _ _ _ _ 1 _)
  refine seqR (by kernel_rfl) ?_
  refine seqR (by kernel_rfl) ?_
  refine regionR 2 (by kernel_rfl) (by kernel_rfl) ?_
  refine (run0 (z := 0) 2 [0, 1, 16] [(0, .bool false), (1, .pointer (some ⟨b, 0, none⟩)), (16, .bool false)] (fun _ => by kernel_rfl) (endR ?_) : RT _ _ _ _ _ _ 2 _)
  refine condR (b := false) (by kernel_rfl) (fun _ => by kernel_rfl) (fun h => by cases h) (fun _ => ?_)
  refine skipR (by kernel_rfl) ?_
  refine seqR (by kernel_rfl) ?_
  refine regionR 12 (by kernel_rfl) (by kernel_rfl) ?_
  refine (run0 (z := 11) 1 [0, 1, 17] [(0, .bool false), (1, .pointer (some ⟨b, 0, none⟩)), (17, .pointer (some ⟨b, 0, none⟩))] (fun _ => by kernel_rfl) ?_ : RT _ _ _ _ _ _ 12 _)
  refine (stepR (z := 10) (callS 9 [.pointer (some ⟨b, 0, none⟩), .int .i64 7, .int .i64 1] (some 18) (fun _ => .nilIface) (fun _ => idxS b 2 [(7, 1)] :: H) (fun _ => by kernel_rfl) (put_ok (l := []) (l' := [(7, 1)]) (by decide +kernel) (by simp [SrtE]) (by decide) _ b)) (fun _ => ?_) : RT _ _ _ _ _ _ 11 _)
  refine (run0 (z := 9) 1 [18, 0, 1, 19] [(18, .nilIface), (0, .bool false), (1, .pointer (some ⟨b, 0, none⟩)), (19, .pointer (some ⟨b, 0, none⟩))] (fun _ => by kernel_rfl) ?_ : RT _ _ _ _ _ _ 10 _)
  refine (stepR (z := 8) (callS 9 [.pointer (some ⟨b, 0, none⟩), .int .i64 3, .int .i64 2] (some 20) (fun _ => .nilIface) (fun _ => idxS b 2 [(3, 2), (7, 1)] :: H) (fun _ => by kernel_rfl) (put_ok (l' := [(3, 2), (7, 1)]) (by decide +kernel) s1 (by decide) _ b)) (fun _ => ?_) : RT _ _ _ _ _ _ 9 _)
  refine (run0 (z := 7) 1 [20, 18, 0, 1, 21] [(20, .nilIface), (18, .nilIface), (0, .bool false), (1, .pointer (some ⟨b, 0, none⟩)), (21, .pointer (some ⟨b, 0, none⟩))] (fun _ => by kernel_rfl) ?_ : RT _ _ _ _ _ _ 8 _)
  refine (stepR (z := 6) (callS 9 [.pointer (some ⟨b, 0, none⟩), .int .i64 1, .int .i64 3] (some 22) (fun _ => .iface 42 (.int .i64 14)) (fun _ => idxS b 2 [(3, 2), (7, 1)] :: H) (fun _ => by kernel_rfl) (put_no (e := 14) (by decide +kernel) (by decide) s2 (by decide) _ b)) (fun _ => ?_) : RT _ _ _ _ _ _ 7 _)
  refine (run0 (z := 5) 1 [22, 20, 18, 0, 1, 23] [(22, .iface 42 (.int .i64 14)), (20, .nilIface), (18, .nilIface), (0, .bool false), (1, .pointer (some ⟨b, 0, none⟩)), (23, .pointer (some ⟨b, 0, none⟩))] (fun _ => by kernel_rfl) ?_ : RT _ _ _ _ _ _ 6 _)
  refine (stepR (z := 4) (callS 9 [.pointer (some ⟨b, 0, none⟩), .int .i64 1, .int .i64 2] (some 24) (fun _ => .iface 42 (.int .i64 20)) (fun _ => idxS b 2 [(3, 2), (7, 1)] :: H) (fun _ => by kernel_rfl) (put_no (e := 20) (by decide +kernel) (by decide) s2 (by decide) _ b)) (fun _ => ?_) : RT _ _ _ _ _ _ 5 _)
  refine (run0 (z := 0) 4 [0, 1, 2, 3, 4, 5] [(0, .bool false), (1, .pointer (some ⟨b, 0, none⟩)), (2, .nilIface), (3, .nilIface), (4, .iface 42 (.int .i64 14)), (5, .iface 42 (.int .i64 20))] (fun _ => by kernel_rfl) (endR ?_) : RT _ _ _ _ _ _ 4 _)
  refine seqR (by kernel_rfl) ?_
  refine regionR 8 (by kernel_rfl) (by kernel_rfl) ?_
  refine (run0 (z := 7) 1 [0, 1, 2, 3, 4, 5, 26] [(0, .bool false), (1, .pointer (some ⟨b, 0, none⟩)), (2, .nilIface), (3, .nilIface), (4, .iface 42 (.int .i64 14)), (5, .iface 42 (.int .i64 20)), (26, .pointer (some ⟨b, 0, none⟩))] (fun _ => by kernel_rfl) ?_ : RT _ _ _ _ _ _ 8 _)
  refine (stepR (z := 6) (callS 10 [.pointer (some ⟨b, 0, none⟩)] (some 27) (fun _ => .tuple #[.agg #[.int .i64 3, .int .i64 2], .bool true]) (fun _ => (idxS b 2 [(3, 2), (7, 1)] :: H)) (fun _ => by kernel_rfl) (min_idx _ b 2 [(3, 2), (7, 1)])) (fun _ => ?_) : RT _ _ _ _ _ _ 7 _)
  refine (run0 (z := 3) 3 [0, 1, 2, 3, 4, 5, 28, 29] [(0, .bool false), (1, .pointer (some ⟨b, 0, none⟩)), (2, .nilIface), (3, .nilIface), (4, .iface 42 (.int .i64 14)), (5, .iface 42 (.int .i64 20)), (28, .agg #[.int .i64 3, .int .i64 2]), (29, .bool true)] (fun _ => by kernel_rfl) ?_ : RT _ _ _ _ _ _ 6 _)
  refine (stepR (z := 2) (newS 31 [.int .i64 0, .int .i64 0] (some 6) (fun b => .pointer (some ⟨b, 0, none⟩)) (fun _ _ => by kernel_rfl)) (fun b1 => ?_) : RT _ _ _ _ _ _ 3 _)
  refine (stepR (z := 1) (storeS [(0, .int .i64 3), (1, .int .i64 2)] [.int .i64 3, .int .i64 2] (fun _ => by kernel_rfl) (by kernel_rfl) (by kernel_rfl)) (fun _ => ?_) : RT _ _ _ _ _ _ 2 _)
  refine (run0 (z := 0) 1 [6, 0, 1, 2, 3, 4, 5, 7] [(6, .pointer (some ⟨b1, 0, none⟩)), (0, .bool false), (1, .pointer (some ⟨b, 0, none⟩)), (2, .nilIface), (3, .nilIface), (4, .iface 42 (.int .i64 14)), (5, .iface 42 (.int .i64 20)), (7, .bool true)] (fun _ => by kernel_rfl) (endR ?_) : RT _ _ _ _ _ _ 1 _)
  refine seqR (by kernel_rfl) ?_
  refine regionR 3 (by kernel_rfl) (by kernel_rfl) ?_
  refine (run0 (z := 2) 1 [6, 0, 1, 2, 3, 4, 5, 7, 30] [(6, .pointer (some ⟨b1, 0, none⟩)), (0, .bool false), (1, .pointer (some ⟨b, 0, none⟩)), (2, .nilIface), (3, .nilIface), (4, .iface 42 (.int .i64 14)), (5, .iface 42 (.int .i64 20)), (7, .bool true), (30, .pointer (some ⟨b, 0, none⟩))] (fun _ => by kernel_rfl) ?_ : RT _ _ _ _ _ _ 3 _)
  refine (RT.pick 1 rfl ?_ : RT _ _ _ (blk b1 31 [.int .i64 3, .int .i64 2] :: idxS b 2 [(3, 2), (7, 1)] :: H) _ _ 2 _)
  refine (stepR (z := 1) (callS 16 [.pointer (some ⟨b, 0, none⟩), .int .i64 2, .int .i64 9] (some 31) (fun _ => .nilIface) (fun _ => idxS b 2 [(7, 1), (9, 2)] :: blk b1 31 [.int .i64 3, .int .i64 2] :: H) (fun _ => by kernel_rfl) (rekey_ok (l' := [(7, 1), (9, 2)]) (by decide +kernel) s2 (by decide) _ b)) (fun _ => ?_) : RT _ _ _ _ _ _ 2 _)
  refine (run0 (z := 0) 1 [6, 0, 1, 2, 3, 4, 5, 7, 8] [(6, .pointer (some ⟨b1, 0, none⟩)), (0, .bool false), (1, .pointer (some ⟨b, 0, none⟩)), (2, .nilIface), (3, .nilIface), (4, .iface 42 (.int .i64 14)), (5, .iface 42 (.int .i64 20)), (7, .bool true), (8, .nilIface)] (fun _ => by kernel_rfl) (endR ?_) : RT _ _ _ _ _ _ 1 _)
  refine seqR (by kernel_rfl) ?_
  refine regionR 8 (by kernel_rfl) (by kernel_rfl) ?_
  refine (run0 (z := 7) 1 [6, 0, 1, 2, 3, 4, 5, 7, 8, 33] [(6, .pointer (some ⟨b1, 0, none⟩)), (0, .bool false), (1, .pointer (some ⟨b, 0, none⟩)), (2, .nilIface), (3, .nilIface), (4, .iface 42 (.int .i64 14)), (5, .iface 42 (.int .i64 20)), (7, .bool true), (8, .nilIface), (33, .pointer (some ⟨b, 0, none⟩))] (fun _ => by kernel_rfl) ?_ : RT _ _ _ _ _ _ 8 _)
  refine (stepR (z := 6) (callS 10 [.pointer (some ⟨b, 0, none⟩)] (some 34) (fun _ => .tuple #[.agg #[.int .i64 7, .int .i64 1], .bool true]) (fun _ => (idxS b 2 [(7, 1), (9, 2)] :: blk b1 31 [.int .i64 3, .int .i64 2] :: H)) (fun _ => by kernel_rfl) (min_idx _ b 2 [(7, 1), (9, 2)])) (fun _ => ?_) : RT _ _ _ _ _ _ 7 _)
  refine (run0 (z := 3) 3 [6, 0, 1, 2, 3, 4, 5, 7, 8, 35, 36] [(6, .pointer (some ⟨b1, 0, none⟩)), (0, .bool false), (1, .pointer (some ⟨b, 0, none⟩)), (2, .nilIface), (3, .nilIface), (4, .iface 42 (.int .i64 14)), (5, .iface 42 (.int .i64 20)), (7, .bool true), (8, .nilIface), (35, .agg #[.int .i64 7, .int .i64 1]), (36, .bool true)] (fun _ => by kernel_rfl) ?_ : RT _ _ _ _ _ _ 6 _)
  refine (stepR (z := 2) (newS 31 [.int .i64 0, .int .i64 0] (some 9) (fun b => .pointer (some ⟨b, 0, none⟩)) (fun _ _ => by kernel_rfl)) (fun b2 => ?_) : RT _ _ _ _ _ _ 3 _)
  refine (stepR (z := 1) (storeS [(0, .int .i64 7), (1, .int .i64 1)] [.int .i64 7, .int .i64 1] (fun _ => by kernel_rfl) (by kernel_rfl) (by kernel_rfl)) (fun _ => ?_) : RT _ _ _ _ _ _ 2 _)
  refine (run0 (z := 0) 1 [9, 6, 0, 1, 2, 3, 4, 5, 7, 8, 10] [(9, .pointer (some ⟨b2, 0, none⟩)), (6, .pointer (some ⟨b1, 0, none⟩)), (0, .bool false), (1, .pointer (some ⟨b, 0, none⟩)), (2, .nilIface), (3, .nilIface), (4, .iface 42 (.int .i64 14)), (5, .iface 42 (.int .i64 20)), (7, .bool true), (8, .nilIface), (10, .bool true)] (fun _ => by kernel_rfl) (endR ?_) : RT _ _ _ _ _ _ 1 _)
  refine seqR (by kernel_rfl) ?_
  refine regionR 2 (by kernel_rfl) (by kernel_rfl) ?_
  refine (run0 (z := 1) 1 [9, 6, 0, 1, 2, 3, 4, 5, 7, 8, 10, 37] [(9, .pointer (some ⟨b2, 0, none⟩)), (6, .pointer (some ⟨b1, 0, none⟩)), (0, .bool false), (1, .pointer (some ⟨b, 0, none⟩)), (2, .nilIface), (3, .nilIface), (4, .iface 42 (.int .i64 14)), (5, .iface 42 (.int .i64 20)), (7, .bool true), (8, .nilIface), (10, .bool true), (37, .pointer (some ⟨b, 0, none⟩))] (fun _ => by kernel_rfl) ?_ : RT _ _ _ _ _ _ 2 _)
  refine (RT.pick 1 rfl ?_ : RT _ _ _ (blk b2 31 [.int .i64 7, .int .i64 1] :: idxS b 2 [(7, 1), (9, 2)] :: blk b1 31 [.int .i64 3, .int .i64 2] :: H) _ _ 1 _)
  refine (stepR (z := 0) (callS 14 [.pointer (some ⟨b, 0, none⟩), .int .i64 8] (some 38) (fun _ => .tuple #[]) (fun _ => (idxS b 2 [(0, 1), (1, 2)] :: blk b2 31 [.int .i64 7, .int .i64 1] :: blk b1 31 [.int .i64 3, .int .i64 2] :: H)) (fun _ => by kernel_rfl) (shift_is (l := [(7, 1), (9, 2)]) (l' := [(0, 1), (1, 2)]) (by decide +kernel) s3 (by decide) _ b)) (fun _ => ?_) : RT _ _ _ _ _ _ 1 _)
  refine endR ?_
  refine seqR (by kernel_rfl) ?_
  refine regionR 7 (by kernel_rfl) (by kernel_rfl) ?_
  refine (run0 (z := 6) 1 [9, 6, 0, 1, 2, 3, 4, 5, 7, 8, 10, 40] [(9, .pointer (some ⟨b2, 0, none⟩)), (6, .pointer (some ⟨b1, 0, none⟩)), (0, .bool false), (1, .pointer (some ⟨b, 0, none⟩)), (2, .nilIface), (3, .nilIface), (4, .iface 42 (.int .i64 14)), (5, .iface 42 (.int .i64 20)), (7, .bool true), (8, .nilIface), (10, .bool true), (40, .pointer (some ⟨b, 0, none⟩))] (fun _ => by kernel_rfl) ?_ : RT _ _ _ _ _ _ 7 _)
  refine (stepR (z := 5) (callS 17 [.pointer (some ⟨b, 0, none⟩), .int .i64 2] (some 41) (fun _ => .tuple #[.int .i64 1, .bool true]) (fun _ => (idxS b 2 [(0, 1), (1, 2)] :: blk b2 31 [.int .i64 7, .int .i64 1] :: blk b1 31 [.int .i64 3, .int .i64 2] :: H)) (fun _ => by kernel_rfl) (pass_idx _ b 2 [(0, 1), (1, 2)] 2 (by decide))) (fun _ => ?_) : RT _ _ _ _ _ _ 6 _)
  refine (run0 (z := 0) 5 [9, 6, 0, 1, 2, 3, 4, 5, 7, 8, 10, 11, 12] [(9, .pointer (some ⟨b2, 0, none⟩)), (6, .pointer (some ⟨b1, 0, none⟩)), (0, .bool false), (1, .pointer (some ⟨b, 0, none⟩)), (2, .nilIface), (3, .nilIface), (4, .iface 42 (.int .i64 14)), (5, .iface 42 (.int .i64 20)), (7, .bool true), (8, .nilIface), (10, .bool true), (11, .int .i64 1), (12, .bool true)] (fun _ => by kernel_rfl) (endR ?_) : RT _ _ _ _ _ _ 5 _)
  refine seqR (by kernel_rfl) ?_
  refine regionR 3 (by kernel_rfl) (by kernel_rfl) ?_
  refine (run0 (z := 2) 1 [9, 6, 0, 1, 2, 3, 4, 5, 7, 8, 10, 11, 12, 44] [(9, .pointer (some ⟨b2, 0, none⟩)), (6, .pointer (some ⟨b1, 0, none⟩)), (0, .bool false), (1, .pointer (some ⟨b, 0, none⟩)), (2, .nilIface), (3, .nilIface), (4, .iface 42 (.int .i64 14)), (5, .iface 42 (.int .i64 20)), (7, .bool true), (8, .nilIface), (10, .bool true), (11, .int .i64 1), (12, .bool true), (44, .pointer (some ⟨b, 0, none⟩))] (fun _ => by kernel_rfl) ?_ : RT _ _ _ _ _ _ 3 _)
  refine (stepR (z := 1) (callS 11 [.pointer (some ⟨b, 0, none⟩), .int .i64 5] (some 45) (fun _ => .iface 42 (.int .i64 13)) (fun _ => (idxS b 2 [(0, 1), (1, 2)] :: blk b2 31 [.int .i64 7, .int .i64 1] :: blk b1 31 [.int .i64 3, .int .i64 2] :: H)) (fun _ => by kernel_rfl) (drop_no (by decide +kernel) (by decide) _ b)) (fun _ => ?_) : RT _ _ _ _ _ _ 2 _)
  refine (run0 (z := 0) 1 [9, 6, 0, 1, 2, 3, 4, 5, 7, 8, 10, 11, 12, 13] [(9, .pointer (some ⟨b2, 0, none⟩)), (6, .pointer (some ⟨b1, 0, none⟩)), (0, .bool false), (1, .pointer (some ⟨b, 0, none⟩)), (2, .nilIface), (3, .nilIface), (4, .iface 42 (.int .i64 14)), (5, .iface 42 (.int .i64 20)), (7, .bool true), (8, .nilIface), (10, .bool true), (11, .int .i64 1), (12, .bool true), (13, .iface 42 (.int .i64 13))] (fun _ => by kernel_rfl) (endR ?_) : RT _ _ _ _ _ _ 1 _)
  refine seqR (by kernel_rfl) ?_
  refine regionR 68 (by kernel_rfl) (by kernel_rfl) ?_
  refine (run0 (z := 59) 9 [9, 6, 0, 1, 5, 7, 8, 10, 11, 12, 13, 52, 53, 54] [(9, .pointer (some ⟨b2, 0, none⟩)), (6, .pointer (some ⟨b1, 0, none⟩)), (0, .bool false), (1, .pointer (some ⟨b, 0, none⟩)), (5, .iface 42 (.int .i64 20)), (7, .bool true), (8, .nilIface), (10, .bool true), (11, .int .i64 1), (12, .bool true), (13, .iface 42 (.int .i64 13)), (52, .bool true), (53, .iface 42 (.int .i64 14)), (54, .iface 42 (.int .i64 14))] (fun _ => by kernel_rfl) ?_ : RT _ _ _ _ _ _ 68 _)
  refine (stepR (z := 58) (callS 15 [.iface 42 (.int .i64 14), .iface 42 (.int .i64 14)] (some 55) (fun _ => .bool (14 == 14)) (fun (_ : Unit) => (idxS b 2 [(0, 1), (1, 2)] :: blk b2 31 [.int .i64 7, .int .i64 1] :: blk b1 31 [.int .i64 3, .int .i64 2] :: H)) (fun _ => by kernel_rfl) (isErr_walk _ 14 14)) (fun _ => ?_) : RT _ _ _ _ _ _ 59 _)
  refine (run0 (z := 54) 4 [9, 6, 0, 1, 7, 8, 10, 11, 12, 13, 57, 58, 59] [(9, .pointer (some ⟨b2, 0, none⟩)), (6, .pointer (some ⟨b1, 0, none⟩)), (0, .bool false), (1, .pointer (some ⟨b, 0, none⟩)), (7, .bool true), (8, .nilIface), (10, .bool true), (11, .int .i64 1), (12, .bool true), (13, .iface 42 (.int .i64 13)), (57, .bool true), (58, .iface 42 (.int .i64 20)), (59, .iface 42 (.int .i64 20))] (fun _ => by kernel_rfl) ?_ : RT _ _ _ _ _ _ 58 _)
  refine (stepR (z := 53) (callS 15 [.iface 42 (.int .i64 20), .iface 42 (.int .i64 20)] (some 60) (fun _ => .bool (20 == 20)) (fun (_ : Unit) => (idxS b 2 [(0, 1), (1, 2)] :: blk b2 31 [.int .i64 7, .int .i64 1] :: blk b1 31 [.int .i64 3, .int .i64 2] :: H)) (fun _ => by kernel_rfl) (isErr_walk _ 20 20)) (fun _ => ?_) : RT _ _ _ _ _ _ 54 _)
  refine (runR (H := (idxS b 2 [(0, 1), (1, 2)] :: blk b2 31 [.int .i64 7, .int .i64 1] :: blk b1 31 [.int .i64 3, .int .i64 2] :: H)) (z := 46) 7 [9, 0, 1, 8, 10, 11, 12, 13, 65, 66, 67] [(9, .pointer (some ⟨b2, 0, none⟩)), (0, .bool false), (1, .pointer (some ⟨b, 0, none⟩)), (8, .nilIface), (10, .bool true), (11, .int .i64 1), (12, .bool true), (13, .iface 42 (.int .i64 13)), (65, .bool true), (66, .agg #[.int .i64 3, .int .i64 2]), (67, .agg #[.int .i64 3, .int .i64 2])] [(⟨b1, 0, none⟩, .int .i64 3), (⟨b1, 1, none⟩, .int .i64 2)] (hasC (blkAt (T := 31) (cs := [.int .i64 3, .int .i64 2]) 2 rfl rfl) (hasC (blkAt (T := 31) (cs := [.int .i64 3, .int .i64 2]) 2 rfl rfl) has0)) (fun _ => by kernel_rfl) ?_ : RT _ _ _ _ _ _ 53 _)
  refine (stepR (z := 45) (yldS (binY .eql 31 31 (.tmp 66) (.tmp 67) (.agg #[.int .i64 3, .int .i64 2]) (.agg #[.int .i64 3, .int .i64 2]) (.bool (entEq (3, 2) (3, 2))) (some 68) (fun _ => by kernel_rfl) (by kernel_rfl) (by kernel_rfl) (fun _ => by kernel_rfl) (fun _ => by kernel_rfl) (ent_eql (3, 2) (3, 2) _ _))) (fun _ => ?_) : RT _ _ _ _ _ _ 46 _)
  refine (run0 (z := 43) 2 [9, 0, 1, 8, 10, 11, 12, 13, 70] [(9, .pointer (some ⟨b2, 0, none⟩)), (0, .bool false), (1, .pointer (some ⟨b, 0, none⟩)), (8, .nilIface), (10, .bool true), (11, .int .i64 1), (12, .bool true), (13, .iface 42 (.int .i64 13)), (70, .bool (entEq (3, 2) (3, 2)))] (fun _ => by kernel_rfl) ?_ : RT _ _ _ _ _ _ 45 _)
  refine (segR (ι := Unit) (z := 40) 3 (fun _ => [(9, .pointer (some ⟨b2, 0, none⟩)), (0, .bool false), (1, .pointer (some ⟨b, 0, none⟩)), (10, .bool true), (11, .int .i64 1), (12, .bool true), (13, .iface 42 (.int .i64 13)), (73, .bool ((entEq (3, 2) (3, 2)) && true))]) (fun _ => (idxS b 2 [(0, 1), (1, 2)] :: blk b2 31 [.int .i64 7, .int .i64 1] :: blk b1 31 [.int .i64 3, .int .i64 2] :: H)) ?_ (fun _ => ?_) : RT _ _ _ _ _ _ 43 _)
  · cases hg25 : (entEq (3, 2) (3, 2)) with
    | true =>
      refine (run0 (z := 0) 3 [9, 0, 1, 10, 11, 12, 13, 73] [(9, .pointer (some ⟨b2, 0, none⟩)), (0, .bool false), (1, .pointer (some ⟨b, 0, none⟩)), (10, .bool true), (11, .int .i64 1), (12, .bool true), (13, .iface 42 (.int .i64 13)), (73, .bool true)] (fun _ => by kernel_rfl) (endR ?_) : RT _ _ _ _ _ _ 3 _)
      refine PT.keep (L' := [(9, .pointer (some ⟨b2, 0, none⟩)), (0, .bool false), (1, .pointer (some ⟨b, 0, none⟩)), (10, .bool true), (11, .int .i64 1), (12, .bool true), (13, .iface 42 (.int .i64 13)), (73, .bool (true && true))]) [9, 0, 1, 10, 11, 12, 13, 73] rfl ?_
      exact midR () rfl rfl
    | false =>
      refine (run0 (z := 0) 3 [9, 0, 1, 10, 11, 12, 13, 73] [(9, .pointer (some ⟨b2, 0, none⟩)), (0, .bool false), (1, .pointer (some ⟨b, 0, none⟩)), (10, .bool true), (11, .int .i64 1), (12, .bool true), (13, .iface 42 (.int .i64 13)), (73, .bool false)] (fun _ => by kernel_rfl) (endR ?_) : RT _ _ _ _ _ _ 3 _)
      refine PT.keep (L' := [(9, .pointer (some ⟨b2, 0, none⟩)), (0, .bool false), (1, .pointer (some ⟨b, 0, none⟩)), (10, .bool true), (11, .int .i64 1), (12, .bool true), (13, .iface 42 (.int .i64 13)), (73, .bool (false && true))]) [9, 0, 1, 10, 11, 12, 13, 73] rfl ?_
      exact midR () rfl rfl
  refine (run0 (z := 39) 1 [9, 0, 1, 10, 11, 12, 13, 74] [(9, .pointer (some ⟨b2, 0, none⟩)), (0, .bool false), (1, .pointer (some ⟨b, 0, none⟩)), (10, .bool true), (11, .int .i64 1), (12, .bool true), (13, .iface 42 (.int .i64 13)), (74, .bool ((entEq (3, 2) (3, 2)) && true))] (fun _ => by kernel_rfl) ?_ : RT _ _ _ _ _ _ 40 _)
  refine (segR (ι := Unit) (z := 37) 2 (fun _ => [(9, .pointer (some ⟨b2, 0, none⟩)), (0, .bool false), (1, .pointer (some ⟨b, 0, none⟩)), (11, .int .i64 1), (12, .bool true), (13, .iface 42 (.int .i64 13)), (76, .bool (((entEq (3, 2) (3, 2)) && true) && true))]) (fun _ => (idxS b 2 [(0, 1), (1, 2)] :: blk b2 31 [.int .i64 7, .int .i64 1] :: blk b1 31 [.int .i64 3, .int .i64 2] :: H)) ?_ (fun _ => ?_) : RT _ _ _ _ _ _ 39 _)
  · cases hg29 : ((entEq (3, 2) (3, 2)) && true) with
    | true =>
      refine (run0 (z := 0) 2 [9, 0, 1, 11, 12, 13, 76] [(9, .pointer (some ⟨b2, 0, none⟩)), (0, .bool false), (1, .pointer (some ⟨b, 0, none⟩)), (11, .int .i64 1), (12, .bool true), (13, .iface 42 (.int .i64 13)), (76, .bool true)] (fun _ => by kernel_rfl) (endR ?_) : RT _ _ _ _ _ _ 2 _)
      refine PT.keep (L' := [(9, .pointer (some ⟨b2, 0, none⟩)), (0, .bool false), (1, .pointer (some ⟨b, 0, none⟩)), (11, .int .i64 1), (12, .bool true), (13, .iface 42 (.int .i64 13)), (76, .bool (true && true))]) [9, 0, 1, 11, 12, 13, 76] rfl ?_
      exact midR () rfl rfl
    | false =>
      refine (run0 (z := 0) 2 [9, 0, 1, 11, 12, 13, 76] [(9, .pointer (some ⟨b2, 0, none⟩)), (0, .bool false), (1, .pointer (some ⟨b, 0, none⟩)), (11, .int .i64 1), (12, .bool true), (13, .iface 42 (.int .i64 13)), (76, .bool false)] (fun _ => by kernel_rfl) (endR ?_) : RT _ _ _ _ _ _ 2 _)
      refine PT.keep (L' := [(9, .pointer (some ⟨b2, 0, none⟩)), (0, .bool false), (1, .pointer (some ⟨b, 0, none⟩)), (11, .int .i64 1), (12, .bool true), (13, .iface 42 (.int .i64 13)), (76, .bool (false && true))]) [9, 0, 1, 11, 12, 13, 76] rfl ?_
      exact midR () rfl rfl
  refine (run0 (z := 36) 1 [9, 0, 1, 11, 12, 13, 77] [(9, .pointer (some ⟨b2, 0, none⟩)), (0, .bool false), (1, .pointer (some ⟨b, 0, none⟩)), (11, .int .i64 1), (12, .bool true), (13, .iface 42 (.int .i64 13)), (77, .bool (((entEq (3, 2) (3, 2)) && true) && true))] (fun _ => by kernel_rfl) ?_ : RT _ _ _ _ _ _ 37 _)
  refine (segR (ι := Unit) (z := 32) 4 (fun _ => [(0, .bool false), (1, .pointer (some ⟨b, 0, none⟩)), (11, .int .i64 1), (12, .bool true), (13, .iface 42 (.int .i64 13)), (81, .bool ((((entEq (3, 2) (3, 2)) && true) && true) && true))]) (fun _ => (idxS b 2 [(0, 1), (1, 2)] :: blk b2 31 [.int .i64 7, .int .i64 1] :: blk b1 31 [.int .i64 3, .int .i64 2] :: H)) ?_ (fun _ => ?_) : RT _ _ _ _ _ _ 36 _)
  · cases hg32 : (((entEq (3, 2) (3, 2)) && true) && true) with
    | true =>
      refine (runR (H := (idxS b 2 [(0, 1), (1, 2)] :: blk b2 31 [.int .i64 7, .int .i64 1] :: blk b1 31 [.int .i64 3, .int .i64 2] :: H)) (z := 0) 4 [0, 1, 11, 12, 13, 81] [(0, .bool false), (1, .pointer (some ⟨b, 0, none⟩)), (11, .int .i64 1), (12, .bool true), (13, .iface 42 (.int .i64 13)), (81, .bool true)] [(⟨b2, 1, none⟩, .int .i64 1)] (hasC (blkAt (T := 31) (cs := [.int .i64 7, .int .i64 1]) 1 rfl rfl) has0) (fun _ => by kernel_rfl) (endR ?_) : RT _ _ _ _ _ _ 4 _)
      refine PT.keep (L' := [(0, .bool false), (1, .pointer (some ⟨b, 0, none⟩)), (11, .int .i64 1), (12, .bool true), (13, .iface 42 (.int .i64 13)), (81, .bool (true && true))]) [0, 1, 11, 12, 13, 81] rfl ?_
      exact midR () rfl rfl
    | false =>
      refine (run0 (z := 0) 4 [0, 1, 11, 12, 13, 81] [(0, .bool false), (1, .pointer (some ⟨b, 0, none⟩)), (11, .int .i64 1), (12, .bool true), (13, .iface 42 (.int .i64 13)), (81, .bool false)] (fun _ => by kernel_rfl) (endR ?_) : RT _ _ _ _ _ _ 4 _)
      refine PT.keep (L' := [(0, .bool false), (1, .pointer (some ⟨b, 0, none⟩)), (11, .int .i64 1), (12, .bool true), (13, .iface 42 (.int .i64 13)), (81, .bool (false && true))]) [0, 1, 11, 12, 13, 81] rfl ?_
      exact midR () rfl rfl
  refine (run0 (z := 31) 1 [0, 1, 11, 12, 13, 82] [(0, .bool false), (1, .pointer (some ⟨b, 0, none⟩)), (11, .int .i64 1), (12, .bool true), (13, .iface 42 (.int .i64 13)), (82, .bool ((((entEq (3, 2) (3, 2)) && true) && true) && true))] (fun _ => by kernel_rfl) ?_ : RT _ _ _ _ _ _ 32 _)
  refine (segR (ι := Unit) (z := 29) 2 (fun _ => [(0, .bool false), (1, .pointer (some ⟨b, 0, none⟩)), (11, .int .i64 1), (13, .iface 42 (.int .i64 13)), (84, .bool (((((entEq (3, 2) (3, 2)) && true) && true) && true) && true))]) (fun _ => (idxS b 2 [(0, 1), (1, 2)] :: blk b2 31 [.int .i64 7, .int .i64 1] :: blk b1 31 [.int .i64 3, .int .i64 2] :: H)) ?_ (fun _ => ?_) : RT _ _ _ _ _ _ 31 _)
  · cases hg37 : ((((entEq (3, 2) (3, 2)) && true) && true) && true) with
    | true =>
      refine (run0 (z := 0) 2 [0, 1, 11, 13, 84] [(0, .bool false), (1, .pointer (some ⟨b, 0, none⟩)), (11, .int .i64 1), (13, .iface 42 (.int .i64 13)), (84, .bool true)] (fun _ => by kernel_rfl) (endR ?_) : RT _ _ _ _ _ _ 2 _)
      refine PT.keep (L' := [(0, .bool false), (1, .pointer (some ⟨b, 0, none⟩)), (11, .int .i64 1), (13, .iface 42 (.int .i64 13)), (84, .bool (true && true))]) [0, 1, 11, 13, 84] rfl ?_
      exact midR () rfl rfl
    | false =>
      refine (run0 (z := 0) 2 [0, 1, 11, 13, 84] [(0, .bool false), (1, .pointer (some ⟨b, 0, none⟩)), (11, .int .i64 1), (13, .iface 42 (.int .i64 13)), (84, .bool false)] (fun _ => by kernel_rfl) (endR ?_) : RT _ _ _ _ _ _ 2 _)
      refine PT.keep (L' := [(0, .bool false), (1, .pointer (some ⟨b, 0, none⟩)), (11, .int .i64 1), (13, .iface 42 (.int .i64 13)), (84, .bool (false && true))]) [0, 1, 11, 13, 84] rfl ?_
      exact midR () rfl rfl
  refine (run0 (z := 28) 1 [0, 1, 11, 13, 85] [(0, .bool false), (1, .pointer (some ⟨b, 0, none⟩)), (11, .int .i64 1), (13, .iface 42 (.int .i64 13)), (85, .bool (((((entEq (3, 2) (3, 2)) && true) && true) && true) && true))] (fun _ => by kernel_rfl) ?_ : RT _ _ _ _ _ _ 29 _)
  refine (segR (ι := Unit) (z := 25) 3 (fun _ => [(0, .bool false), (1, .pointer (some ⟨b, 0, none⟩)), (13, .iface 42 (.int .i64 13)), (88, .bool ((((((entEq (3, 2) (3, 2)) && true) && true) && true) && true) && true))]) (fun _ => (idxS b 2 [(0, 1), (1, 2)] :: blk b2 31 [.int .i64 7, .int .i64 1] :: blk b1 31 [.int .i64 3, .int .i64 2] :: H)) ?_ (fun _ => ?_) : RT _ _ _ _ _ _ 28 _)
  · cases hg40 : (((((entEq (3, 2) (3, 2)) && true) && true) && true) && true) with
    | true =>
      refine (run0 (z := 0) 3 [0, 1, 13, 88] [(0, .bool false), (1, .pointer (some ⟨b, 0, none⟩)), (13, .iface 42 (.int .i64 13)), (88, .bool true)] (fun _ => by kernel_rfl) (endR ?_) : RT _ _ _ _ _ _ 3 _)
      refine PT.keep (L' := [(0, .bool false), (1, .pointer (some ⟨b, 0, none⟩)), (13, .iface 42 (.int .i64 13)), (88, .bool (true && true))]) [0, 1, 13, 88] rfl ?_
      exact midR () rfl rfl
    | false =>
      refine (run0 (z := 0) 3 [0, 1, 13, 88] [(0, .bool false), (1, .pointer (some ⟨b, 0, none⟩)), (13, .iface 42 (.int .i64 13)), (88, .bool false)] (fun _ => by kernel_rfl) (endR ?_) : RT _ _ _ _ _ _ 3 _)
      refine PT.keep (L' := [(0, .bool false), (1, .pointer (some ⟨b, 0, none⟩)), (13, .iface 42 (.int .i64 13)), (88, .bool (false && true))]) [0, 1, 13, 88] rfl ?_
      exact midR () rfl rfl
  refine (run0 (z := 24) 1 [0, 1, 13, 89] [(0, .bool false), (1, .pointer (some ⟨b, 0, none⟩)), (13, .iface 42 (.int .i64 13)), (89, .bool ((((((entEq (3, 2) (3, 2)) && true) && true) && true) && true) && true))] (fun _ => by kernel_rfl) ?_ : RT _ _ _ _ _ _ 25 _)
  refine (segR (ι := Unit) (z := 20) 4 (fun _ => [(0, .bool false), (1, .pointer (some ⟨b, 0, none⟩)), (93, .bool (((((((entEq (3, 2) (3, 2)) && true) && true) && true) && true) && true) && true))]) (fun _ => (idxS b 2 [(0, 1), (1, 2)] :: blk b2 31 [.int .i64 7, .int .i64 1] :: blk b1 31 [.int .i64 3, .int .i64 2] :: H)) ?_ (fun _ => ?_) : RT _ _ _ _ _ _ 24 _)
  · cases hg44 : ((((((entEq (3, 2) (3, 2)) && true) && true) && true) && true) && true) with
    | true =>
      refine (run0 (z := 2) 2 [0, 1, 89, 90, 91] [(0, .bool false), (1, .pointer (some ⟨b, 0, none⟩)), (89, .bool true), (90, .iface 42 (.int .i64 13)), (91, .iface 42 (.int .i64 13))] (fun _ => by kernel_rfl) ?_ : RT _ _ _ _ _ _ 4 _)
      refine (stepR (z := 1) (callS 15 [.iface 42 (.int .i64 13), .iface 42 (.int .i64 13)] (some 92) (fun _ => .bool (13 == 13)) (fun (_ : Unit) => (idxS b 2 [(0, 1), (1, 2)] :: blk b2 31 [.int .i64 7, .int .i64 1] :: blk b1 31 [.int .i64 3, .int .i64 2] :: H)) (fun _ => by kernel_rfl) (isErr_walk _ 13 13)) (fun _ => ?_) : RT _ _ _ _ _ _ 2 _)
      refine (run0 (z := 0) 1 [0, 1, 93] [(0, .bool false), (1, .pointer (some ⟨b, 0, none⟩)), (93, .bool true)] (fun _ => by kernel_rfl) (endR ?_) : RT _ _ _ _ _ _ 1 _)
      refine PT.keep (L' := [(0, .bool false), (1, .pointer (some ⟨b, 0, none⟩)), (93, .bool (true && true))]) [0, 1, 93] rfl ?_
      exact midR () rfl rfl
    | false =>
      refine (run0 (z := 0) 4 [0, 1, 93] [(0, .bool false), (1, .pointer (some ⟨b, 0, none⟩)), (93, .bool false)] (fun _ => by kernel_rfl) (endR ?_) : RT _ _ _ _ _ _ 4 _)
      refine PT.keep (L' := [(0, .bool false), (1, .pointer (some ⟨b, 0, none⟩)), (93, .bool (false && true))]) [0, 1, 93] rfl ?_
      exact midR () rfl rfl
  refine (run0 (z := 19) 1 [0, 1, 94] [(0, .bool false), (1, .pointer (some ⟨b, 0, none⟩)), (94, .bool (((((((entEq (3, 2) (3, 2)) && true) && true) && true) && true) && true) && true))] (fun _ => by kernel_rfl) ?_ : RT _ _ _ _ _ _ 20 _)
  rw [show (((((((entEq (3, 2) (3, 2)) && true) && true) && true) && true) && true) && true) = true by decide]
  refine (run0 (z := 18) 1 [0, 1, 94, 95] [(0, .bool false), (1, .pointer (some ⟨b, 0, none⟩)), (94, .bool true), (95, .pointer (some ⟨b, 0, none⟩))] (fun _ => by kernel_rfl) ?_ : RT _ _ _ _ _ _ 19 _)
  refine (stepR (z := 17) (callS 12 [.pointer (some ⟨b, 0, none⟩)] (some 96) (fun _ => .int .i64 2) (fun _ => (idxS b 2 [(0, 1), (1, 2)] :: blk b2 31 [.int .i64 7, .int .i64 1] :: blk b1 31 [.int .i64 3, .int .i64 2] :: H)) (fun _ => by kernel_rfl) (len_idx _ b 2 [(0, 1), (1, 2)])) (fun _ => ?_) : RT _ _ _ _ _ _ 18 _)
  refine (run0 (z := 13) 4 [0, 1, 99, 100] [(0, .bool false), (1, .pointer (some ⟨b, 0, none⟩)), (99, .bool true), (100, .pointer (some ⟨b, 0, none⟩))] (fun _ => by kernel_rfl) ?_ : RT _ _ _ _ _ _ 17 _)
  obtain ⟨l2, hl2⟩ : ∃ l2 : List (Int × Int), l2 = [(0, 1), (1, 2)] := ⟨_, rfl⟩
  rw [← hl2]
  refine (stepR (z := 12) (callS 13 [.pointer (some ⟨b, 0, none⟩)] (some 101) (fun (r : Option Addr × Nat) => .slice r.1 l2.length r.2) (fun (r : Option Addr × Nat) => (row slE 31 (.slice r.1 l2.length r.2) l2 :: idxS b 2 l2 :: blk b2 31 [.int .i64 7, .int .i64 1] :: blk b1 31 [.int .i64 3, .int .i64 2] :: H)) (fun _ => by kernel_rfl) (all_idx _ b 2 l2 (by rw [hl2]; decide))) (fun (r : Option Addr × Nat) => ?_) : RT _ _ _ _ _ _ 13 _)
  refine (run0 (z := 8) 4 [0, 1, 105] [(0, .bool false), (1, .pointer (some ⟨b, 0, none⟩)), (105, .bool ((l2.length : Int) == 2))] (fun _ => by kernel_rfl) ?_ : RT _ _ _ _ _ _ 12 _)
  rw [show ((l2.length : Int) == 2) = true by rw [hl2]; rfl]
  refine (run0 (z := 7) 1 [0, 105, 106] [(0, .bool false), (105, .bool true), (106, .pointer (some ⟨b, 0, none⟩))] (fun _ => by kernel_rfl) ?_ : RT _ _ _ _ _ _ 8 _)
  refine (stepR (z := 6) (callS 13 [.pointer (some ⟨b, 0, none⟩)] (some 107) (fun (q : Nat × Nat × Nat) => .slice (some ⟨q.1, q.2.1, none⟩) l2.length q.2.2) (fun (q : Nat × Nat × Nat) => (row slE 31 (.slice (some ⟨q.1, q.2.1, none⟩) l2.length q.2.2) l2 :: row slE 31 (.slice r.1 l2.length r.2) l2 :: idxS b 2 l2 :: blk b2 31 [.int .i64 7, .int .i64 1] :: blk b1 31 [.int .i64 3, .int .i64 2] :: H)) (fun _ => by kernel_rfl) (all_some (row slE 31 (.slice r.1 l2.length r.2) l2 :: idxS b 2 l2 :: blk b2 31 [.int .i64 7, .int .i64 1] :: blk b1 31 [.int .i64 3, .int .i64 2] :: H) 1 b 2 l2 rfl (by rw [hl2]; decide) (by rw [hl2]; simp))) (fun (q : Nat × Nat × Nat) => ?_) : RT _ _ _ _ _ _ 7 _)
  obtain ⟨sb, so, cap⟩ := q
  dsimp only
  refine (stepR (z := 5) (yldS (idxY 37 (.tmp 107) (.const (.int .i64 0)) sb so l2.length cap 0 2 31 0 .i64 (some 108) (fun _ => by kernel_rfl) (by kernel_rfl) (by kernel_rfl) (fun _ => by kernel_rfl) (fun _ => by kernel_rfl) Try.underlying37 (by kernel_rfl) (by first | rfl | assumption | simp) (by rw [hl2]; decide))) (fun _ => ?_) : RT _ _ _ _ _ _ 6 _)
  refine (runR (H := (row slE 31 (.slice (some ⟨sb, so, none⟩) l2.length cap) l2 :: row slE 31 (.slice r.1 l2.length r.2) l2 :: idxS b 2 l2 :: blk b2 31 [.int .i64 7, .int .i64 1] :: blk b1 31 [.int .i64 3, .int .i64 2] :: H)) (z := 3) 2 [0, 105, 109, 110] [(0, .bool false), (105, .bool true), (109, .agg #[.int .i64 0, .int .i64 1]), (110, .agg #[.int .i64 0, .int .i64 1])] [(⟨sb, so + 0 * 2, none⟩, .int .i64 0), (⟨sb, so + 0 * 2 + 1, none⟩, .int .i64 1)] (hasC ((rowKRat (xs := l2) (A := some ⟨sb, so, none⟩) (k := cap) (E := slE) (T := 31) 0 rfl).cell rfl (i := 0) (x := (0, 1)) (by rw [hl2]; rfl) (j := 0) rfl) (hasC ((rowKRat (xs := l2) (A := some ⟨sb, so, none⟩) (k := cap) (E := slE) (T := 31) 0 rfl).cell rfl (i := 0) (x := (0, 1)) (by rw [hl2]; rfl) (j := 1) rfl) has0)) (fun _ => by kernel_rfl) ?_ : RT _ _ _ _ _ _ 5 _)
  refine (stepR (z := 2) (yldS (binY .eql 31 31 (.tmp 109) (.tmp 110) (.agg #[.int .i64 0, .int .i64 1]) (.agg #[.int .i64 0, .int .i64 1]) (.bool (entEq (0, 1) (0, 1))) (some 111) (fun _ => by kernel_rfl) (by kernel_rfl) (by kernel_rfl) (fun _ => by kernel_rfl) (fun _ => by kernel_rfl) (ent_eql (0, 1) (0, 1) _ _))) (fun _ => ?_) : RT _ _ _ _ _ _ 3 _)
  refine (run0 (z := 0) 2 [0] [(0, .bool (entEq (0, 1) (0, 1)))] (fun _ => by kernel_rfl) (endR ?_) : RT _ _ _ _ _ _ 2 _)
  refine retR (by kernel_rfl) ?_
  refine done0 (.bool (entEq (0, 1) (0, 1))) (fun _ => by kernel_rfl) (fun w hs => ?_) .ret (.inr rfl)
  exact ⟨(), rfl, hs.tail.tail.tail.tail.tail⟩
end Go.Proofs.Ytpojhpmhcjiidaa
