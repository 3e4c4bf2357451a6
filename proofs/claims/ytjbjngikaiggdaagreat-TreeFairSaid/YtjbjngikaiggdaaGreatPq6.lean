/- passq: entries compared; errors; what the laws know first. Conditions: none. -/
import Derived.Test.YtjbjngikaiggdaaGreatPq5
import Derived.Test.YtjbjngikaiggdaaGreatErr
import Derived.Laws.StructEq
import Derived.ChangeKeysEq
set_option linter.unusedVariables false
set_option linter.unusedSimpArgs false
namespace Go.Proofs.YtjbjngikaiggdaaGreat
open Go.RowKit G
theorem isErr_walk (H : List SP) (a b : Int) : ∀ w, Sat w H → Calls Tryz.prog 14 #[.iface 46 (.int .i64 a), .iface 46 (.int .i64 b)] w (Ret (ι := Unit) (fun _ => .bool (a == b)) fun _ => H) := fun w hs =>
  (is_errno a b w).mono fun e w' ⟨he, hw⟩ => ⟨(), he, hw ▸ hs⟩
theorem eqFields_int {P : Program} (w : World) (d : Nat) (xs ys : Array Value) (f : Field) (fs : List Field) (k k' : IntKind) (a b : Int) (hn : (f.name == "_") = false) (hu : P.underlying f.type = some (.int k')) (hp : P.plainKey f.type = true) (hx : xs[f.offset]? = some (.int k a)) (hy : ys[f.offset]? = some (.int k b)) :
    (Op.eqFields (d + 1) xs ys (f :: fs)).run P w = if (a == b) = true then (Op.eqFields (d + 1) xs ys fs).run P w else .ok false w := by
  have hn' : f.name ≠ "_" := by simpa using hn
  rw [Op.eqFields, if_pos hn']
  simp only [Sem.run_bind, run_part_plain w hp hx, run_part_plain w hp hy, Result.andThen_ok, run_equalIn_int w d f.type k k' a b hu]
  cases h : (a == b) <;> simp
theorem SatF.unpick : ∀ {l : List SP} (i : Nat) {P : SP} {w : World} {F : Nat → Prop}, l[i]? = some P → SatF (P :: l.eraseIdx i) w F → SatF l w F
  | [], i, P, w, F, h, _ => by simp at h
  | Q :: l, 0, P, w, F, h, hs => by simp at h; subst h; exact hs
  | Q :: l, i + 1, P, w, F, h, hs => by
    obtain ⟨G, h1, h2, h3⟩ := SatF.swap hs
    exact ⟨G, h1, h2, SatF.unpick i (by simpa using h) h3⟩
theorem same_at {P : Program} {f : FuncId} {vs : Array Value} {v : Value} {X : SP} {H : List SP} (j : Nat) (hj : H[j]? = some X) (h : ∀ w, Sat w (X :: H.eraseIdx j) → Calls P f vs w (Ret (ι := Unit) (fun _ => v) fun _ => X :: H.eraseIdx j)) : ∀ w, Sat w H → Calls P f vs w (Ret (ι := Unit) (fun _ => v) fun _ => H) := fun w hs =>
  (h w (hs.pick j hj)).mono fun e w' ⟨p, he, hx⟩ => ⟨p, he, SatF.unpick j hj hx⟩
theorem SatF.unpickSet : ∀ {l : List SP} (i : Nat) {P Y : SP} {w : World} {F : Nat → Prop}, l[i]? = some P → SatF (Y :: l.eraseIdx i) w F → SatF (l.set i Y) w F
  | [], i, P, Y, w, F, h, _ => by simp at h
  | Q :: l, 0, P, Y, w, F, h, hs => hs
  | Q :: l, i + 1, P, Y, w, F, h, hs => by
    obtain ⟨G, h1, h2, h3⟩ := SatF.swap hs
    exact ⟨G, h1, h2, SatF.unpickSet i (by simpa using h) h3⟩
theorem chg_at {ι : Type} {P : Program} {f : FuncId} {vs : Array Value} {rv : ι → Value} {X : SP} {Y : ι → SP} {H : List SP} (j : Nat) (hj : H[j]? = some X) (h : ∀ w, Sat w (X :: H.eraseIdx j) → Calls P f vs w (Ret rv fun x => Y x :: H.eraseIdx j)) : ∀ w, Sat w H → Calls P f vs w (Ret rv fun x => H.set j (Y x)) := fun w hs =>
  (h w (hs.pick j hj)).mono fun e w' ⟨p, he, hx⟩ => ⟨p, he, SatF.unpickSet j hj hx⟩
def entEq (a b : Int × Int) : Bool := a.1 == b.1 && a.2 == b.2
theorem ent_eqv (a b : Int × Int) (w : World) : (Op.equalIn 10000 65 (.agg #[.int .i64 a.1, .int .i64 a.2]) (.agg #[.int .i64 b.1, .int .i64 b.2])).run Tryz.prog w = .ok (entEq a b) w := by
  unfold entEq
  rw [run_equalIn_struct w 9999 _ _ _ (by kernel_rfl) (by kernel_rfl)]
  have hl : (Tryz.prog.fieldsOf 65).toList = [(Tryz.prog.fieldsOf 65).toList.getD 0 default, (Tryz.prog.fieldsOf 65).toList.getD 1 default] := by kernel_rfl
  rw [hl, eqFields_int w 9998 _ _ _ _ .i64 .i64 a.1 b.1 (by kernel_rfl) (by kernel_rfl) (by kernel_rfl) (by kernel_rfl) (by kernel_rfl), eqFields_int w 9998 _ _ _ _ .i64 .i64 a.2 b.2 (by kernel_rfl) (by kernel_rfl) (by kernel_rfl) (by kernel_rfl) (by kernel_rfl)]
  cases a.1 == b.1 <;> cases a.2 == b.2 <;> simp [Op.eqFields]
theorem ent_eql (a b : Int × Int) (x y : Operand) (w : World) : (do eqGuard .eql 65 x y (.agg #[.int .i64 a.1, .int .i64 a.2]) (.agg #[.int .i64 b.1, .int .i64 b.2]); binOp .eql 65 (.agg #[.int .i64 a.1, .int .i64 a.2]) (.agg #[.int .i64 b.1, .int .i64 b.2]) : Sem Value).run Tryz.prog w = .ok (.bool (entEq a b)) w := by
  have h := ent_eqv a b w
  rw [Sem.run_bind, run_eqGuard_agg w _ _ _ _ _ _ (by kernel_rfl)]
  simp only [Result.andThen_ok]
  rw [run_eql_struct, h]
  rfl
theorem ent_neq (a b : Int × Int) (x y : Operand) (w : World) : (do eqGuard .neq 65 x y (.agg #[.int .i64 a.1, .int .i64 a.2]) (.agg #[.int .i64 b.1, .int .i64 b.2]); binOp .neq 65 (.agg #[.int .i64 a.1, .int .i64 a.2]) (.agg #[.int .i64 b.1, .int .i64 b.2]) : Sem Value).run Tryz.prog w = .ok (.bool (!entEq a b)) w := by
  have h := ent_eqv a b w
  rw [Sem.run_bind, run_eqGuard_agg w _ _ _ _ _ _ (by kernel_rfl)]
  simp only [Result.andThen_ok]
  rw [run_neq_struct, h]
  rfl
theorem put_ok {l' : List (Int × Int)} {room : Int} {l : List (Int × Int)} {p id : Int} (h : putE room l p id = (0, l')) (hsr : SrtE l) (hl : l.length < 1000000) (H : List SP) (b : Nat) : ∀ w, Sat w (idxS b room l :: H) → Calls Tryz.prog 34 #[.pointer (some ⟨b, 0, none⟩), .int .i64 p, .int .i64 id] w (Ret (ι := Unit) (fun _ => .nilIface) fun _ => idxS b room l' :: H) := by
  have := put_idx H b room l p id hsr hl
  rw [h] at this
  exact this
theorem put_no {e : Int} {room : Int} {l : List (Int × Int)} {p id : Int} (h : putE room l p id = (e, l)) (he : e ≠ 0) (hsr : SrtE l) (hl : l.length < 1000000) (H : List SP) (b : Nat) : ∀ w, Sat w (idxS b room l :: H) → Calls Tryz.prog 34 #[.pointer (some ⟨b, 0, none⟩), .int .i64 p, .int .i64 id] w (Ret (ι := Unit) (fun _ => .iface 46 (.int .i64 e)) fun _ => idxS b room l :: H) := by
  have := put_idx H b room l p id hsr hl
  rw [h] at this
  simp only [pqErr, if_neg he] at this
  exact this
theorem drop_ok {l' : List (Int × Int)} {room : Int} {l : List (Int × Int)} {id : Int} (h : dropE l id = (0, l')) (hl : l.length < 1000000) (H : List SP) (b : Nat) : ∀ w, Sat w (idxS b room l :: H) → Calls Tryz.prog 36 #[.pointer (some ⟨b, 0, none⟩), .int .i64 id] w (Ret (ι := Unit) (fun _ => .nilIface) fun _ => idxS b room l' :: H) := by
  have := drop_idx H b room l id hl
  rw [h] at this
  exact this
theorem drop_no {room : Int} {l : List (Int × Int)} {id : Int} (h : dropE l id = (13, l)) (hl : l.length < 1000000) (H : List SP) (b : Nat) : ∀ w, Sat w (idxS b room l :: H) → Calls Tryz.prog 36 #[.pointer (some ⟨b, 0, none⟩), .int .i64 id] w (Ret (ι := Unit) (fun _ => .iface 46 (.int .i64 13)) fun _ => idxS b room l :: H) := by
  have := drop_idx H b room l id hl
  rw [h] at this
  exact this
theorem rekey_ok {l' : List (Int × Int)} {room : Int} {l : List (Int × Int)} {id p : Int} (h : rekeyE l id p = (0, l')) (hsr : SrtE l) (hl : l.length < 1000000) (H : List SP) (b : Nat) : ∀ w, Sat w (idxS b room l :: H) → Calls Tryz.prog 38 #[.pointer (some ⟨b, 0, none⟩), .int .i64 id, .int .i64 p] w (Ret (ι := Unit) (fun _ => .nilIface) fun _ => idxS b room l' :: H) := by
  have := rekey_idx H b room l id p hsr hl
  rw [h] at this
  exact this
theorem shift_is {l' : List (Int × Int)} {room : Int} {l : List (Int × Int)} {n : Int} (h : shiftE l n = l') (hsr : SrtE l') (hl : l.length ≤ 64) (H : List SP) (b : Nat) : ∀ w, Sat w (idxS b room l :: H) → Calls Tryz.prog 39 #[.pointer (some ⟨b, 0, none⟩), .int .i64 n] w (Ret (ι := Unit) (fun _ => .tuple #[]) fun _ => idxS b room l' :: H) := by
  have := shift_idx H b room l n hl (by rw [h]; exact hsr)
  rw [h] at this
  exact this
end Go.Proofs.YtjbjngikaiggdaaGreat
