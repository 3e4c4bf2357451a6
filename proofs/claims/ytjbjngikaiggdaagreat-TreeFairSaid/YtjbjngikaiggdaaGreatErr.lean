/- errors.Is of numbered errors: its walk. Conditions: none. -/
import Derived.Test.YtjbjngikaiggdaaGreatG
import Derived.LaidEql
import Derived.Stop.Asserts
import Derived.RowKitTokens
import Derived.Lib.IfaceEq
set_option linter.unusedVariables false
set_option linter.unusedSimpArgs false
namespace Go.Proofs.YtjbjngikaiggdaaGreat
open Go.RowKit G Go.Extern.Stop Go.Stop Go.Extern
theorem isTypeOf (v : Value) (w : World) : (Extern.ReflectliteType.typeOf #[.iface 46 v]).run Tryz.prog w = .ok (.iface 88 (.agg #[typeHandle Tryz.prog 46])) w := by kernel_rfl
theorem isComparable (w : World) : ((Extern.ReflectliteType.method fun t => do Extern.Rtype.noPackHeld "Comparable" t; (fun a => Value.bool a.comparable) <$> typeInfo t) #[.agg #[typeHandle Tryz.prog 46]]).run Tryz.prog w = .ok (.bool true) w := by kernel_rfl
theorem noIsE (v : Value) (xT : TypeId) (w : World) : (Instr.typeAssert (.iface 46 v) xT 90 true).run Tryz.prog w = .ok (.tuple #[.nilIface, .bool false]) w := run_typeAssert_lacksB Tryz.underlying90 (by kernel_rfl) (by kernel_rfl) v xT w
theorem noUnwrapE (v : Value) (xT : TypeId) (w : World) : (Instr.typeAssert (.iface 46 v) xT 93 true).run Tryz.prog w = .ok (.tuple #[.nilIface, .bool false]) w := run_typeAssert_lacksB Tryz.underlying93 (by kernel_rfl) (by kernel_rfl) v xT w
theorem noUnwrapsE (v : Value) (xT : TypeId) (w : World) : (Instr.typeAssert (.iface 46 v) xT 95 true).run Tryz.prog w = .ok (.tuple #[.nilIface, .bool false]) w := run_typeAssert_lacksB Tryz.underlying95 (by kernel_rfl) (by kernel_rfl) v xT w
theorem isMeth (k : Nat) (v : Value) (w : World) : (Go.method (k + 1) 88 v "Comparable").run Tryz.prog w = .ok (111, v) w := by kernel_rfl
set_option maxHeartbeats 1000000 in
set_option maxRecDepth 100000 in
theorem is_errno (a b : Int) (w : World) :
    Calls Tryz.prog 14 #[.iface 46 (.int .i64 a), .iface 46 (.int .i64 b)] w fun e w' => e = .returned (.bool (a == b)) ∧ w' = w := by
  have h8 := @run_callFunc_extern Tryz.prog 28 _ Extern.ReflectliteType.typeOf Tryz.func28 (by kernel_rfl) (by kernel_rfl) (by kernel_rfl) (by kernel_rfl)
  have h32 := @run_callFunc_extern Tryz.prog 111 _ (Extern.ReflectliteType.method fun t => do Extern.Rtype.noPackHeld "Comparable" t; pure (.bool (← typeInfo t).comparable)) Tryz.func111 (by kernel_rfl) (by kernel_rfl) (by kernel_rfl) (by kernel_rfl)
  have tT := isTypeOf
  have cT := isComparable
  obtain ⟨hh, hhe⟩ : ∃ h, h = typeHandle Tryz.prog 46 := ⟨_, rfl⟩
  rw [← hhe] at tT cT
  clear hhe
  have mR := isMeth
  have nE := noIsE
  have uE := noUnwrapE
  have vE := noUnwrapsE
  have heq := Go.Lib.run_eql_iface_int (P := Tryz.prog) (t := 29) (tx := 46) (k := .i64) w a b Tryz.underlying29 (by kernel_rfl) Tryz.underlying46
  go_enter Tryz.func14, Tryz.ntmps14
  go_wp2
  refine wp_loop_rounds 1 ?_
  rw [rounds_succ]
  cases hab : (a == b) with
  | true =>
    go_wp2
    go_ret
    exact ⟨by simp [hab], by simp⟩
  | false =>
    go_wp2
    go_ret
    exact ⟨by simp [hab], by simp⟩
end Go.Proofs.YtjbjngikaiggdaaGreat
