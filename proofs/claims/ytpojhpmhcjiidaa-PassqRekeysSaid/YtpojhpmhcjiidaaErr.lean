/- errors.Is of numbered errors: its walk. Conditions: none. -/
import Derived.Test.YtpojhpmhcjiidaaG
import Derived.LaidEql
import Derived.Stop.Asserts
import Derived.RowKitTokens
import Derived.Lib.IfaceEq
set_option linter.unusedVariables false
set_option linter.unusedSimpArgs false
namespace Go.Proofs.Ytpojhpmhcjiidaa
open Go.RowKit G Go.Extern.Stop Go.Stop Go.Extern
theorem isTypeOf (v : Value) (w : World) : (Extern.ReflectliteType.typeOf #[.iface 42 v]).run Try.prog w = .ok (.iface 67 (.agg #[typeHandle Try.prog 42])) w := by kernel_rfl
theorem isComparable (w : World) : ((Extern.ReflectliteType.method fun t => do Extern.Rtype.noPackHeld "Comparable" t; (fun a => Value.bool a.comparable) <$> typeInfo t) #[.agg #[typeHandle Try.prog 42]]).run Try.prog w = .ok (.bool true) w := by kernel_rfl
theorem noIsE (v : Value) (xT : TypeId) (w : World) : (Instr.typeAssert (.iface 42 v) xT 69 true).run Try.prog w = .ok (.tuple #[.nilIface, .bool false]) w := run_typeAssert_lacksB Try.underlying69 (by kernel_rfl) (by kernel_rfl) v xT w
theorem noUnwrapE (v : Value) (xT : TypeId) (w : World) : (Instr.typeAssert (.iface 42 v) xT 72 true).run Try.prog w = .ok (.tuple #[.nilIface, .bool false]) w := run_typeAssert_lacksB Try.underlying72 (by kernel_rfl) (by kernel_rfl) v xT w
theorem noUnwrapsE (v : Value) (xT : TypeId) (w : World) : (Instr.typeAssert (.iface 42 v) xT 74 true).run Try.prog w = .ok (.tuple #[.nilIface, .bool false]) w := run_typeAssert_lacksB Try.underlying74 (by kernel_rfl) (by kernel_rfl) v xT w
theorem isMeth (k : Nat) (v : Value) (w : World) : (Go.method (k + 1) 67 v "Comparable").run Try.prog w = .ok (73, v) w := by kernel_rfl
set_option maxHeartbeats 1000000 in
set_option maxRecDepth 100000 in
theorem is_errno (a b : Int) (w : World) :
    Calls Try.prog 15 #[.iface 42 (.int .i64 a), .iface 42 (.int .i64 b)] w fun e w' => e = .returned (.bool (a == b)) ∧ w' = w := by
  have h8 := @run_callFunc_extern Try.prog 25 _ Extern.ReflectliteType.typeOf Try.func25 (by kernel_rfl) (by kernel_rfl) (by kernel_rfl) (by kernel_rfl)
  have h32 := @run_callFunc_extern Try.prog 73 _ (Extern.ReflectliteType.method fun t => do Extern.Rtype.noPackHeld "Comparable" t; pure (.bool (← typeInfo t).comparable)) Try.func73 (by kernel_rfl) (by kernel_rfl) (by kernel_rfl) (by kernel_rfl)
  have tT := isTypeOf
  have cT := isComparable
  obtain ⟨hh, hhe⟩ : ∃ h, h = typeHandle Try.prog 42 := ⟨_, rfl⟩
  rw [← hhe] at tT cT
  clear hhe
  have mR := isMeth
  have nE := noIsE
  have uE := noUnwrapE
  have vE := noUnwrapsE
  have heq := Go.Lib.run_eql_iface_int (P := Try.prog) (t := 27) (tx := 42) (k := .i64) w a b Try.underlying27 (by kernel_rfl) Try.underlying42
  go_enter Try.func15, Try.ntmps15
  go_wp2
  refine wp_loop_rounds 1 ?_
  rw [rounds_succ]
  cases hab : (a == b) with
  | true =>
    go_wp2
    go_ret
    exact ⟨by simp [hab], by simp⟩
  | false =>
    go_wp2
    go_ret
    exact ⟨by simp [hab], by simp⟩
end Go.Proofs.Ytpojhpmhcjiidaa
