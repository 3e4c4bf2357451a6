/- math/bits.Len of small numbers: its walk. Conditions: none. -/
import Derived.Test.YtjbjngikaiggdaaGreatG
import Derived.Lib.BitFns
import Derived.Lib.Tables
set_option linter.unusedVariables false
set_option linter.unusedSimpArgs false
namespace Go.Proofs.YtjbjngikaiggdaaGreat
open Go.RowKit G Go.Lib
theorem len8_big : ∀ n : Fin 65, 0 ≤ len8 (n.val : Int) ∧ len8 (n.val : Int) ≤ 7 ∧ (12 < n.val → len8 (n.val : Int) ≠ 0) := by decide +kernel
set_option maxHeartbeats 1000000 in
set_option maxRecDepth 100000 in
theorem len64_w (w : World) (n : Int) (h0 : 0 ≤ n) (h1 : n ≤ 64) : Calls Tryz.prog 68 #[.int .u64 n] w fun e w' => e = .returned (.int .i64 (len8 n)) ∧ w' = w := by
  have d1 : decide (n ≥ 4294967296) = false := decide_eq_false (by omega)
  have d2 : decide (n ≥ 65536) = false := decide_eq_false (by omega)
  have d3 : decide (n ≥ 256) = false := decide_eq_false (by omega)
  have hb := len8_big ⟨n.toNat, by omega⟩
  rw [show ((⟨n.toNat, by omega⟩ : Fin 65).val : Int) = n by show (n.toNat : Int) = n; omega] at hb
  go_enter Tryz.func68, Tryz.ntmps68
  have hlt : n < (len8tab.size : Int) := by rw [len8tab_size]; omega
  have hsz : n.toNat < len8tab.size := by omega
  have he : ((len8tab[n.toNat]).toNat : Int) = len8 n := by
    unfold len8
    rw [getElem?_pos len8tab n.toNat hsz]; rfl
  go_wp2
  go_ret
  exact ⟨rfl, rfl⟩
theorem len64_walk (H : List SP) (n : Int) (h0 : 0 ≤ n) (h1 : n ≤ 64) : ∀ w, Sat w H → Calls Tryz.prog 68 #[.int .u64 n] w (Ret (ι := Unit) (fun _ => .int .i64 (len8 n)) fun _ => H) := fun w hs =>
  (len64_w w n h0 h1).mono fun e w' ⟨he, hw⟩ => ⟨(), he, hw ▸ hs⟩
set_option maxRecDepth 100000 in
theorem bitsLen_walk (H : List SP) (n : Int) (h0 : 0 ≤ n) (h1 : n ≤ 64) : ∀ w, Sat w H → Calls Tryz.prog 52 #[.int .u64 n] w (Ret (ι := Unit) (fun _ => .int .i64 (len8 n)) fun _ => H) := by
  refine enterG (fn := Tryz.f52) 8 [.int .u64 n] Tryz.func52 (by kernel_rfl) (by kernel_rfl) (by kernel_rfl) ?_
  refine seqR (by kernel_rfl) ?_
  refine regionR 1 (by kernel_rfl) (by kernel_rfl) ?_
  refine (run0 (z := 0) 1 [0, 2] [(0, .int .u64 n), (2, .int .i64 0)] (fun _ => by kernel_rfl) (endR ?_) : RT _ _ _ _ _ _ 1 _)
  refine seqR (by kernel_rfl) ?_
  refine condR (b := false) (by kernel_rfl) (fun _ => by kernel_rfl) (fun h => by cases h) (fun _ => ?_)
  refine skipR (by kernel_rfl) ?_
  refine seqR (by kernel_rfl) ?_
  refine regionR 3 (by kernel_rfl) (by kernel_rfl) ?_
  refine (run0 (z := 2) 1 [2, 6] [(2, .int .i64 0), (6, .int .u64 n)] (fun _ => by kernel_rfl) ?_ : RT _ _ _ _ _ _ 3 _)
  refine (stepR (z := 1) (callS 68 [.int .u64 n] (some 7) (fun _ => .int .i64 (len8 n)) (fun _ => (H)) (fun _ => by kernel_rfl) (len64_walk _ n h0 h1)) (fun _ => ?_) : RT _ _ _ _ _ _ 2 _)
  refine (run0 (z := 0) 1 [2] [(2, .int .i64 (len8 n))] (fun _ => by kernel_rfl) (endR ?_) : RT _ _ _ _ _ _ 1 _)
  refine retR (by kernel_rfl) ?_
  refine done0 (.int .i64 (len8 n)) (fun _ => by kernel_rfl) (fun w hs => ?_) .ret (.inr rfl)
  exact ⟨(), rfl, hs⟩
end Go.Proofs.YtjbjngikaiggdaaGreat
