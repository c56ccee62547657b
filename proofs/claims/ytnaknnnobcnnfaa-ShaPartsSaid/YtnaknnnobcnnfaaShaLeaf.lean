/-
  The small functions of SHA-256: a word turned, the constants, the first state: what each call answers.
-/
import Derived.Test.YtnaknnnobcnnfaaProg
import Derived.WalkKit
import Derived.WalkLawsBesides
import Derived.Outline
import Derived.KernelRfl
import Derived.Deep.Draws
import Derived.Deep.QuietTactic
import Derived.BigQuiet
import Derived.Deep.DeepCutAuto
import Derived.StillTailTactics
import Derived.Laws.BitsAllLaws
namespace Go.Proofs.Ytnaknnnobcnnfaa.Sha
open Go.RowKit
set_option linter.unusedVariables false
set_option linter.unusedSimpArgs false

/-- A word turned to the right. -/
def rotr (n x : Nat) : Nat := x * 2 ^ (32 - n) % 4294967296 ||| x / 2 ^ n
theorem rotr_lt (n x : Nat) (hx : x < 4294967296) : rotr n x < 4294967296 := by
  unfold rotr
  exact Nat.or_lt_two_pow (n := 32) (Nat.mod_lt _ (by decide)) (Nat.lt_of_le_of_lt (Nat.div_le_self _ _) hx)

theorem rot2 (x : Nat) (hx : x < 4294967296) (w : World) : Calls Try.prog 23 #[.int .u32 (x : Int), .int .i64 (-2)] w fun e w' => e = .returned (.int .u32 (rotr 2 x : Int)) ∧ w' = w := by
  have hb : bits BinOp.and IntKind.u64 (IntKind.u64.wrap (-2)) 31 = 30 := by decide +kernel
  go_enter Try.func23, Try.ntmps23
  go_wp2
  go_ret
  refine ⟨congrArg (fun z => Ending.returned (Value.int IntKind.u32 z)) ?_, rfl⟩
  have h1 : ((x : Int) * 1073741824 % 4294967296) = ((x * 2 ^ 30 % 4294967296 : Nat) : Int) := by omega
  have h2 : ((x : Int) / 4) = ((x / 2 ^ 2 : Nat) : Int) := by omega
  rw [h1, h2, u32_or_nat _ _ (Nat.mod_lt _ (by decide)) (by omega)]
  rfl
theorem turn2 (x : Nat) (hx : x < 4294967296) (w : World) : Calls Try.prog 20 #[.int .u32 (x : Int), .int .u64 2] w fun e w' => e = .returned (.int .u32 (rotr 2 x : Int)) ∧ w' = w := by
  go_enter Try.func20, Try.ntmps20
  go_wp2
  go_ret
  refine ⟨congrArg (fun z => Ending.returned (Value.int IntKind.u32 z)) ?_, rfl⟩
  have h1 : ((x : Int) * 1073741824 % 4294967296) = ((x * 2 ^ 30 % 4294967296 : Nat) : Int) := by omega
  have h2 : ((x : Int) / 4) = ((x / 2 ^ 2 : Nat) : Int) := by omega
  rw [h1, h2, u32_or_nat _ _ (by omega) (Nat.mod_lt _ (by decide)), Nat.or_comm]
  rfl

theorem rot6 (x : Nat) (hx : x < 4294967296) (w : World) : Calls Try.prog 23 #[.int .u32 (x : Int), .int .i64 (-6)] w fun e w' => e = .returned (.int .u32 (rotr 6 x : Int)) ∧ w' = w := by
  have hb : bits BinOp.and IntKind.u64 (IntKind.u64.wrap (-6)) 31 = 26 := by decide +kernel
  go_enter Try.func23, Try.ntmps23
  go_wp2
  go_ret
  refine ⟨congrArg (fun z => Ending.returned (Value.int IntKind.u32 z)) ?_, rfl⟩
  have h1 : ((x : Int) * 67108864 % 4294967296) = ((x * 2 ^ 26 % 4294967296 : Nat) : Int) := by omega
  have h2 : ((x : Int) / 64) = ((x / 2 ^ 6 : Nat) : Int) := by omega
  rw [h1, h2, u32_or_nat _ _ (Nat.mod_lt _ (by decide)) (by omega)]
  rfl
theorem turn6 (x : Nat) (hx : x < 4294967296) (w : World) : Calls Try.prog 20 #[.int .u32 (x : Int), .int .u64 6] w fun e w' => e = .returned (.int .u32 (rotr 6 x : Int)) ∧ w' = w := by
  go_enter Try.func20, Try.ntmps20
  go_wp2
  go_ret
  refine ⟨congrArg (fun z => Ending.returned (Value.int IntKind.u32 z)) ?_, rfl⟩
  have h1 : ((x : Int) * 67108864 % 4294967296) = ((x * 2 ^ 26 % 4294967296 : Nat) : Int) := by omega
  have h2 : ((x : Int) / 64) = ((x / 2 ^ 6 : Nat) : Int) := by omega
  rw [h1, h2, u32_or_nat _ _ (by omega) (Nat.mod_lt _ (by decide)), Nat.or_comm]
  rfl

theorem rot7 (x : Nat) (hx : x < 4294967296) (w : World) : Calls Try.prog 23 #[.int .u32 (x : Int), .int .i64 (-7)] w fun e w' => e = .returned (.int .u32 (rotr 7 x : Int)) ∧ w' = w := by
  have hb : bits BinOp.and IntKind.u64 (IntKind.u64.wrap (-7)) 31 = 25 := by decide +kernel
  go_enter Try.func23, Try.ntmps23
  go_wp2
  go_ret
  refine ⟨congrArg (fun z => Ending.returned (Value.int IntKind.u32 z)) ?_, rfl⟩
  have h1 : ((x : Int) * 33554432 % 4294967296) = ((x * 2 ^ 25 % 4294967296 : Nat) : Int) := by omega
  have h2 : ((x : Int) / 128) = ((x / 2 ^ 7 : Nat) : Int) := by omega
  rw [h1, h2, u32_or_nat _ _ (Nat.mod_lt _ (by decide)) (by omega)]
  rfl
theorem turn7 (x : Nat) (hx : x < 4294967296) (w : World) : Calls Try.prog 20 #[.int .u32 (x : Int), .int .u64 7] w fun e w' => e = .returned (.int .u32 (rotr 7 x : Int)) ∧ w' = w := by
  go_enter Try.func20, Try.ntmps20
  go_wp2
  go_ret
  refine ⟨congrArg (fun z => Ending.returned (Value.int IntKind.u32 z)) ?_, rfl⟩
  have h1 : ((x : Int) * 33554432 % 4294967296) = ((x * 2 ^ 25 % 4294967296 : Nat) : Int) := by omega
  have h2 : ((x : Int) / 128) = ((x / 2 ^ 7 : Nat) : Int) := by omega
  rw [h1, h2, u32_or_nat _ _ (by omega) (Nat.mod_lt _ (by decide)), Nat.or_comm]
  rfl

theorem rot11 (x : Nat) (hx : x < 4294967296) (w : World) : Calls Try.prog 23 #[.int .u32 (x : Int), .int .i64 (-11)] w fun e w' => e = .returned (.int .u32 (rotr 11 x : Int)) ∧ w' = w := by
  have hb : bits BinOp.and IntKind.u64 (IntKind.u64.wrap (-11)) 31 = 21 := by decide +kernel
  go_enter Try.func23, Try.ntmps23
  go_wp2
  go_ret
  refine ⟨congrArg (fun z => Ending.returned (Value.int IntKind.u32 z)) ?_, rfl⟩
  have h1 : ((x : Int) * 2097152 % 4294967296) = ((x * 2 ^ 21 % 4294967296 : Nat) : Int) := by omega
  have h2 : ((x : Int) / 2048) = ((x / 2 ^ 11 : Nat) : Int) := by omega
  rw [h1, h2, u32_or_nat _ _ (Nat.mod_lt _ (by decide)) (by omega)]
  rfl
theorem turn11 (x : Nat) (hx : x < 4294967296) (w : World) : Calls Try.prog 20 #[.int .u32 (x : Int), .int .u64 11] w fun e w' => e = .returned (.int .u32 (rotr 11 x : Int)) ∧ w' = w := by
  go_enter Try.func20, Try.ntmps20
  go_wp2
  go_ret
  refine ⟨congrArg (fun z => Ending.returned (Value.int IntKind.u32 z)) ?_, rfl⟩
  have h1 : ((x : Int) * 2097152 % 4294967296) = ((x * 2 ^ 21 % 4294967296 : Nat) : Int) := by omega
  have h2 : ((x : Int) / 2048) = ((x / 2 ^ 11 : Nat) : Int) := by omega
  rw [h1, h2, u32_or_nat _ _ (by omega) (Nat.mod_lt _ (by decide)), Nat.or_comm]
  rfl

theorem rot13 (x : Nat) (hx : x < 4294967296) (w : World) : Calls Try.prog 23 #[.int .u32 (x : Int), .int .i64 (-13)] w fun e w' => e = .returned (.int .u32 (rotr 13 x : Int)) ∧ w' = w := by
  have hb : bits BinOp.and IntKind.u64 (IntKind.u64.wrap (-13)) 31 = 19 := by decide +kernel
  go_enter Try.func23, Try.ntmps23
  go_wp2
  go_ret
  refine ⟨congrArg (fun z => Ending.returned (Value.int IntKind.u32 z)) ?_, rfl⟩
  have h1 : ((x : Int) * 524288 % 4294967296) = ((x * 2 ^ 19 % 4294967296 : Nat) : Int) := by omega
  have h2 : ((x : Int) / 8192) = ((x / 2 ^ 13 : Nat) : Int) := by omega
  rw [h1, h2, u32_or_nat _ _ (Nat.mod_lt _ (by decide)) (by omega)]
  rfl
theorem turn13 (x : Nat) (hx : x < 4294967296) (w : World) : Calls Try.prog 20 #[.int .u32 (x : Int), .int .u64 13] w fun e w' => e = .returned (.int .u32 (rotr 13 x : Int)) ∧ w' = w := by
  go_enter Try.func20, Try.ntmps20
  go_wp2
  go_ret
  refine ⟨congrArg (fun z => Ending.returned (Value.int IntKind.u32 z)) ?_, rfl⟩
  have h1 : ((x : Int) * 524288 % 4294967296) = ((x * 2 ^ 19 % 4294967296 : Nat) : Int) := by omega
  have h2 : ((x : Int) / 8192) = ((x / 2 ^ 13 : Nat) : Int) := by omega
  rw [h1, h2, u32_or_nat _ _ (by omega) (Nat.mod_lt _ (by decide)), Nat.or_comm]
  rfl

theorem rot17 (x : Nat) (hx : x < 4294967296) (w : World) : Calls Try.prog 23 #[.int .u32 (x : Int), .int .i64 (-17)] w fun e w' => e = .returned (.int .u32 (rotr 17 x : Int)) ∧ w' = w := by
  have hb : bits BinOp.and IntKind.u64 (IntKind.u64.wrap (-17)) 31 = 15 := by decide +kernel
  go_enter Try.func23, Try.ntmps23
  go_wp2
  go_ret
  refine ⟨congrArg (fun z => Ending.returned (Value.int IntKind.u32 z)) ?_, rfl⟩
  have h1 : ((x : Int) * 32768 % 4294967296) = ((x * 2 ^ 15 % 4294967296 : Nat) : Int) := by omega
  have h2 : ((x : Int) / 131072) = ((x / 2 ^ 17 : Nat) : Int) := by omega
  rw [h1, h2, u32_or_nat _ _ (Nat.mod_lt _ (by decide)) (by omega)]
  rfl
theorem turn17 (x : Nat) (hx : x < 4294967296) (w : World) : Calls Try.prog 20 #[.int .u32 (x : Int), .int .u64 17] w fun e w' => e = .returned (.int .u32 (rotr 17 x : Int)) ∧ w' = w := by
  go_enter Try.func20, Try.ntmps20
  go_wp2
  go_ret
  refine ⟨congrArg (fun z => Ending.returned (Value.int IntKind.u32 z)) ?_, rfl⟩
  have h1 : ((x : Int) * 32768 % 4294967296) = ((x * 2 ^ 15 % 4294967296 : Nat) : Int) := by omega
  have h2 : ((x : Int) / 131072) = ((x / 2 ^ 17 : Nat) : Int) := by omega
  rw [h1, h2, u32_or_nat _ _ (by omega) (Nat.mod_lt _ (by decide)), Nat.or_comm]
  rfl

theorem rot18 (x : Nat) (hx : x < 4294967296) (w : World) : Calls Try.prog 23 #[.int .u32 (x : Int), .int .i64 (-18)] w fun e w' => e = .returned (.int .u32 (rotr 18 x : Int)) ∧ w' = w := by
  have hb : bits BinOp.and IntKind.u64 (IntKind.u64.wrap (-18)) 31 = 14 := by decide +kernel
  go_enter Try.func23, Try.ntmps23
  go_wp2
  go_ret
  refine ⟨congrArg (fun z => Ending.returned (Value.int IntKind.u32 z)) ?_, rfl⟩
  have h1 : ((x : Int) * 16384 % 4294967296) = ((x * 2 ^ 14 % 4294967296 : Nat) : Int) := by omega
  have h2 : ((x : Int) / 262144) = ((x / 2 ^ 18 : Nat) : Int) := by omega
  rw [h1, h2, u32_or_nat _ _ (Nat.mod_lt _ (by decide)) (by omega)]
  rfl
theorem turn18 (x : Nat) (hx : x < 4294967296) (w : World) : Calls Try.prog 20 #[.int .u32 (x : Int), .int .u64 18] w fun e w' => e = .returned (.int .u32 (rotr 18 x : Int)) ∧ w' = w := by
  go_enter Try.func20, Try.ntmps20
  go_wp2
  go_ret
  refine ⟨congrArg (fun z => Ending.returned (Value.int IntKind.u32 z)) ?_, rfl⟩
  have h1 : ((x : Int) * 16384 % 4294967296) = ((x * 2 ^ 14 % 4294967296 : Nat) : Int) := by omega
  have h2 : ((x : Int) / 262144) = ((x / 2 ^ 18 : Nat) : Int) := by omega
  rw [h1, h2, u32_or_nat _ _ (by omega) (Nat.mod_lt _ (by decide)), Nat.or_comm]
  rfl

theorem rot19 (x : Nat) (hx : x < 4294967296) (w : World) : Calls Try.prog 23 #[.int .u32 (x : Int), .int .i64 (-19)] w fun e w' => e = .returned (.int .u32 (rotr 19 x : Int)) ∧ w' = w := by
  have hb : bits BinOp.and IntKind.u64 (IntKind.u64.wrap (-19)) 31 = 13 := by decide +kernel
  go_enter Try.func23, Try.ntmps23
  go_wp2
  go_ret
  refine ⟨congrArg (fun z => Ending.returned (Value.int IntKind.u32 z)) ?_, rfl⟩
  have h1 : ((x : Int) * 8192 % 4294967296) = ((x * 2 ^ 13 % 4294967296 : Nat) : Int) := by omega
  have h2 : ((x : Int) / 524288) = ((x / 2 ^ 19 : Nat) : Int) := by omega
  rw [h1, h2, u32_or_nat _ _ (Nat.mod_lt _ (by decide)) (by omega)]
  rfl
theorem turn19 (x : Nat) (hx : x < 4294967296) (w : World) : Calls Try.prog 20 #[.int .u32 (x : Int), .int .u64 19] w fun e w' => e = .returned (.int .u32 (rotr 19 x : Int)) ∧ w' = w := by
  go_enter Try.func20, Try.ntmps20
  go_wp2
  go_ret
  refine ⟨congrArg (fun z => Ending.returned (Value.int IntKind.u32 z)) ?_, rfl⟩
  have h1 : ((x : Int) * 8192 % 4294967296) = ((x * 2 ^ 13 % 4294967296 : Nat) : Int) := by omega
  have h2 : ((x : Int) / 524288) = ((x / 2 ^ 19 : Nat) : Int) := by omega
  rw [h1, h2, u32_or_nat _ _ (by omega) (Nat.mod_lt _ (by decide)), Nat.or_comm]
  rfl

theorem rot22 (x : Nat) (hx : x < 4294967296) (w : World) : Calls Try.prog 23 #[.int .u32 (x : Int), .int .i64 (-22)] w fun e w' => e = .returned (.int .u32 (rotr 22 x : Int)) ∧ w' = w := by
  have hb : bits BinOp.and IntKind.u64 (IntKind.u64.wrap (-22)) 31 = 10 := by decide +kernel
  go_enter Try.func23, Try.ntmps23
  go_wp2
  go_ret
  refine ⟨congrArg (fun z => Ending.returned (Value.int IntKind.u32 z)) ?_, rfl⟩
  have h1 : ((x : Int) * 1024 % 4294967296) = ((x * 2 ^ 10 % 4294967296 : Nat) : Int) := by omega
  have h2 : ((x : Int) / 4194304) = ((x / 2 ^ 22 : Nat) : Int) := by omega
  rw [h1, h2, u32_or_nat _ _ (Nat.mod_lt _ (by decide)) (by omega)]
  rfl
theorem turn22 (x : Nat) (hx : x < 4294967296) (w : World) : Calls Try.prog 20 #[.int .u32 (x : Int), .int .u64 22] w fun e w' => e = .returned (.int .u32 (rotr 22 x : Int)) ∧ w' = w := by
  go_enter Try.func20, Try.ntmps20
  go_wp2
  go_ret
  refine ⟨congrArg (fun z => Ending.returned (Value.int IntKind.u32 z)) ?_, rfl⟩
  have h1 : ((x : Int) * 1024 % 4294967296) = ((x * 2 ^ 10 % 4294967296 : Nat) : Int) := by omega
  have h2 : ((x : Int) / 4194304) = ((x / 2 ^ 22 : Nat) : Int) := by omega
  rw [h1, h2, u32_or_nat _ _ (by omega) (Nat.mod_lt _ (by decide)), Nat.or_comm]
  rfl

theorem rot25 (x : Nat) (hx : x < 4294967296) (w : World) : Calls Try.prog 23 #[.int .u32 (x : Int), .int .i64 (-25)] w fun e w' => e = .returned (.int .u32 (rotr 25 x : Int)) ∧ w' = w := by
  have hb : bits BinOp.and IntKind.u64 (IntKind.u64.wrap (-25)) 31 = 7 := by decide +kernel
  go_enter Try.func23, Try.ntmps23
  go_wp2
  go_ret
  refine ⟨congrArg (fun z => Ending.returned (Value.int IntKind.u32 z)) ?_, rfl⟩
  have h1 : ((x : Int) * 128 % 4294967296) = ((x * 2 ^ 7 % 4294967296 : Nat) : Int) := by omega
  have h2 : ((x : Int) / 33554432) = ((x / 2 ^ 25 : Nat) : Int) := by omega
  rw [h1, h2, u32_or_nat _ _ (Nat.mod_lt _ (by decide)) (by omega)]
  rfl
theorem turn25 (x : Nat) (hx : x < 4294967296) (w : World) : Calls Try.prog 20 #[.int .u32 (x : Int), .int .u64 25] w fun e w' => e = .returned (.int .u32 (rotr 25 x : Int)) ∧ w' = w := by
  go_enter Try.func20, Try.ntmps20
  go_wp2
  go_ret
  refine ⟨congrArg (fun z => Ending.returned (Value.int IntKind.u32 z)) ?_, rfl⟩
  have h1 : ((x : Int) * 128 % 4294967296) = ((x * 2 ^ 7 % 4294967296 : Nat) : Int) := by omega
  have h2 : ((x : Int) / 33554432) = ((x / 2 ^ 25 : Nat) : Int) := by omega
  rw [h1, h2, u32_or_nat _ _ (by omega) (Nat.mod_lt _ (by decide)), Nat.or_comm]
  rfl

end Go.Proofs.Ytnaknnnobcnnfaa.Sha
