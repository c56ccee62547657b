/-
  Integers of one byte in the laws on a disk.
-/
import Derived.Test.YtmdfgndjphhgnaaDiLaw0
import Derived.Test.YtmdfgndjphhgnaaDiRowsIn
namespace Go.Proofs.Ytmdfgndjphhgnaa
open Go.RowKit
open Go.Proofs.Ytmdfgndjphhgnaa.Pure (nameB)
set_option linter.unusedVariables false
set_option linter.unusedSimpArgs false
theorem u8_wf {n : Int} (h : (Lit.int .u8 n).wf = true) : ∃ u : Nat, n = (u : Int) ∧ u < 256 := by
  have i0 : IntKind.u8.min = 0 := by kernel_rfl
  have i1 : IntKind.u8.max = 255 := by kernel_rfl
  simp only [Lit.wf, Bool.and_eq_true, decide_eq_true_eq, i0, i1] at h
  exact ⟨n.toNat, by omega, by omega⟩
theorem exec_widen {o : Oper} {a : Act} (x : Operand) (ho : o.op = .convert 5 3 x) (u : Nat) (hx : a.eval x = .int .u8 (u : Int)) (hu : u < 256) (w : World) : (execOp a.eval o).run Try.prog w = .ok (.value (.int .i64 (u : Int))) w := by
  have hk : Try.prog.intKind 3 = .i64 := by kernel_rfl
  have hw : IntKind.i64.wrap (u : Int) = (u : Int) := by rw [IntKind.wrap_i64]; omega
  have h1 : (convert 5 3 (.int .u8 (u : Int))).run Try.prog w = .ok (.int .i64 (u : Int)) w := by
    rw [run_convert_int w 5 3 .u8 (u : Int) (by kernel_rfl) (by kernel_rfl), hk, hw]
  unfold execOp
  simp only [ho, hx, Sem.run_bind, h1, Result.andThen_ok, Sem.run_pure]
theorem exec_narrow {o : Oper} {a : Act} (x : Operand) (ho : o.op = .convert 3 5 x) (u : Nat) (hx : a.eval x = .int .i64 (u : Int)) (hu : u < 256) (w : World) : (execOp a.eval o).run Try.prog w = .ok (.value (.int .u8 (u : Int))) w := by
  have hk : Try.prog.intKind 5 = .u8 := by kernel_rfl
  have hw : IntKind.u8.wrap (u : Int) = (u : Int) := by rw [IntKind.wrap_u8']; omega
  have h1 : (convert 3 5 (.int .i64 (u : Int))).run Try.prog w = .ok (.int .u8 (u : Int)) w := by
    rw [run_convert_int w 3 5 .i64 (u : Int) (by kernel_rfl) (by kernel_rfl), hk, hw]
  unfold execOp
  simp only [ho, hx, Sem.run_bind, h1, Result.andThen_ok, Sem.run_pure]
theorem exec_remN {o : Oper} {a : Act} (ty : TypeId) (k : IntKind) (x y : Operand) (ho : o.op = .binOp .rem ty x y ty) (u v : Nat) (hx : a.eval x = .int k (u : Int)) (hy : a.eval y = .int k (v : Int)) (hv : 0 < v) (w : World) : (execOp a.eval o).run Try.prog w = .ok (.value (.int k ((u % v : Nat) : Int))) w := by
  have hv2 : ¬ ((v : Int) = 0) := by omega
  have hv3 : ¬ (v = 0) := by omega
  unfold execOp
  have hd : (binOp .rem ty (.int k (u : Int)) (.int k (v : Int))).run Try.prog w = .ok (.int k ((u % v : Nat) : Int)) w := by
    rw [binOp_rem]
    unfold Op.intDiv
    rw [if_neg hv2]
    simp
    exact Int.tmod_eq_emod_of_nonneg (by omega)
  simp only [ho, hx, hy, Sem.run_bind]
  simp [eqGuard, hd, Result.andThen]
theorem wrap8 (n : Nat) (h : n < 256) : IntKind.u8.wrap (n : Int) = (n : Int) := by rw [IntKind.wrap_u8']; omega
theorem wrap64 (n : Nat) (h : n < 1000000) : IntKind.i64.wrap (n : Int) = (n : Int) := by rw [IntKind.wrap_i64]; omega
theorem exec_eq8 {o : Oper} {a : Act} (x y : Operand) (ho : o.op = .binOp .eql 5 x y 5) (u v : Int) (hx : a.eval x = .int .u8 u) (hy : a.eval y = .int .u8 v) (w : World) : (execOp a.eval o).run Try.prog w = .ok (.value (.bool (u == v))) w := by
  unfold execOp
  simp [ho, hx, hy, eqGuard, binOp_eql]
end Go.Proofs.Ytmdfgndjphhgnaa
