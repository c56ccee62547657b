/-
  What the laws on a disk need: strings of bytes, calls of a disk with one or two files, in plain Lean.
-/
import Derived.Test.YtmdfgndjphhgnaaDi11
import Derived.Test.YtmdfgndjphhgnaaDiApp
namespace Go.Proofs.Ytmdfgndjphhgnaa
open Go.RowKit
open Go.Proofs.Ytmdfgndjphhgnaa.Pure (nameB)
set_option linter.unusedVariables false
set_option linter.unusedSimpArgs false
theorem strB_data (l : List Nat) : ∀ s : ByteArray, ((l.map fun (n : Nat) => (n : Int)).foldl (fun r n => r.push (UInt8.ofNat n.toNat)) s).data.toList = s.data.toList ++ l.map UInt8.ofNat := by
  induction l with
  | nil => intro s; simp
  | cons x l ih =>
    intro s
    rw [List.map_cons, List.foldl_cons, ih]
    simp [ByteArray.push]
theorem strB_list (l : List Nat) : (strB l).data.toList = l.map UInt8.ofNat := by rw [strB, strB_data]; simp
theorem strB_app (l m : List Nat) : strB l ++ strB m = strB (l ++ m) := by
  have h : (strB l ++ strB m).data.toList = (strB (l ++ m)).data.toList := by
    rw [ByteArray.data_append, Array.toList_append, strB_list, strB_list, strB_list, List.map_append]
  have := Array.toList_inj.1 h
  exact ByteArray.ext this
theorem strB_size (l : List Nat) : (strB l).size = l.length := by
  show (strB l).data.size = _
  rw [← Array.length_toList, strB_list, List.length_map]
theorem exec_addS {o : Oper} {a : Act} (x y : Operand) (ho : o.op = .binOp .add 9 x y 9) (S T : ByteArray) (hx : a.eval x = .string S) (hy : a.eval y = .string T) (hl : S.size + T.size ≤ 1000000000) (w : World) :
    (execOp a.eval o).run Try.prog w = .ok (.value (.string (S ++ T))) w := by
  have hm : ¬ (((S.size + T.size : Nat) : Int) > IntKind.i64.max) := by
    have i1 : IntKind.i64.max = 9223372036854775807 := by kernel_rfl
    rw [i1]; omega
  have e : Op.stringOp .add S T = pure (.string (S ++ T)) := by
    unfold Op.stringOp
    exact if_neg hm
  unfold execOp
  simp only [ho, hx, hy, Sem.run_bind]
  have h2 : (binOp .add 9 (.string S) (.string T)).run Try.prog w = .ok (.string (S ++ T)) w := by
    unfold binOp
    simp only [e, Sem.run_pure]
  simp [eqGuard, h2, Result.andThen]
theorem exec_eqlS {o : Oper} {a : Act} (x y : Operand) (ho : o.op = .binOp .eql 9 x y 9) (S : ByteArray) (hx : a.eval x = .string S) (hy : a.eval y = .string S) (w : World) : (execOp a.eval o).run Try.prog w = .ok (.value (.bool true)) w := by
  unfold execOp
  simp [ho, hx, hy, eqGuard, binOp, Op.stringOp]
theorem exec_neqS {o : Oper} {a : Act} (x y : Operand) (ho : o.op = .binOp .neq 9 x y 9) (S : ByteArray) (hx : a.eval x = .string S) (hy : a.eval y = .string S) (w : World) : (execOp a.eval o).run Try.prog w = .ok (.value (.bool false)) w := by
  unfold execOp
  simp [ho, hx, hy, eqGuard, binOp, Op.stringOp]
theorem take_rw {w : World} {l : List Nat} {A : Option Addr} {n c m : Nat} (hy : Rw 1 encB w (.slice A n c) l) (hm : m ≤ l.length) : m ≤ c ∧ Rw 1 encB w (.slice (if c = 0 then A else A.map (·.add 0)) m c) (l.take m) := by
  rcases hy with ⟨A', c', h, rfl, h2⟩ | ⟨g, o, c', h, h2, h3, h4⟩
  · injection h with h5 h6 h7
    have : m = 0 := by simpa using hm
    subst this
    refine ⟨Nat.zero_le _, .inl ⟨_, c, rfl, by simp, fun e => ?_⟩⟩
    split at e
    · subst h5; subst h7; exact h2 e
    · subst h5; subst h7
      cases A with
      | none => exact h2 rfl
      | some _ => cases e
  · injection h with h5 h6 h7
    subst h5 h7
    refine ⟨by omega, .inr ⟨g, o, c, ?_, ?_, h3, fun i hi => ?_⟩⟩
    · have : (l.take m).length = m := by rw [List.length_take]; omega
      rw [this]
      congr 1
      split
      · rfl
      · rw [Option.map_some, Addr.add_mid, Nat.add_zero]
    · rw [List.length_take]; omega
    · have hi2 : i < m := by rw [List.length_take] at hi; omega
      have h8 := h4 i (by omega)
      have e : (l.take m).getD i default = l.getD i default := by simp [List.getD_eq_getElem?_getD, List.getElem?_take, hi2]
      rw [e]; exact h8
def nF : ByteArray := ⟨#[102]⟩
def nG : ByteArray := ⟨#[103]⟩
theorem name_F : nameB nF = true := by decide +kernel
theorem name_G : nameB nG = true := by decide +kernel
theorem new_app {n : ByteArray} (hn : nameB n = true) (a : List Nat) (ha : a.length ≤ 1000000) : DS.new.app nameB n a = (fS n a 0 (-1) false, 0) := by
  have h1 : ¬ (1048576 < a.length) := by omega
  simp [DS.app, DS.new, DS.get, hn, h1, DS.putL, DS.useN, DS.used, DS.useOk, fS]
theorem fS_sync (n : ByteArray) (a : List Nat) (k : Nat) : (fS n a k (-1) false).sync n = (fS n a a.length (-1) false, 0) := by
  simp [DS.sync, DS.get, fS, DS.one, DS.putL, DS.used, DS.useOk]
theorem fS_app {n : ByteArray} (hn : nameB n = true) (a b : List Nat) (k : Nat) (hab : a.length + b.length ≤ 1000000) : (fS n a k (-1) false).app nameB n b = (fS n (a ++ b) k (-1) false, 0) := by
  have h1 : ¬ (1048576 < b.length) := by omega
  have h2 : ¬ (1048576 < a.length + b.length) := by omega
  simp [DS.app, DS.get, hn, h1, h2, DS.putL, DS.useN, DS.used, DS.useOk, fS]
theorem fS_crash (n : ByteArray) (a : List Nat) (k : Nat) (l : Int) (o : Bool) (keep : Int) : (fS n a k l o).crash keep = fS n (a.take (k + min (max keep 0).toNat (a.length - k))) (k + min (max keep 0).toNat (a.length - k)) (-1) false := by
  simp [DS.crash, DS.crash1, fS]
theorem fS_read (n : ByteArray) (a : List Nat) (k : Nat) (l : Int) : (fS n a k l false).read n = (a, 0) := by
  simp [DS.read, DS.get, fS]
end Go.Proofs.Ytmdfgndjphhgnaa
