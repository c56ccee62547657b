/-
  The program's All and the reference's answer alike, of any bytes.
-/
import Derived.Test.YtbhcdbmhgocojaaPAx15
import Derived.Test.YtbhcdbmhgocojaaLexSpec
namespace Go.Proofs.Ytbhcdbmhgocojaa.Pure
open Go.RowKit Go.Proofs.Ytbhcdbmhgocojaa.PA Go.Proofs.YtbhcdbmhgocojaaW.PrintWords Go.Proofs.YtbhcdbmhgocojaaW.PrintLast
set_option linter.unusedVariables false
set_option linter.unusedSimpArgs false

theorem same_refl (l : List S32) (hl : l.length ≤ 140737488351232) : Ev (fun k => mandatelaw05_same.f k l l) true := by
  have loop : ∀ d i, i + d = l.length → Ev (fun k => mandatelaw05_same.l0 k l l (i : Int)) true := by
    intro d
    induction d with
    | zero => intro i h; exact Ev.step (f := fun _ => some true) (fun k => by simp only [mandatelaw05_same.l0]; rw [if_neg (by omega)]) (Ev.const _)
    | succ d ih =>
      intro i h
      refine Ev.step (f := fun k => mandatelaw05_same.l0 k l l ((i + 1 : Nat) : Int)) (fun k => ?_) (ih (i + 1) (by omega))
      simp only [mandatelaw05_same.l0]
      rw [if_pos (by omega), if_pos (by omega), if_pos (by omega), up1 i (by omega), if_neg (by simp)]
  exact Ev.congr (fun k => by simp only [mandatelaw05_same.f]; rw [if_pos trivial]; rfl) (loop l.length 0 (by omega))
theorem allF_len (s : ByteArray) : ∀ d a out, a ≤ s.size → out.length ≤ a → (allF s d out a).1.length ≤ s.size := by
  intro d
  induction d with
  | zero => intro a out h ho; rw [allF]; exact Nat.le_trans ho h
  | succ d ih =>
    intro a out h ho
    rw [allF]
    split
    · exact Nat.le_trans ho h
    · rename_i hne
      rcases oneIn_ok s a (by omega) with e | e | ⟨kd, t, e, h2, h3⟩
      · rw [e, if_pos rfl]; exact ih _ _ (by omega) (by omega)
      · rw [e, if_neg (by decide), if_neg (by decide)]; simp
      · rw [e, if_neg (by dsimp only; decide), if_pos rfl]; exact ih _ _ h3 (by rw [List.length_append, List.length_singleton, Int.toNat_natCast]; omega)
theorem allS_len (s : ByteArray) : (allS s).1.length ≤ 4096 := by
  unfold allS
  split
  · simp
  · exact Nat.le_trans (allF_len s _ 0 [] (by omega) (by simp)) (by omega)
theorem LexAlls : mandatelaw05_LexAlls.Pure := by
  intro s hs
  refine Ev.rounds (g := fun k => mandatelaw05_LexAlls.f k s) ?_
  refine Ev.congr (fun k => by simp only [mandatelaw05_LexAlls.f]; rfl) (Ev.bind (all_ev s) (Ev.bind (rall_ev s) (Ev.bind fixed_ev ?_)))
  refine Ev.congr (f := fun k => (mandatelaw05_same.f k (allS s).1 (allS s).1).bind fun t => some t) (fun k => by simp) ?_
  exact Ev.bind (same_refl _ (by have := allS_len s; omega)) (Ev.const _)
end Go.Proofs.Ytbhcdbmhgocojaa.Pure
