/-
  The program's tokens stand one behind the other with blanks between, each as its own place tells.
-/
import Derived.Test.YtbhcdbmhgocojaaPAx17
import Derived.Test.YtbhcdbmhgocojaaLexSpec
namespace Go.Proofs.Ytbhcdbmhgocojaa.Pure
open Go.RowKit Go.Proofs.Ytbhcdbmhgocojaa.PA Go.Proofs.YtbhcdbmhgocojaaW.PrintWords Go.Proofs.YtbhcdbmhgocojaaW.PrintLast
set_option linter.unusedVariables false
set_option linter.unusedSimpArgs false

theorem rd_at (pre l : List S32) (x : S32) : rd_T32 (pre ++ x :: l) (pre.length : Int) = x := by
  unfold rd_T32; simp
theorem whole_blank (s : ByteArray) (l : List S32) (i : Int) (hs : s.size ≤ 4096) (b : Nat) (hb : b ≤ s.size) (hk : Ev (fun k => mandatelaw05_LexWhole.l1 k s l (b : Int) i (b : Int)) true) :
    ∀ n a, b - a = n → a ≤ b → Blank s a b → Ev (fun k => mandatelaw05_LexWhole.l1 k s l (a : Int) i (b : Int)) true := by
  intro n
  induction n with
  | zero => intro a h1 h2 _; have : a = b := by omega
            rw [this]; exact hk
  | succ n ih =>
    intro a h1 h2 hB
    have h32 := hB a (Nat.le_refl _) (by omega)
    refine Ev.step (f := fun k => mandatelaw05_LexWhole.l1 k s l ((a + 1 : Nat) : Int) i (b : Int)) (fun k => ?_) (ih (a + 1) (by omega) (by omega) (fun j h3 h4 => hB j (by omega) h4))
    simp only [mandatelaw05_LexWhole.l1]
    rw [if_pos (by omega), if_pos (by omega), if_pos (by omega), up1 a (by omega)]
    by_cases h : bt s (a : Int) = 32
    · rw [if_pos h]
    · rw [if_neg h, if_pos (by omega)]
theorem whole_loop (s : ByteArray) (hs : s.size ≤ 4096) : ∀ (l p : List S32) (a : Nat), p.length ≤ a → a ≤ s.size → TokL s a l → Ev (fun k => mandatelaw05_LexWhole.l0 k s (p ++ l) (a : Int) (p.length : Int)) true := by
  intro l
  induction l with
  | nil =>
    intro p a hp ha hT
    refine Ev.step (f := fun k => mandatelaw05_LexWhole.j1 k s (p ++ []) (a : Int) (p.length : Int) (s.size : Int)) (fun k => by simp only [mandatelaw05_LexWhole.l0]; rw [if_pos (by simp), if_neg (by simp)]) ?_
    refine Ev.step (f := fun k => mandatelaw05_LexWhole.l1 k s (p ++ []) (a : Int) (p.length : Int) (s.size : Int)) (fun k => by simp only [mandatelaw05_LexWhole.j1]; rw [if_neg (by omega)]) ?_
    refine whole_blank s _ _ hs s.size (Nat.le_refl _) ?_ _ a rfl ha hT
    refine Ev.step (f := fun k => mandatelaw05_LexWhole.l0 k s (p ++ []) (s.size : Int) ((p.length + 1 : Nat) : Int)) (fun k => by simp only [mandatelaw05_LexWhole.l1]; rw [if_neg (by omega), if_neg (by simp), up1 p.length (by omega)]) ?_
    exact Ev.step (f := fun _ => some true) (fun k => by simp only [mandatelaw05_LexWhole.l0]; rw [if_neg (by simp; omega)]) (Ev.const _)
  | cons x l ih =>
    intro p a hp ha hT
    obtain ⟨b, t, hx, hab, hB, hbs, he, hbt, hts, hT'⟩ := hT
    have hr : rd_T32 (p ++ x :: l) (p.length : Int) = x := rd_at p l x
    have hlen : ((p ++ x :: l).length : Int) = (p.length : Int) + (l.length : Int) + 1 := by rw [List.length_append, List.length_cons]; omega
    have f1 : x.f1 = (b : Int) := by rw [hx]
    have f2 : x.f2 = (t : Int) := by rw [hx]
    refine Ev.step (f := fun k => mandatelaw05_LexWhole.j1 k s (p ++ x :: l) (a : Int) (p.length : Int) (b : Int)) (fun k => by simp only [mandatelaw05_LexWhole.l0]; rw [hlen, if_pos (by omega), if_pos (by omega), if_pos (by omega), hr, f1]) ?_
    refine Ev.step (f := fun k => mandatelaw05_LexWhole.l1 k s (p ++ x :: l) (a : Int) (p.length : Int) (b : Int)) (fun k => by simp only [mandatelaw05_LexWhole.j1]; rw [if_neg (by omega)]) ?_
    refine whole_blank s _ _ hs b (by omega) ?_ _ a rfl hab hB
    have one := one_ev s (b : Int) (by omega)
    rw [oneS_in s b hbs, he] at one
    refine Ev.step (fun k => by simp only [mandatelaw05_LexWhole.l1]; rw [if_neg (by omega), hlen, if_pos (by omega)]) (Ev.bind one ?_)
    have := ih (p ++ [x]) t (by rw [List.length_append, List.length_singleton]; omega) hts hT'
    rw [List.append_assoc, List.singleton_append, List.length_append, List.length_singleton] at this
    refine Ev.congr (fun k => ?_) this
    rw [if_pos rfl, if_pos (by omega), hr, f1, f2]
    dsimp only
    rw [if_neg (by simp), if_neg (by omega), if_neg (by omega), up1 p.length (by omega)]
theorem LexWhole : mandatelaw05_LexWhole.Pure := by
  intro s hs
  refine Ev.rounds (g := fun k => mandatelaw05_LexWhole.f k s) ?_
  refine Ev.congr (fun k => by simp only [mandatelaw05_LexWhole.f]; rfl) (Ev.bind fixed_ev ?_)
  refine Ev.congr (f := fun k => (lex_All.f k s).bind fun b => if b.2.2 = 0 then mandatelaw05_LexWhole.l0 k s b.1 0 0 else some ((b.1.length : Int) == 0)) (fun k => by rw [if_pos rfl]) ?_
  refine Ev.bind (all_ev s) ?_
  by_cases h : s.size ≤ 4096
  · rw [allS_T s h]
    rcases allT_L s _ 0 rfl (by omega) with ⟨h1, h2⟩ | ⟨h1, h2⟩
    · refine Ev.congr (fun k => by rw [if_pos (by rw [h1])]; rfl) (whole_loop s h _ [] 0 (by simp) (by omega) h2)
    · exact ⟨0, fun k _ => by dsimp only; rw [if_neg (by rw [h2]; decide), h1]; rfl⟩
  · have : allS s = ([], 0, 2) := by unfold allS; rw [if_pos (by omega)]
    rw [this]
    exact ⟨0, fun k _ => by dsimp only; rw [if_neg (by decide)]; rfl⟩
end Go.Proofs.Ytbhcdbmhgocojaa.Pure
