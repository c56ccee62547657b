/-
  The tokens of two texts with a blank between are those of the one, and those of the other moved.
-/
import Derived.Test.YtbhcdbmhgocojaaPAx18
import Derived.Test.YtbhcdbmhgocojaaPAx8
import Derived.Test.YtbhcdbmhgocojaaLexSpecJ
namespace Go.Proofs.Ytbhcdbmhgocojaa.Pure
open Go.RowKit Go.Proofs.Ytbhcdbmhgocojaa.PA Go.Proofs.YtbhcdbmhgocojaaW.PrintWords Go.Proofs.YtbhcdbmhgocojaaW.PrintLast
set_option linter.unusedVariables false
set_option linter.unusedSimpArgs false

def Fits (n : Nat) (x : S32) : Prop := ∃ b t : Nat, x.f1 = b ∧ x.f2 = t ∧ b ≤ t ∧ t ≤ n
theorem tokl_fits (s : ByteArray) : ∀ (l : List S32) (a : Nat), TokL s a l → ∀ x ∈ l, Fits s.size x := by
  intro l
  induction l with
  | nil => intro a _ x hx; cases hx
  | cons y l ih =>
    intro a h x hx
    obtain ⟨b, t, e, hab, hB, hbs, ho, hbt, hts, h'⟩ := h
    rcases List.mem_cons.mp hx with h1 | h1
    · rw [h1, e]; exact ⟨b, t, rfl, rfl, by omega, hts⟩
    · exact ih t h' x h1
theorem tokl_len (s : ByteArray) : ∀ (l : List S32) (a : Nat), a ≤ s.size → TokL s a l → a + l.length ≤ s.size := by
  intro l
  induction l with
  | nil => intro a ha _; simpa using ha
  | cons y l ih =>
    intro a ha h
    obtain ⟨b, t, e, hab, hB, hbs, ho, hbt, hts, h'⟩ := h
    have := ih t hts h'
    rw [List.length_cons]; omega
theorem wJ (x : Int) (h1 : -9223372036854775808 ≤ x) (h2 : x ≤ 9223372036854775807) : wrap64 x = x := by unfold wrap64; omega
theorem rd_at (a b : List S32) (x : S32) (i : Int) (h : i = a.length) : rd_T32 (a ++ x :: b) i = x := by
  rw [h]; unfold rd_T32; simp
theorem joins2 (X : ByteArray) (hX : X.size ≤ 4096) (lX lY : List S32) (hlX : lX.length ≤ 4096) (hlY : lY.length ≤ 4096) (hf : ∀ y ∈ lY, Fits 4096 y) : ∀ r p, lY = p ++ r →
    Ev (fun k => mandatelaw05_LexJoins.l0 k X lX lY (lX ++ lY.map (sh (X.size + 1))) ((lX.length + p.length : Nat) : Int)) true := by
  intro r
  induction r with
  | nil =>
    intro p hp
    refine Ev.step (f := fun _ => some true) (fun k => ?_) (Ev.const _)
    simp only [mandatelaw05_LexJoins.l0]
    rw [if_neg (by rw [hp]; simp)]
  | cons y r ih =>
    intro p hp
    have := ih (p ++ [y]) (by rw [hp]; simp)
    have hlen : lY.length = p.length + r.length + 1 := by rw [hp]; simp; omega
    have hr1 : rd_T32 lY ((p.length : Nat) : Int) = y := by rw [hp]; exact rd_at _ _ _ _ rfl
    have hr2 : rd_T32 (lX ++ lY.map (sh (X.size + 1))) ((lX.length + p.length : Nat) : Int) = sh (X.size + 1) y := by
      rw [hp, List.map_append, List.map_cons, ← List.append_assoc]; exact rd_at _ _ _ _ (by simp)
    have hl2 : (lX ++ lY.map (sh (X.size + 1))).length = lX.length + lY.length := by simp
    obtain ⟨b, t, f1, f2, h1, h2⟩ := hf y (by rw [hp]; simp)
    refine Ev.step (f := fun k => mandatelaw05_LexJoins.j3 k X lX lY (lX ++ lY.map (sh (X.size + 1))) ((lX.length + p.length : Nat) : Int) false) (fun k => ?_) ?_
    · simp only [mandatelaw05_LexJoins.l0]
      rw [if_pos (by rw [hl2]; omega), if_neg (by omega)]
    · refine Ev.step (fun k => ?_) this
      simp only [mandatelaw05_LexJoins.j3]
      rw [if_neg (by decide), if_pos (by omega), wJ (((lX.length + p.length : Nat) : Int) - (lX.length : Int)) (by omega) (by omega), show ((lX.length + p.length : Nat) : Int) - (lX.length : Int) = ((p.length : Nat) : Int) by omega,
        if_pos (by omega), if_pos (by omega), if_pos (by omega), if_pos (by rw [hl2]; omega), hr1, hr2, wJ ((X.size : Int) + 1) (by omega) (by omega), wJ (y.f1 + ((X.size : Int) + 1)) (by omega) (by omega), wJ (y.f2 + ((X.size : Int) + 1)) (by omega) (by omega),
        if_neg (by simp [sh]), wJ (((lX.length + p.length : Nat) : Int) + 1) (by omega) (by omega)]
      rw [show ((lX.length + p.length : Nat) : Int) + 1 = ((lX.length + (p ++ [y]).length : Nat) : Int) by simp; omega]
theorem joins1 (X : ByteArray) (hX : X.size ≤ 4096) (lX lY : List S32) (hlX : lX.length ≤ 4096) (hlY : lY.length ≤ 4096) (hf : ∀ y ∈ lY, Fits 4096 y) : ∀ r p, lX = p ++ r →
    Ev (fun k => mandatelaw05_LexJoins.l0 k X lX lY (lX ++ lY.map (sh (X.size + 1))) ((p.length : Nat) : Int)) true := by
  intro r
  induction r with
  | nil =>
    intro p hp
    have := joins2 X hX lX lY hlX hlY hf lY [] rfl
    rw [List.append_nil] at hp
    rw [← hp]
    simpa using this
  | cons y r ih =>
    intro p hp
    have := ih (p ++ [y]) (by rw [hp]; simp)
    have hlen : lX.length = p.length + r.length + 1 := by rw [hp]; simp; omega
    have hr1 : rd_T32 lX ((p.length : Nat) : Int) = y := by rw [hp]; exact rd_at _ _ _ _ rfl
    have hr2 : rd_T32 (lX ++ lY.map (sh (X.size + 1))) ((p.length : Nat) : Int) = y := by
      rw [hp, List.append_assoc, List.cons_append]; exact rd_at _ _ _ _ rfl
    have hl2 : (lX ++ lY.map (sh (X.size + 1))).length = lX.length + lY.length := by simp
    refine Ev.step (f := fun k => mandatelaw05_LexJoins.j3 k X lX lY (lX ++ lY.map (sh (X.size + 1))) ((p.length : Nat) : Int) false) (fun k => ?_) ?_
    · simp only [mandatelaw05_LexJoins.l0]
      rw [if_pos (by rw [hl2]; omega), if_pos (by omega), if_pos (by omega), hr1, hr2]
      simp
    · refine Ev.step (fun k => ?_) this
      simp only [mandatelaw05_LexJoins.j3]
      rw [if_neg (by decide), if_neg (by omega), wJ (((p.length : Nat) : Int) + 1) (by omega) (by omega)]
      rw [show ((p.length : Nat) : Int) + 1 = (((p ++ [y]).length : Nat) : Int) by simp]
theorem LexJoins : mandatelaw05_LexJoins.Pure := by
  intro X Y hX hY
  refine Ev.rounds (g := fun k => mandatelaw05_LexJoins.f k X Y) ?_
  refine Ev.congr (fun k => by simp only [mandatelaw05_LexJoins.f]; rfl) (Ev.bind fixed_ev ?_)
  have hsz : ((X ++ (⟨#[32]⟩ : ByteArray)) ++ Y).size = X.size + 1 + Y.size := by rw [append_size, append_size]; rfl
  have hs1 : (X ++ (⟨#[32]⟩ : ByteArray)).size = X.size + 1 := by rw [append_size]; rfl
  have jt : ∀ l e l2 e2 l3, Ev (fun k => mandatelaw05_LexJoins.j0 k X l e l2 e2 l3 0 2 true) true := fun l e l2 e2 l3 => Ev.step (f := fun _ => some true) (fun k => by simp only [mandatelaw05_LexJoins.j0]; rw [if_pos trivial, if_pos trivial]; rfl) (Ev.const _)
  refine Ev.congr (f := fun k => (lex_All.f k X).bind fun b => (lex_All.f k Y).bind fun c => (lex_All.f k ((X ++ (⟨#[32]⟩ : ByteArray)) ++ Y)).bind fun d => if X.size ≤ 4096 ∧ Y.size ≤ 4096 ∧ X.size + 1 + Y.size ≤ 4096 then mandatelaw05_LexJoins.j0 k X b.1 b.2.2 c.1 c.2.2 d.1 d.2.1 d.2.2 false else mandatelaw05_LexJoins.j0 k X b.1 b.2.2 c.1 c.2.2 d.1 d.2.1 d.2.2 true) (fun k => ?_) ?_
  · rw [if_pos rfl]
    congr 1; funext b
    congr 1; funext c
    rw [if_pos (by omega), if_pos (by rw [hs1]; omega)]
    congr 1; funext d
    by_cases h1 : X.size ≤ 4096
    · by_cases h2 : Y.size ≤ 4096
      · rw [if_neg (by omega), if_neg (by omega), wJ _ (by omega) (by omega)]
        by_cases h3 : X.size + 1 + Y.size ≤ 4096
        · rw [if_pos ⟨h1, h2, h3⟩, decide_eq_false (by omega)]
        · rw [if_neg (fun h => h3 h.2.2), decide_eq_true (by omega)]
      · rw [if_neg (show ¬ (X.size : Int) > 4096 by omega), if_pos (show (Y.size : Int) > 4096 by omega), if_neg (fun h => h2 h.2.1)]
    · rw [if_pos (show (X.size : Int) > 4096 by omega), if_neg (fun h => h1 h.1)]
  refine Ev.bind (all_ev X) (Ev.bind (all_ev Y) (Ev.bind (all_ev _) ?_))
  by_cases h : X.size ≤ 4096 ∧ Y.size ≤ 4096 ∧ X.size + 1 + Y.size ≤ 4096
  · refine Ev.congr (f := fun k => mandatelaw05_LexJoins.j0 k X (allS X).1 (allS X).2.2 (allS Y).1 (allS Y).2.2 (allS ((X ++ (⟨#[32]⟩ : ByteArray)) ++ Y)).1 (allS ((X ++ (⟨#[32]⟩ : ByteArray)) ++ Y)).2.1 (allS ((X ++ (⟨#[32]⟩ : ByteArray)) ++ Y)).2.2 false) (fun k => by rw [if_pos h]) ?_
    rw [allS_T X h.1, allS_T Y h.2.1, allS_T _ (by rw [hsz]; exact h.2.2), all_join X Y ((X ++ (⟨#[32]⟩ : ByteArray)) ++ Y) (by rw [append_list, append_list]; simp)]
    rcases allT_L X _ 0 rfl (by omega) with ⟨x1, x2⟩ | ⟨x1, x2⟩
    · have ex : (allT X [] 0).2.2 = 0 := by rw [x1]
      rw [if_pos ex, ex]
      rcases allT_L Y _ 0 rfl (by omega) with ⟨y1, y2⟩ | ⟨y1, y2⟩
      · have ey : (allT Y [] 0).2.2 = 0 := by rw [y1]
        rw [if_pos ey, ey]
        have bX := tokl_len X _ 0 (by omega) x2
        have bY := tokl_len Y _ 0 (by omega) y2
        have fY : ∀ y ∈ (allT Y [] 0).1, Fits 4096 y := fun y hy => by
          obtain ⟨b, t, q1, q2, q3, q4⟩ := tokl_fits Y _ 0 y2 y hy
          exact ⟨b, t, q1, q2, q3, by omega⟩
        refine Ev.step (f := fun k => mandatelaw05_LexJoins.j1 k X (allT X [] 0).1 (allT Y [] 0).1 ((allT X [] 0).1 ++ (allT Y [] 0).1.map (sh (X.size + 1))) false) (fun k => ?_) ?_
        · simp only [mandatelaw05_LexJoins.j0]
          rw [if_neg (by decide), if_pos trivial, if_pos trivial, if_pos trivial, wJ _ (by omega) (by omega)]
          congr 1
          simp
        · refine Ev.step (fun k => ?_) (joins1 X h.1 (allT X [] 0).1 (allT Y [] 0).1 (by omega) (by omega) fY _ [] rfl)
          simp only [mandatelaw05_LexJoins.j1]
          rw [if_neg (by decide)]
          rfl
      · rw [if_neg (by rw [y2]; decide), y2]
        exact Ev.step (f := fun _ => some true) (fun k => by simp only [mandatelaw05_LexJoins.j0]; rw [if_neg (by decide), if_pos trivial, if_neg (by decide)]; rfl) (Ev.const _)
    · rw [if_neg (by rw [x2]; decide), x2]
      exact Ev.step (f := fun _ => some true) (fun k => by simp only [mandatelaw05_LexJoins.j0]; rw [if_neg (by decide), if_neg (by decide)]; rfl) (Ev.const _)
  · have hz : allS ((X ++ (⟨#[32]⟩ : ByteArray)) ++ Y) = ([], 0, 2) := by unfold allS; rw [if_pos (by rw [hsz]; omega)]
    rw [hz]
    exact Ev.congr (fun k => by rw [if_neg h]) (jt _ _ _ _ _)
end Go.Proofs.Ytbhcdbmhgocojaa.Pure
