/-
  Tuples that may be, the program's way and the document's: plain facts.
-/
import Derived.Test.YtmgocpggoajfeaaVaText
namespace Go.Proofs.Ytmgocpggoajfeaa.Pure
open Go.RowKit Go.Proofs.Ytmgocpggoajfeaa.PA Go.Proofs.YtmgocpggoajfeaaW.PrintWords Go.Proofs.YtmgocpggoajfeaaW.PrintLast
set_option linter.unusedVariables false
set_option linter.unusedSimpArgs false
theorem Ev.yes {α : Type} {c : Prop} [Decidable c] {f g : Nat → Option α} {r : α} (h : c) (e : Ev f r) : Ev (fun k => if c then f k else g k) r := by simp only [if_pos h]; exact e
theorem Ev.no {α : Type} {c : Prop} [Decidable c] {f g : Nat → Option α} {r : α} (h : ¬ c) (e : Ev g r) : Ev (fun k => if c then f k else g k) r := by simp only [if_neg h]; exact e
def goodV (v : S25) : Bool := goodB v.f0 v.f1
theorem all_ev : ∀ l : List S25, Ev (fun k => value_Right.all k l) (l.all goodV)
  | [] => Ev.now true
  | v :: l => by
    unfold value_Right.all
    refine Ev.bind (good_ev v.f0 v.f1) ?_
    rw [List.all_cons]
    show Ev _ (goodV v && _)
    rw [show goodB v.f0 v.f1 = goodV v from rfl]
    cases goodV v with
    | true => simp only [if_true, Bool.true_and]; exact all_ev l
    | false => simp; exact Ev.now false
def rightB (s : ByteArray) (l : List S25) : Bool := nameB s && (decide (1 ≤ l.length ∧ l.length ≤ 5) && ((!decide ((rd_T25 l 0).f0.size = 0)) && l.all goodV))
theorem right_ev (s : ByteArray) (l : List S25) : Ev (fun k => value_Right.f k s l) (rightB s l) := by
  unfold value_Right.f rightB
  refine Ev.bind (name_ev s) ?_
  cases nameB s with
  | false => simp; exact Ev.now false
  | true =>
    simp only [if_true, Bool.true_and]
    by_cases h1 : l.length < 1
    · have : ¬ (1 ≤ l.length ∧ l.length ≤ 5) := by omega
      simp only [h1, if_true, this, decide_false, Bool.false_and]; exact Ev.now false
    · by_cases h2 : l.length > 5
      · have : ¬ (1 ≤ l.length ∧ l.length ≤ 5) := by omega
        simp only [h1, if_false, h2, if_true, this, decide_false, Bool.false_and]; exact Ev.now false
      · have : 1 ≤ l.length ∧ l.length ≤ 5 := by omega
        simp only [h1, if_false, h2, this, and_self, decide_true, Bool.true_and]
        by_cases h3 : (rd_T25 l 0).f0.size = 0
        · refine Ev.yes ((toList_nil_iff _).2 h3) ?_; simp only [h3, decide_true, Bool.not_true, Bool.false_and]; exact Ev.now false
        · refine Ev.no (fun e => h3 ((toList_nil_iff _).1 e)) ?_; simp only [h3, decide_false, Bool.not_false, Bool.true_and]; exact all_ev l
theorem rr_loop (s : ByteArray) (l : List S25) (h1 : 1 ≤ l.length) (h5 : l.length ≤ 5) : ∀ (rest pre : List S25), l = pre ++ rest → Ev (fun k => mandateref01_Right.l0 k (pre.length : Int) s l) (rest.all goodV && !decide ((rd_T25 l 0).f0.size = 0))
  | [], pre, he => by
    have hl : pre.length = l.length := by rw [he]; simp
    refine ⟨1, fun k hk => ?_⟩
    obtain ⟨k, rfl⟩ : ∃ m, k = m + 1 := ⟨k - 1, by omega⟩
    show mandateref01_Right.l0 (k + 1) (pre.length : Int) s l = _
    rw [mandateref01_Right.l0, if_neg (by omega), if_pos (by omega)]
    simp only [List.all_nil, Bool.true_and, Option.some.injEq]
    rw [Bool.eq_iff_iff, decide_eq_true_iff, Bool.not_eq_true', decide_eq_false_iff_not]; omega
  | v :: r, pre, he => by
    have hl : pre.length < l.length := by rw [he]; simp
    have hv : rd_T25 l (pre.length : Int) = v := by
      unfold rd_T25
      rw [he]; simp
    have hg := rgood_ev v.f0 v.f1
    have hn := rr_loop s l h1 h5 r (pre ++ [v]) (by rw [he]; simp)
    have up : wrap64 ((pre.length : Int) + 1) = (((pre ++ [v]).length : Nat) : Int) := by
      rw [up1 _ (by omega)]; simp
    obtain ⟨k1, e1⟩ := hg
    obtain ⟨k2, e2⟩ := hn
    have e1 : ∀ k, k1 ≤ k → mandateref01_Good.f k v.f0 v.f1 = some (goodB v.f0 v.f1) := e1
    refine ⟨max k1 k2 + 1, fun k hk => ?_⟩
    obtain ⟨k, rfl⟩ : ∃ m, k = m + 1 := ⟨k - 1, by omega⟩
    show mandateref01_Right.l0 (k + 1) (pre.length : Int) s l = _
    rw [mandateref01_Right.l0, if_pos (by omega), if_pos (by omega), hv, e1 k (by omega), Option.bind_some, up, List.all_cons]
    show _ = some ((goodV v && _) && _)
    rw [show goodB v.f0 v.f1 = goodV v from rfl]
    cases goodV v with
    | true => simp only [if_true, Bool.true_and]; exact e2 k (by omega)
    | false => simp
theorem rright_ev (s : ByteArray) (l : List S25) : Ev (fun k => mandateref01_Right.f k s l) (rightB s l) := by
  unfold mandateref01_Right.f rightB
  refine Ev.bind (rname_ev s) ?_
  have j1 : ∀ b : Bool, b = true → Ev (fun k => mandateref01_Right.j0 k b s l) false := by
    rintro b rfl
    refine ⟨1, fun k hk => ?_⟩
    obtain ⟨k, rfl⟩ : ∃ m, k = m + 1 := ⟨k - 1, by omega⟩
    show mandateref01_Right.j0 (k + 1) true s l = _
    rw [mandateref01_Right.j0, if_pos rfl]
  cases nameB s with
  | false => simp; exact j1 true rfl
  | true =>
    simp only [if_true, Bool.true_and]
    by_cases h1 : l.length < 1
    · have : ¬ (1 ≤ l.length ∧ l.length ≤ 5) := by omega
      refine Ev.yes (by omega) ?_
      simp only [this, decide_false, Bool.false_and]; exact j1 true rfl
    · refine Ev.no (by omega) ?_
      by_cases h2 : l.length > 5
      · have : ¬ (1 ≤ l.length ∧ l.length ≤ 5) := by omega
        simp only [this, decide_false, Bool.false_and]
        exact j1 _ (decide_eq_true (by omega))
      · have h3 : 1 ≤ l.length ∧ l.length ≤ 5 := by omega
        have hd : decide ((l.length : Int) > 5) = false := decide_eq_false (by omega)
        simp only [h3, and_self, decide_true, Bool.true_and, hd]
        obtain ⟨k1, e1⟩ := rr_loop s l h3.1 h3.2 l [] rfl
        refine ⟨k1 + 1, fun k hk => ?_⟩
        obtain ⟨k, rfl⟩ : ∃ m, k = m + 1 := ⟨k - 1, by omega⟩
        show mandateref01_Right.j0 (k + 1) false s l = _
        rw [mandateref01_Right.j0, if_neg (by decide), Bool.and_comm]
        exact e1 k (by omega)
theorem lawgood_ev (s : ByteArray) (n : Int) (p : ByteArray) (l : List S25) : Ev (fun k => mandatelaw01_ValueGood.f k s n p l) true := by
  unfold mandatelaw01_ValueGood.f
  simp only [mandatelaw01_fixed.f, Option.bind_some, if_true]
  refine Ev.bind (good_ev s n) (Ev.bind (rgood_ev s n) ?_)
  simp only [beq_self_eq_true, if_true]
  refine Ev.bind (right_ev p l) (Ev.bind (rright_ev p l) ?_)
  simp only [beq_self_eq_true]
  exact Ev.now true
end Go.Proofs.Ytmgocpggoajfeaa.Pure
