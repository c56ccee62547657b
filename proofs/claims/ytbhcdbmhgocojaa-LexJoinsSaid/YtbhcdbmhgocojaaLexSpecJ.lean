import Derived.Test.YtbhcdbmhgocojaaPAx2
import Derived.Test.YtbhcdbmhgocojaaPAx6
import Derived.Test.YtbhcdbmhgocojaaPAx7
import Derived.Test.YtbhcdbmhgocojaaPAx8
import Derived.Test.YtbhcdbmhgocojaaNames
namespace Go.Proofs.Ytbhcdbmhgocojaa.Pure
open Go.RowKit Go.Proofs.Ytbhcdbmhgocojaa.PA Go.Proofs.YtbhcdbmhgocojaaW.PrintWords Go.Proofs.YtbhcdbmhgocojaaW.PrintLast
set_option linter.unusedSimpArgs false
set_option linter.unusedVariables false
/-! ### Tokens: the program's One and the reference's -/
def letterB (c : Int) : Bool := decide ((97 ≤ c ∧ c ≤ 122) ∨ (65 ≤ c ∧ c ≤ 90) ∨ (48 ≤ c ∧ c ≤ 57) ∨ c = 95)
theorem letter_f (c : Int) : lex_letter.f c = some (letterB c) := by
  unfold lex_letter.f letterB
  repeat' split
  all_goals (congr 1; first | (symm; apply decide_eq_true; omega) | (rw [Bool.eq_iff_iff]; simp; omega))
def kindS (p : ByteArray) : Int :=
  if p.toList = [110, 111, 116] ∨ p.toList = [115, 97, 121, 115] then 5 else if nameB p = true then 1
  else if 0 < p.size ∧ 65 ≤ bt p 0 ∧ bt p 0 ≤ 90 ∧ p.size ≤ 16 then 2 else if (readS p).2.2 = true then 3 else 0
theorem sort_j1 (p : ByteArray) : Ev (fun k => lex_sort.j1 k p false) (if (readS p).2.2 = true then 3 else 0) := by
  refine Ev.step (f := fun k => (value_Read.f k p).bind fun b => if b.2.2 = true then some 3 else some 0) (fun k => by simp only [lex_sort.j1]; rw [if_neg (by decide)]) ?_
  refine Ev.bind (read_ev p) ?_
  by_cases h : (readS p).2.2 = true
  · rw [if_pos h]; exact ⟨0, fun k _ => by dsimp only; rw [if_pos h]⟩
  · rw [if_neg h]; exact ⟨0, fun k _ => by dsimp only; rw [if_neg h]⟩
theorem sort_ev (p : ByteArray) (hp : 0 < p.size) : Ev (fun k => lex_sort.f k p) (kindS p) := by
  unfold kindS
  have j5 : Ev (fun k => lex_sort.j0 k p true) 5 := Ev.step (f := fun _ => some 5) (fun k => by simp only [lex_sort.j0]; rw [if_pos trivial]) (Ev.const _)
  by_cases h1 : p.toList = [110, 111, 116]
  · rw [if_pos (Or.inl h1)]
    exact Ev.congr (fun k => by simp only [lex_sort.f]; rw [if_pos h1]) j5
  · by_cases h2 : p.toList = [115, 97, 121, 115]
    · rw [if_pos (Or.inr h2)]
      exact Ev.congr (fun k => by simp only [lex_sort.f]; rw [if_neg h1, h2]; rfl) j5
    · rw [if_neg (by simp [h1, h2])]
      refine Ev.congr (f := fun k => lex_sort.j0 k p false) (fun k => by simp only [lex_sort.f]; rw [if_neg h1]; congr 1; simpa using h2) ?_
      refine Ev.step (f := fun k => (value_Name.f k p).bind fun t => if t = true then some 1 else (if 0 < (p.size : Int) then (if (bt p 0) ≥ 65 then (if (bt p 0) ≤ 90 then (lex_sort.j1 k p (decide ((p.size : Int) ≤ 16))) else (lex_sort.j1 k p false)) else (lex_sort.j1 k p false)) else none)) (fun k => by simp only [lex_sort.j0]; rw [if_neg (by decide)]) ?_
      refine Ev.bind (name_ev p) ?_
      by_cases h3 : nameB p = true
      · rw [if_pos h3]; exact ⟨0, fun k _ => by dsimp only; rw [if_pos h3]⟩
      · rw [if_neg h3]
        refine Ev.congr (f := fun k => (if (bt p 0) ≥ 65 then (if (bt p 0) ≤ 90 then (lex_sort.j1 k p (decide ((p.size : Int) ≤ 16))) else (lex_sort.j1 k p false)) else (lex_sort.j1 k p false))) (fun k => by (try dsimp only); rw [if_neg h3, if_pos (by omega)]) ?_
        have e := sort_j1 p
        by_cases h4 : 65 ≤ bt p 0
        · by_cases h5 : bt p 0 ≤ 90
          · refine Ev.congr (f := fun k => lex_sort.j1 k p (decide ((p.size : Int) ≤ 16))) (fun k => by rw [if_pos h4, if_pos h5]) ?_
            by_cases h6 : p.size ≤ 16
            · rw [if_pos ⟨hp, h4, h5, h6⟩]
              exact Ev.step (f := fun _ => some 2) (fun k => by simp only [lex_sort.j1]; rw [if_pos (by simp; omega)]) (Ev.const _)
            · rw [if_neg (fun h => h6 h.2.2.2)]
              exact Ev.congr (fun k => by rw [decide_eq_false (by omega)]) e
          · rw [if_neg (fun h => h5 h.2.2.1)]
            exact Ev.congr (fun k => by rw [if_pos h4, if_neg h5]) e
        · rw [if_neg (fun h => h4 h.2.1)]
          exact Ev.congr (fun k => by rw [if_neg h4]) e
theorem kindS_empty (p : ByteArray) (h : p.data.toList = []) : kindS p = 0 := by
  have hs : p.size = 0 := by rw [size_list, h]; rfl
  have ht : p.toList = [] := by rw [ByteArray.toList_eq, h]
  have hn : nameB p = false := by simp [nameB, hs]
  unfold kindS readS cutD
  rw [hn, h, hs, ht]
  simp [readDs, canon]
/-- Where a piece ends. -/
def endP (s : ByteArray) : Nat → Nat → Nat
  | 0, i => i
  | d + 1, i => if letterB (bt s i) = true then endP s d (i + 1) else i
theorem endP_bd (s : ByteArray) : ∀ d i, i ≤ endP s d i ∧ endP s d i ≤ i + d := by
  intro d
  induction d with
  | zero => intro i; exact ⟨Nat.le_refl _, Nat.le_refl _⟩
  | succ d ih =>
    intro i
    rw [endP]
    split
    · have := ih (i + 1); omega
    · omega
abbrev Tk := Int × Int × Int × Int
def pieceS (s : ByteArray) (at_ to_ : Nat) : Tk := if kindS (s.extract at_ to_) = 0 then (0, 0, 0, 5) else (kindS (s.extract at_ to_), (at_ : Int), (to_ : Int), 0)
def signS (s : ByteArray) (at_ : Nat) : Tk :=
  if bt s at_ = 40 ∨ bt s at_ = 41 ∨ bt s at_ = 44 ∨ bt s at_ = 46 ∨ bt s at_ = 60 then (4, (at_ : Int), ((at_ + 1 : Nat) : Int), 0)
  else if (bt s at_ = 33 ∧ at_ + 1 < s.size ∧ bt s ((at_ + 1 : Nat) : Int) = 61) ∨ (bt s at_ = 58 ∧ at_ + 1 < s.size ∧ bt s ((at_ + 1 : Nat) : Int) = 45) then (4, (at_ : Int), ((at_ + 2 : Nat) : Int), 0)
  else (0, 0, 0, 5)
def oneIn (s : ByteArray) (at_ : Nat) : Tk :=
  if bt s at_ = 32 ∨ bt s at_ = 9 then (0, 0, 0, 4)
  else if bt s at_ = 45 then (if at_ + 1 < s.size ∧ 48 ≤ bt s ((at_ + 1 : Nat) : Int) ∧ bt s ((at_ + 1 : Nat) : Int) ≤ 57 then pieceS s at_ (endP s (s.size - (at_ + 1)) (at_ + 1)) else (0, 0, 0, 5))
  else if letterB (bt s at_) = true then pieceS s at_ (endP s (s.size - (at_ + 1)) (at_ + 1)) else signS s at_
def oneS (s : ByteArray) (at_ : Int) : Tk := if at_ < 0 ∨ (s.size : Int) ≤ at_ then (0, 0, 0, 1) else oneIn s at_.toNat
theorem piece_fin (s : ByteArray) (at_ to_ : Nat) (h : at_ < to_) (h2 : to_ ≤ s.size) : Ev (fun k => (lex_sort.f k (s.extract (at_ : Int).toNat (to_ : Int).toNat)).bind fun kd => if kd = 0 then some (0, 0, 0, 5) else some (kd, (at_ : Int), (to_ : Int), 0)) (pieceS s at_ to_) := by
  rw [Int.toNat_natCast, Int.toNat_natCast]
  refine Ev.bind (sort_ev _ (by rw [ByteArray.size_extract]; omega)) ?_
  unfold pieceS
  by_cases h : kindS (s.extract at_ to_) = 0
  · rw [if_pos h]; exact ⟨0, fun k _ => by dsimp only; rw [if_pos h]⟩
  · rw [if_neg h]; exact ⟨0, fun k _ => by dsimp only; rw [if_neg h]⟩
theorem piece_ev (s : ByteArray) (at_ : Nat) : ∀ d to_, to_ + d = s.size → at_ < to_ → Ev (fun k => lex_One.piece k s (at_ : Int) (to_ : Int)) (pieceS s at_ (endP s d to_)) := by
  intro d
  induction d with
  | zero =>
    intro to_ h hat
    refine Ev.step (f := fun k => (lex_sort.f k (s.extract (at_ : Int).toNat (to_ : Int).toNat)).bind fun kd => if kd = 0 then some (0, 0, 0, 5) else some (kd, (at_ : Int), (to_ : Int), 0)) (fun k => by simp only [lex_One.piece]; rw [if_neg (by omega)]) ?_
    exact piece_fin s at_ to_ hat (by omega)
  | succ d ih =>
    intro to_ h hat
    rw [endP]
    by_cases hl : letterB (bt s to_) = true
    · rw [if_pos hl]
      refine Ev.step (f := fun k => lex_One.piece k s (at_ : Int) ((to_ + 1 : Nat) : Int)) (fun k => by simp only [lex_One.piece]; rw [if_pos (by omega), letter_f, hl, Option.bind_some, if_pos rfl]; rfl) ?_
      exact ih (to_ + 1) (by omega) (by omega)
    · rw [if_neg hl]
      refine Ev.step (f := fun k => (lex_sort.f k (s.extract (at_ : Int).toNat (to_ : Int).toNat)).bind fun kd => if kd = 0 then some (0, 0, 0, 5) else some (kd, (at_ : Int), (to_ : Int), 0)) (fun k => by simp only [lex_One.piece]; rw [if_pos (by omega), letter_f, Option.bind_some, if_neg hl]) ?_
      exact piece_fin s at_ to_ hat (by omega)
theorem one_ev (s : ByteArray) (at_ : Int) (hs : s.size ≤ 140737488351232) : Ev (fun k => lex_One.f k s at_) (oneS s at_) := by
  unfold oneS
  by_cases ho : at_ < 0 ∨ (s.size : Int) ≤ at_
  · rw [if_pos ho]; exact ⟨0, fun k _ => by simp only [lex_One.f]; rw [if_pos ho]⟩
  · rw [if_neg ho]
    obtain ⟨a, rfl⟩ : ∃ a : Nat, at_ = (a : Int) := ⟨at_.toNat, by omega⟩
    refine Ev.congr (f := fun k => lex_One.at_ k s (a : Int) (bt s a)) (fun k => by simp only [lex_One.f]; rw [if_neg ho, if_pos (by omega)]) ?_
    rw [Int.toNat_natCast]
    unfold oneIn
    have e1 : ((a + 1 : Nat) : Int) = (a : Int) + 1 := by omega
    by_cases h1 : bt s a = 32 ∨ bt s a = 9
    · rw [if_pos h1]; exact ⟨0, fun k _ => by simp only [lex_One.at_]; rw [if_pos h1]⟩
    · rw [if_neg h1]
      by_cases h2 : bt s a = 45
      · rw [if_pos h2]
        by_cases h3 : a + 1 < s.size ∧ 48 ≤ bt s ((a + 1 : Nat) : Int) ∧ bt s ((a + 1 : Nat) : Int) ≤ 57
        · rw [if_pos h3]
          refine Ev.congr (f := fun k => lex_One.piece k s (a : Int) ((a + 1 : Nat) : Int)) (fun k => by simp only [lex_One.at_]; rw [if_neg h1, if_pos h2, if_pos (by rw [← e1]; omega)]; rfl) ?_
          exact piece_ev s a _ (a + 1) (by omega) (by omega)
        · rw [if_neg h3]
          exact ⟨0, fun k _ => by simp only [lex_One.at_]; rw [if_neg h1, if_pos h2, if_neg (by rw [← e1]; omega)]⟩
      · rw [if_neg h2]
        by_cases h4 : letterB (bt s a) = true
        · rw [if_pos h4]
          refine Ev.congr (f := fun k => lex_One.piece k s (a : Int) ((a + 1 : Nat) : Int)) (fun k => by simp only [lex_One.at_]; rw [if_neg h1, if_neg h2, letter_f, Option.bind_some, if_pos h4]; rfl) ?_
          exact piece_ev s a _ (a + 1) (by omega) (by omega)
        · rw [if_neg h4]
          refine ⟨0, fun k _ => ?_⟩
          simp only [lex_One.at_]
          rw [if_neg h1, if_neg h2, letter_f, Option.bind_some, if_neg h4]
          unfold lex_One.sign signS
          rw [← e1]
          by_cases h5 : bt s a = 40 ∨ bt s a = 41 ∨ bt s a = 44 ∨ bt s a = 46 ∨ bt s a = 60
          · rw [if_pos h5, if_pos h5]
          · rw [if_neg h5, if_neg h5]
            by_cases h6 : (bt s a = 33 ∧ a + 1 < s.size ∧ bt s ((a + 1 : Nat) : Int) = 61) ∨ (bt s a = 58 ∧ a + 1 < s.size ∧ bt s ((a + 1 : Nat) : Int) = 45)
            · rw [if_pos (by omega), if_pos h6]; rfl
            · rw [if_neg (by omega), if_neg h6]
/-! ### The reference's One -/
theorem split_at (s : ByteArray) (a : Nat) (h : a < s.size) : ∃ (pre r : List UInt8) (c : UInt8), s.data.toList = pre ++ c :: r ∧ pre.length = a ∧ bt s (a : Int) = (c.toNat : Int) := by
  rw [size_list] at h
  have e : s.data.toList = s.data.toList.take a ++ (s.data.toList[a] :: s.data.toList.drop (a + 1)) := by
    rw [List.getElem_cons_drop, List.take_append_drop]
  have hl : (s.data.toList.take a).length = a := by rw [List.length_take]; omega
  refine ⟨_, _, _, e, hl, ?_⟩
  have := (bt_split s _ _ _ e).2
  rw [hl] at this
  exact this
theorem ext1 (s : ByteArray) (a : Nat) (x : UInt8) (h : a < s.size) : (s.extract a (a + 1)).toList = [x] ↔ bt s (a : Int) = (x.toNat : Int) := by
  obtain ⟨pre, r, c, hL, hl, hb⟩ := split_at s a h
  rw [ByteArray.toList_eq, extract_list, hL, ← hl, List.drop_left, hl, hb, show a + 1 - a = 1 from by omega]
  simp only [List.take_succ_cons, List.take_zero, List.cons.injEq, and_true]
  constructor
  · intro e; rw [e]
  · intro e; exact UInt8.toNat_inj.mp (by omega)
def SIGNS : List ByteArray := [(⟨#[58, 45]⟩ : ByteArray), (⟨#[33, 61]⟩ : ByteArray), (⟨#[40]⟩ : ByteArray), (⟨#[41]⟩ : ByteArray), (⟨#[44]⟩ : ByteArray), (⟨#[46]⟩ : ByteArray), (⟨#[60]⟩ : ByteArray)]
/-! ### All -/
theorem pieceS_ok (s : ByteArray) (a t : Nat) (h : a < t) (ht : t ≤ s.size) : (pieceS s a t).2.2.2 = 0 ∧ (pieceS s a t).1 = kindS (s.extract a t) ∧ (pieceS s a t).2.1 = a ∧ (pieceS s a t).2.2.1 = t ∨ pieceS s a t = (0, 0, 0, 5) := by
  unfold pieceS
  by_cases h0 : kindS (s.extract a t) = 0
  · rw [if_pos h0]; exact Or.inr rfl
  · rw [if_neg h0]; exact Or.inl ⟨rfl, rfl, rfl, rfl⟩
/-- What a token is: its kind, its place; or a blank; or no token. -/
theorem oneIn_ok (s : ByteArray) (a : Nat) (h : a < s.size) : oneIn s a = (0, 0, 0, 4) ∨ oneIn s a = (0, 0, 0, 5) ∨ ∃ (k : Int) (t : Nat), oneIn s a = (k, (a : Int), (t : Int), 0) ∧ a < t ∧ t ≤ s.size := by
  have hp := endP_bd s (s.size - (a + 1)) (a + 1)
  have pc : pieceS s a (endP s (s.size - (a + 1)) (a + 1)) = (0, 0, 0, 5) ∨ ∃ (k : Int) (t : Nat), pieceS s a (endP s (s.size - (a + 1)) (a + 1)) = (k, (a : Int), (t : Int), 0) ∧ a < t ∧ t ≤ s.size := by
    unfold pieceS
    split
    · exact Or.inl rfl
    · exact Or.inr ⟨_, _, rfl, by omega, by omega⟩
  unfold oneIn
  split
  · exact Or.inl rfl
  · split
    · split
      · exact Or.inr pc
      · exact Or.inr (Or.inl rfl)
    · split
      · exact Or.inr pc
      · unfold signS
        split
        · exact Or.inr (Or.inr ⟨4, a + 1, rfl, by omega, by omega⟩)
        · split
          · rename_i hh
            exact Or.inr (Or.inr ⟨4, a + 2, rfl, by omega, by omega⟩)
          · exact Or.inr (Or.inl rfl)
abbrev Al := (List S32) × Int × Int
def allF (s : ByteArray) : Nat → List S32 → Nat → Al
  | 0, out, _ => (out, 0, 0)
  | d + 1, out, a => if a = s.size then (out, 0, 0) else
      if (oneIn s a).2.2.2 = 4 then allF s d out (a + 1) else if (oneIn s a).2.2.2 = 0 then allF s d (out ++ [(⟨(oneIn s a).1, (oneIn s a).2.1, (oneIn s a).2.2.1⟩ : S32)]) (oneIn s a).2.2.1.toNat
      else ([], (a : Int), (oneIn s a).2.2.2)
def allS (s : ByteArray) : Al := if 4096 < s.size then ([], 0, 2) else allF s (s.size + 1) [] 0
theorem oneS_in (s : ByteArray) (a : Nat) (h : a < s.size) : oneS s (a : Int) = oneIn s a := by
  unfold oneS; rw [if_neg (by omega), Int.toNat_natCast]
theorem all_loop (s : ByteArray) (hs : s.size ≤ 4096) : ∀ d a out, a ≤ s.size → s.size - a < d → out.length ≤ a → Ev (fun k => lex_All.l0 k s out (a : Int)) (allF s d out a) := by
  intro d
  induction d with
  | zero => intro a out _ h; omega
  | succ d ih =>
    intro a out ha hd ho
    rw [allF]
    by_cases h1 : a = s.size
    · rw [if_pos h1]
      exact Ev.step (f := fun _ => some _) (fun k => by simp only [lex_All.l0]; rw [if_pos (by omega)]) (Ev.const _)
    · rw [if_neg h1]
      have one := one_ev s (a : Int) (by omega)
      rw [oneS_in s a (by omega)] at one
      refine Ev.step (f := fun k => ((lex_One.f k s (a : Int)).bind fun b => if b.2.2.2 = 4 then lex_All.l0 k s out (wrap64 ((a : Int) + 1)) else if b.2.2.2 = 0 then (if out.length < 5864062014805 then lex_All.l0 k s (out ++ [(⟨b.1, b.2.1, b.2.2.1⟩ : S32)]) b.2.2.1 else none) else some (([] : List S32), (a : Int), b.2.2.2))) (fun k => by simp only [lex_All.l0]; rw [if_neg (by omega)]) ?_
      refine Ev.bind one ?_
      rcases oneIn_ok s a (by omega) with e | e | ⟨kd, t, e, h2, h3⟩
      · rw [e, if_pos rfl]
        exact Ev.congr (fun k => by dsimp only; rw [if_pos rfl, up1 a (by omega)]) (ih (a + 1) out (by omega) (by omega) (by omega))
      · rw [e, if_neg (by decide), if_neg (by decide)]
        exact ⟨0, fun k _ => by dsimp only; rw [if_neg (by decide), if_neg (by decide)]⟩
      · rw [e, if_neg (by dsimp only; decide), if_pos rfl]
        exact Ev.congr (fun k => by dsimp only; rw [if_neg (by decide), if_pos rfl, if_pos (by omega)]) (ih t _ (by omega) (by omega) (by rw [List.length_append, List.length_singleton]; omega))
theorem all_ev (s : ByteArray) : Ev (fun k => lex_All.f k s) (allS s) := by
  unfold allS
  by_cases h : 4096 < s.size
  · rw [if_pos h]; exact ⟨0, fun k _ => by simp only [lex_All.f]; rw [if_pos (by omega)]⟩
  · rw [if_neg h]
    exact Ev.congr (fun k => by simp only [lex_All.f]; rw [if_neg (by omega)]; rfl) (all_loop s (by omega) (s.size + 1) 0 [] (by omega) (by omega) (by simp))
/-! ### The examples -/
theorem fixed_ev : Ev (fun k => mandatelaw05_fixed.f k) true := by
  refine Ev.of (k := 120) mandatelaw05_fixed.mono ?_
  decide +kernel
/-! ### All, without a number of rounds -/
theorem allF_irrel (s : ByteArray) : ∀ d d' a out, a ≤ s.size → s.size - a < d → s.size - a < d' → allF s d out a = allF s d' out a := by
  intro d
  induction d with
  | zero => intro d' a out _ h; omega
  | succ d ih =>
    intro d' a out ha hd hd'
    obtain ⟨d', rfl⟩ : ∃ m, d' = m + 1 := ⟨d' - 1, by omega⟩
    rw [allF, allF]
    split
    · rfl
    · rcases oneIn_ok s a (by omega) with e | e | ⟨kd, t, e, h2, h3⟩
      · rw [e, if_pos rfl, if_pos rfl]; exact ih _ _ _ (by omega) (by omega) (by omega)
      · rw [e]; rfl
      · rw [e]; dsimp only; simp only [show ¬ ((0 : Int) = 4) from by decide, if_false, if_true]; exact ih _ _ _ h3 (by rw [Int.toNat_natCast]; omega) (by rw [Int.toNat_natCast]; omega)
def allT (s : ByteArray) (out : List S32) (a : Nat) : Al := allF s (s.size - a + 1) out a
theorem allT_end (s : ByteArray) (out : List S32) : allT s out s.size = (out, 0, 0) := by
  unfold allT; rw [allF, if_pos rfl]
theorem allT_blank (s : ByteArray) (out : List S32) (a : Nat) (h : a < s.size) (e : oneIn s a = (0, 0, 0, 4)) : allT s out a = allT s out (a + 1) := by
  unfold allT; rw [allF, if_neg (by omega), e, if_pos rfl]; exact allF_irrel s _ _ _ _ (by omega) (by omega) (by omega)
theorem allT_wrong (s : ByteArray) (out : List S32) (a : Nat) (h : a < s.size) (e : oneIn s a = (0, 0, 0, 5)) : allT s out a = ([], (a : Int), 5) := by
  unfold allT; rw [allF, if_neg (by omega), e]; rfl
theorem allT_tok (s : ByteArray) (out : List S32) (a t : Nat) (k : Int) (h : a < s.size) (e : oneIn s a = (k, (a : Int), (t : Int), 0)) (h2 : a < t) (h3 : t ≤ s.size) : allT s out a = allT s (out ++ [⟨k, (a : Int), (t : Int)⟩]) t := by
  unfold allT; rw [allF, if_neg (by omega), e, if_neg (by dsimp only; decide), if_pos rfl, Int.toNat_natCast]
  exact allF_irrel s _ _ _ _ h3 (by omega) (by omega)
theorem allS_T (s : ByteArray) (h : s.size ≤ 4096) : allS s = allT s [] 0 := by
  unfold allS allT
  rw [if_neg (by omega)]; rfl
/-- What stood before is kept in front. -/
def pre (out : List S32) (r : Al) : Al := if r.2.2 = 0 then (out ++ r.1, 0, 0) else r
theorem allT_pre (s : ByteArray) : ∀ n a out, s.size - a = n → a ≤ s.size → allT s out a = pre out (allT s [] a) := by
  intro n
  induction n using Nat.strongRecOn with
  | _ n ih =>
    intro a out hn ha
    by_cases h : a = s.size
    · rw [h, allT_end, allT_end]; simp [pre]
    · rcases oneIn_ok s a (by omega) with e | e | ⟨kd, t, e, h2, h3⟩
      · rw [allT_blank s out a (by omega) e, allT_blank s [] a (by omega) e]; exact ih _ (by omega) _ _ rfl (by omega)
      · rw [allT_wrong s out a (by omega) e, allT_wrong s [] a (by omega) e]; rfl
      · rw [allT_tok s out a t kd (by omega) e h2 h3, allT_tok s [] a t kd (by omega) e h2 h3, ih _ (by omega) t _ rfl h3, ih _ (by omega) t ([] ++ _) rfl h3]
        unfold pre
        by_cases h0 : (allT s [] t).2.2 = 0
        · rw [if_pos h0, if_pos h0, if_pos rfl]; simp
        · rw [if_neg h0, if_neg h0, if_neg h0]
/-- What the list of all tokens is: blanks, a token, and so on. -/
def Blank (s : ByteArray) (a b : Nat) : Prop := ∀ j : Nat, a ≤ j → j < b → bt s j = 32 ∨ bt s j = 9
def TokL (s : ByteArray) : Nat → List S32 → Prop
  | a, [] => Blank s a s.size
  | a, x :: l => ∃ b t : Nat, x = ⟨x.f0, (b : Int), (t : Int)⟩ ∧ a ≤ b ∧ Blank s a b ∧ b < s.size ∧ oneIn s b = (x.f0, (b : Int), (t : Int), 0) ∧ b < t ∧ t ≤ s.size ∧ TokL s t l
theorem tok_blank (s : ByteArray) (a : Nat) (l : List S32) (hb : bt s a = 32 ∨ bt s a = 9) (h : TokL s (a + 1) l) : TokL s a l := by
  have key : ∀ b, a + 1 ≤ b → Blank s (a + 1) b → Blank s a b := fun b _ hB j h1 h2 => by
    by_cases hj : j = a
    · rw [hj]; exact hb
    · exact hB j (by omega) h2
  cases l with
  | nil =>
    intro j h1 h2
    by_cases hj : j = a
    · rw [hj]; exact hb
    · exact h j (by omega) h2
  | cons x l =>
    obtain ⟨b, t, h1, h2, h3, h4⟩ := h
    exact ⟨b, t, h1, by omega, key b h2 h3, h4⟩
theorem oneIn_blank (s : ByteArray) (a : Nat) (e : oneIn s a = (0, 0, 0, 4)) : bt s a = 32 ∨ bt s a = 9 := by
  by_cases h : bt s a = 32 ∨ bt s a = 9
  · exact h
  · exfalso
    unfold oneIn at e
    rw [if_neg h] at e
    have np : ∀ t, pieceS s a t ≠ (0, 0, 0, 4) := fun t => by
      unfold pieceS; split
      · decide
      · intro e; have := congrArg (fun z => z.2.2.2) e; simp at this
    split at e
    · split at e
      · exact np _ e
      · exact absurd e (by decide)
    · split at e
      · exact np _ e
      · unfold signS at e
        split at e
        · have := congrArg (fun z => z.2.2.2) e; simp at this
        · split at e
          · have := congrArg (fun z => z.2.2.2) e; simp at this
          · exact absurd e (by decide)
theorem allT_L (s : ByteArray) : ∀ n a, s.size - a = n → a ≤ s.size → ((allT s [] a).2 = (0, 0) ∧ TokL s a (allT s [] a).1) ∨ ((allT s [] a).1 = [] ∧ (allT s [] a).2.2 = 5) := by
  intro n
  induction n using Nat.strongRecOn with
  | _ n ih =>
    intro a hn ha
    by_cases h : a = s.size
    · rw [h, allT_end]; exact Or.inl ⟨rfl, fun j h1 h2 => by omega⟩
    · rcases oneIn_ok s a (by omega) with e | e | ⟨kd, t, e, h2, h3⟩
      · rw [allT_blank s [] a (by omega) e]
        rcases ih _ (by omega) (a + 1) rfl (by omega) with ⟨h1, h2⟩ | h1
        · exact Or.inl ⟨h1, tok_blank s a _ (oneIn_blank s a e) h2⟩
        · exact Or.inr h1
      · rw [allT_wrong s [] a (by omega) e]; exact Or.inr ⟨rfl, rfl⟩
      · rw [allT_tok s [] a t kd (by omega) e h2 h3, allT_pre s _ t _ rfl h3]
        unfold pre
        rcases ih _ (by omega) t rfl h3 with ⟨h4, h5⟩ | ⟨h4, h5⟩
        · rw [if_pos (by rw [h4])]
          exact Or.inl ⟨rfl, a, t, rfl, Nat.le_refl _, fun j h1 h2 => by omega, by omega, e, h2, h3, h5⟩
        · rw [if_neg (by rw [h5]; decide)]
          exact Or.inr ⟨h4, h5⟩
/-! ### A text inside another -/
theorem bt_getD (s : ByteArray) (i : Nat) : bt s (i : Int) = ((s.data.toList.getD i 0).toNat : Int) := by
  by_cases h : i < s.size
  · obtain ⟨pre, r, c, hL, hl, hb⟩ := split_at s i h
    rw [hb, hL, ← hl]; simp
  · unfold bt
    rw [dif_neg (by rw [Int.toNat_natCast]; exact h), List.getD_eq_getElem?_getD, List.getElem?_eq_none (by rw [← size_list]; omega)]
    rfl
structure Inside (a z : ByteArray) (P R : List UInt8) : Prop where
  eq : z.data.toList = P ++ (a.data.toList ++ R)
  ends : R = [] ∨ ∃ r, R = 32 :: r
section
variable {a z : ByteArray} {P R : List UInt8}
theorem ins_size (h : Inside a z P R) : z.size = P.length + a.size + R.length := by
  rw [size_list, h.eq, size_list, List.length_append, List.length_append]; omega
theorem ins_bt (h : Inside a z P R) (p : Nat) (hp : p < a.size) : bt z ((P.length + p : Nat) : Int) = bt a (p : Int) := by
  rw [bt_getD, bt_getD, h.eq, List.getD_eq_getElem?_getD, List.getElem?_append_right (by omega), show P.length + p - P.length = p from by omega, List.getElem?_append_left (by rw [← size_list]; exact hp), List.getD_eq_getElem?_getD]
theorem ins_bt_end (h : Inside a z P R) (hz : P.length + a.size < z.size) : bt z ((P.length + a.size : Nat) : Int) = 32 := by
  rcases h.ends with e | ⟨r, e⟩
  · have := (ins_size h); rw [e] at this; simp at this; omega
  · rw [bt_getD, h.eq, List.getD_eq_getElem?_getD, List.getElem?_append_right (by omega), show P.length + a.size - P.length = a.size from by omega, size_list, List.getElem?_append_right (by omega), e]
    simp
theorem ins_extract (h : Inside a z P R) (i j : Nat) (hj : j ≤ a.size) : z.extract (P.length + i) (P.length + j) = a.extract i j := by
  have e : (z.extract (P.length + i) (P.length + j)).data.toList = (a.extract i j).data.toList := by
    rw [extract_list, extract_list, h.eq, show P.length + j - (P.length + i) = j - i from by omega]
    rw [List.drop_append, List.drop_eq_nil_of_le (show P.length ≤ P.length + i by omega), List.nil_append, show P.length + i - P.length = i from by omega]
    by_cases hi : i ≤ a.size
    · rw [List.drop_append_of_le_length (by rw [← size_list]; exact hi), List.take_append_of_le_length (by rw [List.length_drop, ← size_list]; omega)]
    · rw [show j - i = 0 from by omega]; simp
  have e2 : (z.extract (P.length + i) (P.length + j)).data = (a.extract i j).data := Array.toList_inj.mp e
  cases hz : z.extract (P.length + i) (P.length + j); cases ha : a.extract i j
  rw [hz, ha] at e2
  simpa using e2
theorem ins_endP (h : Inside a z P R) : ∀ n i, a.size - i = n → i ≤ a.size → endP z (z.size - (P.length + i)) (P.length + i) = P.length + endP a (a.size - i) i := by
  have hs := (ins_size h)
  intro n
  induction n with
  | zero =>
    intro i h1 h2
    have : i = a.size := by omega
    subst this
    rw [show a.size - a.size = 0 from by omega]
    show _ = P.length + a.size
    by_cases hz : P.length + a.size < z.size
    · rw [show z.size - (P.length + a.size) = (z.size - (P.length + a.size) - 1) + 1 from by omega, endP, (ins_bt_end h) hz]; rfl
    · rw [show z.size - (P.length + a.size) = 0 from by omega]; rfl
  | succ n ih =>
    intro i h1 h2
    rw [show z.size - (P.length + i) = (z.size - (P.length + (i + 1))) + 1 from by omega, show a.size - i = (a.size - (i + 1)) + 1 from by omega, endP, endP, (ins_bt h) i (by omega)]
    split
    · exact ih (i + 1) (by omega) (by omega)
    · rfl
def shT (off : Nat) (x : Tk) : Tk := if x.2.2.2 = 0 then (x.1, x.2.1 + off, x.2.2.1 + off, 0) else x
theorem ins_piece (h : Inside a z P R) (i j : Nat) (hj : j ≤ a.size) : pieceS z (P.length + i) (P.length + j) = shT P.length (pieceS a i j) := by
  unfold pieceS
  rw [(ins_extract h) i j hj]
  split
  · rfl
  · unfold shT; rw [if_pos rfl]; simp [Int.add_comm]
theorem ins_oneIn (h : Inside a z P R) (p : Nat) (hp : p < a.size) : oneIn z (P.length + p) = shT P.length (oneIn a p) := by
  have hs := (ins_size h)
  have hb := (ins_bt h) p hp
  have hE : pieceS z (P.length + p) (endP z (z.size - (P.length + p + 1)) (P.length + p + 1)) = shT P.length (pieceS a p (endP a (a.size - (p + 1)) (p + 1))) := by
    have := (ins_endP h) _ (p + 1) rfl (by omega)
    rw [show P.length + p + 1 = P.length + (p + 1) from by omega, this]
    exact (ins_piece h) p _ (by have := endP_bd a (a.size - (p + 1)) (p + 1); omega)
  -- the byte behind
  have hn : p + 1 < a.size → bt z ((P.length + p + 1 : Nat) : Int) = bt a ((p + 1 : Nat) : Int) := fun h1 => (ins_bt h) (p + 1) h1
  have hn2 : ¬ p + 1 < a.size → P.length + p + 1 < z.size → bt z ((P.length + p + 1 : Nat) : Int) = 32 := fun h1 h2 => by
    have e : P.length + p + 1 = P.length + a.size := by omega
    rw [e] at h2 ⊢; exact (ins_bt_end h) h2
  unfold oneIn
  rw [hb]
  split
  · rfl
  · split
    · by_cases h1 : p + 1 < a.size
      · rw [hn h1]
        by_cases h2 : 48 ≤ bt a ((p + 1 : Nat) : Int) ∧ bt a ((p + 1 : Nat) : Int) ≤ 57
        · rw [if_pos ⟨by omega, h2⟩, if_pos ⟨h1, h2⟩]; exact hE
        · rw [if_neg (fun e => h2 e.2), if_neg (fun e => h2 e.2)]; rfl
      · rw [if_neg (fun e => by have := hn2 h1 e.1; omega), if_neg (fun e => h1 e.1)]; rfl
    · split
      · exact hE
      · unfold signS
        rw [hb]
        split
        · unfold shT; rw [if_pos rfl]; simp only [Prod.mk.injEq]; refine ⟨trivial, by omega, by omega, trivial⟩
        · by_cases h1 : p + 1 < a.size
          · rw [hn h1]
            by_cases h2 : (bt a (p : Int) = 33 ∧ p + 1 < a.size ∧ bt a ((p + 1 : Nat) : Int) = 61) ∨ (bt a (p : Int) = 58 ∧ p + 1 < a.size ∧ bt a ((p + 1 : Nat) : Int) = 45)
            · rw [if_pos (by omega), if_pos h2]
              unfold shT; rw [if_pos rfl]; simp only [Prod.mk.injEq]; refine ⟨trivial, by omega, by omega, trivial⟩
            · rw [if_neg (by omega), if_neg h2]; rfl
          · by_cases h2 : P.length + p + 1 < z.size
            · have := hn2 h1 h2
              rw [if_neg (by omega), if_neg (by omega)]; rfl
            · rw [if_neg (by omega), if_neg (by omega)]; rfl
def sh (off : Nat) (x : S32) : S32 := ⟨x.f0, x.f1 + off, x.f2 + off⟩
theorem ins_all (h : Inside a z P R) : ∀ n p out, a.size - p = n → p ≤ a.size →
    allT z out (P.length + p) = if (allT a [] p).2.2 = 0 then allT z (out ++ (allT a [] p).1.map (sh P.length)) (P.length + a.size) else ([], (P.length : Int) + (allT a [] p).2.1, (allT a [] p).2.2) := by
  have hs := (ins_size h)
  intro n
  induction n using Nat.strongRecOn with
  | _ n ih =>
    intro p out hn hp
    by_cases he : p = a.size
    · rw [he, allT_end, if_pos rfl]; simp
    · have ho := (ins_oneIn h) p (by omega)
      rcases oneIn_ok a p (by omega) with e | e | ⟨kd, t, e, h2, h3⟩
      · rw [e] at ho
        rw [allT_blank z out _ (by omega) ho, allT_blank a [] p (by omega) e]
        exact ih _ (by omega) (p + 1) out rfl (by omega)
      · rw [e] at ho
        rw [allT_wrong z out _ (by omega) ho, allT_wrong a [] p (by omega) e, if_neg (show ¬ ((5 : Int) = 0) by decide)]
        simp only [Prod.mk.injEq, and_true, true_and]
        omega
      · rw [e] at ho
        have ho' : oneIn z (P.length + p) = (kd, ((P.length + p : Nat) : Int), ((P.length + t : Nat) : Int), 0) := by
          rw [ho]; unfold shT; rw [if_pos rfl]; simp only [Prod.mk.injEq]; refine ⟨trivial, by omega, by omega, trivial⟩
        rw [allT_tok z out _ (P.length + t) kd (by omega) ho' (by omega) (by omega), ih _ (by omega) t _ rfl h3, allT_tok a [] p t kd (by omega) e h2 h3, allT_pre a _ t ([] ++ [(⟨kd, (p : Int), (t : Int)⟩ : S32)]) rfl h3]
        unfold pre
        by_cases h0 : (allT a [] t).2.2 = 0
        · rw [if_pos h0, if_pos h0, if_pos rfl]
          congr 1
          simp [sh, Int.add_comm]
        · rw [if_neg h0, if_neg h0, if_neg h0]
end
theorem sh0 (l : List S32) : l.map (sh 0) = l := by
  have : sh 0 = id := by funext x; cases x; simp [sh]
  rw [this]; simp
/-- Two texts with a blank between. -/
theorem all_join (a b z : ByteArray) (hz : z.data.toList = a.data.toList ++ (32 :: b.data.toList)) :
    allT z [] 0 = if (allT a [] 0).2.2 = 0 then (if (allT b [] 0).2.2 = 0 then ((allT a [] 0).1 ++ (allT b [] 0).1.map (sh (a.size + 1)), 0, 0) else ([], ((a.size + 1 : Nat) : Int) + (allT b [] 0).2.1, (allT b [] 0).2.2)) else ([], (allT a [] 0).2.1, (allT a [] 0).2.2) := by
  have ia : Inside a z [] (32 :: b.data.toList) := ⟨by rw [hz]; rfl, Or.inr ⟨_, rfl⟩⟩
  have ib : Inside b z (a.data.toList ++ [32]) [] := ⟨by rw [hz]; simp, Or.inl rfl⟩
  have hl : (a.data.toList ++ [32]).length = a.size + 1 := by rw [List.length_append, ← size_list]; rfl
  have hsz : z.size = a.size + 1 + b.size := by rw [(ins_size ib), hl]; rfl
  have h1 := (ins_all ia) _ 0 [] rfl (by omega)
  rw [List.length_nil, Nat.zero_add, Nat.zero_add, List.nil_append, sh0] at h1
  rw [h1]
  by_cases h0 : (allT a [] 0).2.2 = 0
  · rw [if_pos h0, if_pos h0]
    have hb : oneIn z a.size = (0, 0, 0, 4) := by
      have := (ins_bt_end ia) (by rw [List.length_nil]; omega)
      rw [List.length_nil, Nat.zero_add] at this
      unfold oneIn; rw [if_pos (Or.inl this)]
    rw [allT_blank z _ a.size (by omega) hb]
    have h2 := (ins_all ib) _ 0 (allT a [] 0).1 rfl (by omega)
    rw [hl, Nat.add_zero] at h2
    rw [h2]
    by_cases h3 : (allT b [] 0).2.2 = 0
    · rw [if_pos h3, if_pos h3, ← hsz, allT_end]
    · rw [if_neg h3, if_neg h3]
  · rw [if_neg h0, if_neg h0]; simp
end Go.Proofs.Ytbhcdbmhgocojaa.Pure
