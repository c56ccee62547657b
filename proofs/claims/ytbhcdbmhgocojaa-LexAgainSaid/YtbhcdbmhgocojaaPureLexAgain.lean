/-
  The tokens of a text, written with one blank between, are the same tokens again.
-/
import Derived.Test.YtbhcdbmhgocojaaPAx19
import Derived.Test.YtbhcdbmhgocojaaLexSpec
namespace Go.Proofs.Ytbhcdbmhgocojaa.Pure
open Go.RowKit Go.Proofs.Ytbhcdbmhgocojaa.PA Go.Proofs.YtbhcdbmhgocojaaW.PrintWords Go.Proofs.YtbhcdbmhgocojaaW.PrintLast
set_option linter.unusedVariables false
set_option linter.unusedSimpArgs false

theorem ext_eq {x y : ByteArray} (h : x.data.toList = y.data.toList) : x = y := by
  have e : x.data = y.data := Array.toList_inj.mp h
  cases x; cases y; simpa using e
theorem endP_all (s : ByteArray) : ∀ d i j, i ≤ j → j < endP s d i → letterB (bt s (j : Int)) = true := by
  intro d
  induction d with
  | zero => intro i j h1 h2; rw [endP] at h2; omega
  | succ d ih =>
    intro i j h1 h2
    rw [endP] at h2
    by_cases hl : letterB (bt s (i : Int)) = true
    · rw [if_pos hl] at h2
      by_cases h : j = i
      · rw [h]; exact hl
      · exact ih (i + 1) j (by omega) h2
    · rw [if_neg hl] at h2; omega
theorem endP_full (s : ByteArray) : ∀ d i, i + d = s.size → (∀ j, i ≤ j → j < s.size → letterB (bt s (j : Int)) = true) → endP s d i = s.size := by
  intro d
  induction d with
  | zero => intro i h _; rw [endP]; omega
  | succ d ih =>
    intro i h hl
    rw [endP, if_pos (hl i (Nat.le_refl _) (by omega))]
    exact ih (i + 1) (by omega) (fun j h1 h2 => hl j (by omega) h2)
theorem piece_size (s : ByteArray) (b t : Nat) (h : b ≤ t) (ht : t ≤ s.size) : (s.extract b t).size = t - b := by
  rw [ByteArray.size_extract]; omega
theorem piece_bt (s : ByteArray) (b t : Nat) (ht : t ≤ s.size) (i : Nat) (hi : b + i < t) : bt (s.extract b t) (i : Int) = bt s ((b + i : Nat) : Int) := by
  rw [bt_getD, bt_getD, extract_list]
  simp only [List.getD_eq_getElem?_getD, List.getElem?_take, List.getElem?_drop]
  rw [if_pos (by omega)]
theorem piece_all (p : ByteArray) : p.extract 0 p.size = p := ext_eq (by rw [extract_list, List.drop_zero, Nat.sub_zero]; exact List.take_of_length_le (by rw [← size_list]; exact Nat.le_refl _))
/-- A token's own text is that token again. -/
theorem tok_alone (s : ByteArray) (b t : Nat) (k : Int) (hb : b < s.size) (e : oneIn s b = (k, (b : Int), (t : Int), 0)) (h2 : b < t) (h3 : t ≤ s.size) :
    oneIn (s.extract b t) 0 = (k, ((0 : Nat) : Int), ((t - b : Nat) : Int), 0) := by
  have hsz := piece_size s b t (by omega) h3
  have b0 : bt (s.extract b t) ((0 : Nat) : Int) = bt s (b : Int) := piece_bt s b t h3 0 (by omega)
  have pc : ∀ d, pieceS s b (endP s d (b + 1)) = (k, (b : Int), (t : Int), 0) → endP s d (b + 1) = t ∧ endP (s.extract b t) ((s.extract b t).size - (0 + 1)) (0 + 1) = t - b ∧ kindS (s.extract b t) = k ∧ k ≠ 0 := by
    intro d hp
    unfold pieceS at hp
    by_cases h0 : kindS (s.extract b (endP s d (b + 1))) = 0
    · rw [if_pos h0] at hp; have := congrArg (fun z => z.2.2.2) hp; simp at this
    · rw [if_neg h0] at hp
      simp only [Prod.mk.injEq, and_true] at hp
      obtain ⟨hk, _, ht⟩ := hp
      have ht : endP s d (b + 1) = t := by omega
      rw [ht] at hk h0
      refine ⟨ht, ?_, hk, by rw [← hk]; exact h0⟩
      rw [endP_full (s.extract b t) ((s.extract b t).size - (0 + 1)) (0 + 1) (by omega) (fun j h1 h2 => by rw [hsz] at h2; rw [piece_bt s b t h3 j (by omega)]; exact endP_all s d (b + 1) (b + j) (by omega) (by omega)), hsz]
  have fin : k ≠ 0 → kindS (s.extract b t) = k → pieceS (s.extract b t) 0 (t - b) = (k, ((0 : Nat) : Int), ((t - b : Nat) : Int), 0) := by
    intro hk0 hk
    unfold pieceS
    rw [show t - b = (s.extract b t).size from hsz.symm, piece_all, hk, if_neg hk0]
  have k5 : ∀ {x : Int}, ((0 : Int), (0 : Int), (0 : Int), x) = (k, (b : Int), (t : Int), 0) → x = 0 := fun h => congrArg (fun z => z.2.2.2) h
  unfold oneIn at e ⊢
  rw [b0]
  by_cases h4 : bt s (b : Int) = 32 ∨ bt s (b : Int) = 9
  · rw [if_pos h4] at e; exact absurd (k5 e) (by decide)
  · rw [if_neg h4] at e ⊢
    by_cases h5 : bt s (b : Int) = 45
    · rw [if_pos h5] at e ⊢
      by_cases h6 : b + 1 < s.size ∧ 48 ≤ bt s ((b + 1 : Nat) : Int) ∧ bt s ((b + 1 : Nat) : Int) ≤ 57
      · rw [if_pos h6] at e
        obtain ⟨q1, q2, q3, q4⟩ := pc _ e
        have hl : letterB (bt s ((b + 1 : Nat) : Int)) = true := by unfold letterB; exact decide_eq_true (by omega)
        have : b + 2 ≤ t := by
          rw [← q1, show s.size - (b + 1) = (s.size - (b + 2)) + 1 from by omega, endP, if_pos hl]
          exact (endP_bd s _ (b + 1 + 1)).1
        have b1 := piece_bt s b t h3 1 (by omega)
        rw [if_pos ⟨by omega, by rw [Nat.zero_add, b1]; exact h6.2.1, by rw [Nat.zero_add, b1]; exact h6.2.2⟩, q2]
        exact fin q4 q3
      · rw [if_neg h6] at e; exact absurd (k5 e) (by decide)
    · rw [if_neg h5] at e ⊢
      by_cases h6 : letterB (bt s (b : Int)) = true
      · rw [if_pos h6] at e ⊢
        obtain ⟨q1, q2, q3, q4⟩ := pc _ e
        rw [q2]; exact fin q4 q3
      · rw [if_neg h6] at e ⊢
        unfold signS at e ⊢
        rw [b0]
        by_cases h7 : bt s (b : Int) = 40 ∨ bt s (b : Int) = 41 ∨ bt s (b : Int) = 44 ∨ bt s (b : Int) = 46 ∨ bt s (b : Int) = 60
        · rw [if_pos h7] at e ⊢
          simp only [Prod.mk.injEq, and_true] at e
          have : t = b + 1 := by omega
          rw [← e.1, this, show b + 1 - b = 0 + 1 from by omega]
        · rw [if_neg h7] at e ⊢
          by_cases h8 : (bt s (b : Int) = 33 ∧ b + 1 < s.size ∧ bt s ((b + 1 : Nat) : Int) = 61) ∨ (bt s (b : Int) = 58 ∧ b + 1 < s.size ∧ bt s ((b + 1 : Nat) : Int) = 45)
          · rw [if_pos h8] at e
            simp only [Prod.mk.injEq, and_true] at e
            have : t = b + 2 := by omega
            have b1 := piece_bt s b t h3 1 (by omega)
            rw [if_pos (by rw [Nat.zero_add, b1]; omega), ← e.1, this, show b + 2 - b = 0 + 2 from by omega]
          · rw [if_neg h8] at e; exact absurd (k5 e) (by decide)
theorem all_alone (s : ByteArray) (b t : Nat) (k : Int) (hb : b < s.size) (e : oneIn s b = (k, (b : Int), (t : Int), 0)) (h2 : b < t) (h3 : t ≤ s.size) :
    allT (s.extract b t) [] 0 = ([⟨k, ((0 : Nat) : Int), ((t - b : Nat) : Int)⟩], 0, 0) := by
  have hsz := piece_size s b t (by omega) h3
  rw [allT_tok (s.extract b t) [] 0 (t - b) k (by omega) (tok_alone s b t k hb e h2 h3) (by omega) (by omega), ← hsz, allT_end]
  rfl
def txt (s : ByteArray) (x : S32) : Int × List UInt8 := (x.f0, (s.extract x.f1.toNat x.f2.toNat).data.toList)
def Fit (s : ByteArray) (x : S32) : Prop := ∃ b t : Nat, x.f1 = b ∧ x.f2 = t ∧ b ≤ t ∧ t ≤ s.size
theorem tok_fit (s : ByteArray) : ∀ (l : List S32) (a : Nat), TokL s a l → ∀ x ∈ l, Fit s x := by
  intro l
  induction l with
  | nil => intro a _ x h; cases h
  | cons y l ih =>
    intro a hT x hx
    obtain ⟨b, t, h1, _, _, _, _, h6, h7, h8⟩ := hT
    rcases List.mem_cons.mp hx with rfl | hx
    · exact ⟨b, t, by rw [h1], by rw [h1], by omega, h7⟩
    · exact ih t h8 x hx
theorem again_l1 (s t : ByteArray) (hs : s.size ≤ 4096) (ht : t.size ≤ 4096) : ∀ (l2 m2 l1 m1 : List S32), l1.length = m1.length → l1.length + l2.length ≤ 100000 → m2.map (txt t) = l2.map (txt s) → (∀ x ∈ m2, Fit t x) → (∀ x ∈ l2, Fit s x) →
    Ev (fun k => mandatelaw05_LexAgain.l1 k s (l1 ++ l2) t (m1 ++ m2) (l1.length : Int)) true := by
  intro l2
  induction l2 with
  | nil =>
    intro m2 l1 m1 h1 h2 _ _ _
    exact Ev.step (f := fun _ => some true) (fun k => by simp only [mandatelaw05_LexAgain.l1]; rw [if_neg (by simp)]) (Ev.const _)
  | cons y l2 ih =>
    intro m2 l1 m1 h1 h2 hm hfm hfl
    cases m2 with
    | nil => simp at hm
    | cons x m2 =>
      rw [List.map_cons, List.map_cons] at hm
      obtain ⟨hxy, hm⟩ := List.cons.inj hm
      obtain ⟨b, e, q1, q2, q3, q4⟩ := hfm x (List.mem_cons_self ..)
      obtain ⟨b', e', q1', q2', q3', q4'⟩ := hfl y (List.mem_cons_self ..)
      have hr1 : rd_T32 (l1 ++ y :: l2) (l1.length : Int) = y := by unfold rd_T32; simp
      have hr2 : rd_T32 (m1 ++ x :: m2) (l1.length : Int) = x := by unfold rd_T32; rw [h1]; simp
      have := ih m2 (l1 ++ [y]) (m1 ++ [x]) (by simp [h1]) (by rw [List.length_append, List.length_singleton]; rw [List.length_cons] at h2; omega) hm (fun z hz => hfm z (List.mem_cons_of_mem _ hz)) (fun z hz => hfl z (List.mem_cons_of_mem _ hz))
      rw [List.append_assoc, List.singleton_append, List.append_assoc, List.singleton_append, List.length_append, List.length_singleton] at this
      refine Ev.step (fun k => ?_) this
      have hl : ((l1 ++ y :: l2).length : Int) = (l1.length : Int) + (l2.length : Int) + 1 := by rw [List.length_append, List.length_cons]; omega
      have hl2 : ((m1 ++ x :: m2).length : Int) = (l1.length : Int) + (m2.length : Int) + 1 := by rw [List.length_append, List.length_cons]; omega
      rw [List.length_cons] at h2
      have hxy0 : x.f0 = y.f0 := congrArg Prod.fst hxy
      have hxy1 : (t.extract x.f1.toNat x.f2.toNat).data.toList = (s.extract y.f1.toNat y.f2.toNat).data.toList := congrArg Prod.snd hxy
      simp only [mandatelaw05_LexAgain.l1]
      rw [hl, hl2, hr1, hr2, if_pos (by omega), if_pos (by omega), if_pos (by omega), if_pos hxy0, if_pos (by omega), if_pos (by omega), if_pos (by omega), if_pos (by omega), if_pos (by omega), if_pos (by omega), if_pos (by rw [ByteArray.toList_eq, ByteArray.toList_eq]; exact hxy1), up1 _ (by omega)]
theorem again_l0 (s : ByteArray) (hs : s.size ≤ 2000) : ∀ (l p m : List S32) (t : ByteArray) (a : Nat), TokL s a l → a ≤ s.size → p.length ≤ a → t.size ≤ a + p.length → (p = [] → t.size = 0) → allT t [] 0 = (m, 0, 0) → m.map (txt t) = p.map (txt s) → (∀ x ∈ m, Fit t x) → (∀ x ∈ p, Fit s x) →
    Ev (fun k => mandatelaw05_LexAgain.l0 k s (p ++ l) t (p.length : Int)) true := by
  intro l
  induction l with
  | nil =>
    intro p m t a hT ha hp ht h0 hA hM hF hP
    refine Ev.step (f := fun k => ((lex_All.f k t).bind fun b => (if b.2.2 = 0 then (mandatelaw05_LexAgain.j2 k s (p ++ []) t b.1 ((b.1.length : Int) != ((p ++ []).length : Int))) else (mandatelaw05_LexAgain.j2 k s (p ++ []) t b.1 true)))) (fun k => by simp only [mandatelaw05_LexAgain.l0]; rw [if_neg (by simp)]) ?_
    refine Ev.bind (all_ev t) ?_
    rw [allS_T t (by omega), hA]
    have hl : m.length = p.length := by have := congrArg List.length hM; simpa using this
    refine Ev.congr (f := fun k => mandatelaw05_LexAgain.j2 k s (p ++ []) t m false) (fun k => by dsimp only; rw [if_pos rfl]; congr 1; simp [hl]) ?_
    refine Ev.step (f := fun k => mandatelaw05_LexAgain.l1 k s (p ++ []) t m 0) (fun k => by simp only [mandatelaw05_LexAgain.j2]; rw [if_neg (by decide)]) ?_
    rw [List.append_nil]
    exact again_l1 s t (by omega) (by omega) p m [] [] rfl (by simp; omega) hM hF hP
  | cons x l ih =>
    intro p m t a hT ha hp ht h0 hA hM hF hP
    obtain ⟨b, e, hx, hab, hB, hbs, he, hbt, hts, hT'⟩ := hT
    have f1 : x.f1 = (b : Int) := by rw [hx]
    have f2 : x.f2 = (e : Int) := by rw [hx]
    have hr : rd_T32 (p ++ x :: l) (p.length : Int) = x := by unfold rd_T32; simp
    have hl : ((p ++ x :: l).length : Int) = (p.length : Int) + (l.length : Int) + 1 := by rw [List.length_append, List.length_cons]; omega
    have hsz := piece_size s b e (by omega) hts
    have hal := all_alone s b e x.f0 hbs he hbt hts
    have hfx : Fit s x := ⟨b, e, f1, f2, by omega, hts⟩
    have htx : txt s x = (x.f0, (s.extract b e).data.toList) := by unfold txt; rw [f1, f2, Int.toNat_natCast, Int.toNat_natCast]
    have hPx : ∀ y ∈ p ++ [x], Fit s y := fun y hy => by
      rcases List.mem_append.mp hy with h | h
      · exact hP y h
      · rw [List.mem_singleton.mp h]; exact hfx
    cases p with
    | nil =>
      have ht0 : t.size = 0 := h0 rfl
      have hte : t = (⟨#[]⟩ : ByteArray) := ext_eq (by rw [size_list] at ht0; rw [List.eq_nil_of_length_eq_zero ht0])
      subst hte
      have happ : (⟨#[]⟩ : ByteArray) ++ s.extract b e = s.extract b e := ext_eq (by rw [append_list]; simp)
      have := ih [x] [⟨x.f0, ((0 : Nat) : Int), ((e - b : Nat) : Int)⟩] (s.extract b e) e hT' hts (by simp; omega) (by rw [hsz]; simp; omega) (by simp) hal (by
          rw [List.map_singleton, List.map_singleton, htx]
          unfold txt
          rw [Int.toNat_natCast, Int.toNat_natCast, ← hsz, piece_all]) (fun y hy => by
          rw [List.mem_singleton.mp hy]; exact ⟨0, e - b, rfl, rfl, by omega, by omega⟩) (fun y hy => by rw [List.mem_singleton.mp hy]; exact hfx)
      refine Ev.step (fun k => ?_) this
      simp only [mandatelaw05_LexAgain.l0]
      rw [hl, hr, f1, f2, if_pos (by omega), if_neg (by simp), if_pos (by simp), if_pos (by omega), if_pos (by omega), if_pos (by omega), Int.toNat_natCast, Int.toNat_natCast, hsz, if_pos (by show (0 : Nat) + _ ≤ _; omega), happ, up1 _ (by simp)]
      rfl
    | cons y p =>
      have hz : ((t ++ (⟨#[32]⟩ : ByteArray)) ++ s.extract b e).data.toList = t.data.toList ++ (32 :: (s.extract b e).data.toList) := by
        rw [append_list, append_list]; simp
      have hj := all_join t (s.extract b e) _ hz
      rw [hA, hal] at hj
      have ia : Inside t ((t ++ (⟨#[32]⟩ : ByteArray)) ++ s.extract b e) [] (32 :: (s.extract b e).data.toList) := ⟨by rw [hz]; rfl, Or.inr ⟨_, rfl⟩⟩
      have ib : Inside (s.extract b e) ((t ++ (⟨#[32]⟩ : ByteArray)) ++ s.extract b e) (t.data.toList ++ [32]) [] := ⟨by rw [hz]; simp, Or.inl rfl⟩
      have hlb : (t.data.toList ++ [32]).length = t.size + 1 := by rw [List.length_append, ← size_list]; rfl
      have hzs := ins_size ib
      rw [hlb, List.length_nil, hsz] at hzs
      have := ih (y :: p ++ [x]) (m ++ [sh (t.size + 1) ⟨x.f0, ((0 : Nat) : Int), ((e - b : Nat) : Int)⟩]) ((t ++ (⟨#[32]⟩ : ByteArray)) ++ s.extract b e) e hT' hts (by rw [List.length_append, List.length_singleton]; omega) (by rw [hzs, List.length_append, List.length_singleton]; omega) (by simp) (by rw [hj]; rfl) (by
          rw [List.map_append, List.map_append, List.map_singleton, List.map_singleton, htx, ← hM]
          congr 1
          · apply List.map_congr_left
            intro z hz'
            obtain ⟨b1, e1, q1, q2, q3, q4⟩ := hF z hz'
            unfold txt
            rw [q1, q2, Int.toNat_natCast, Int.toNat_natCast]
            have := ins_extract ia b1 e1 q4
            rw [List.length_nil, Nat.zero_add, Nat.zero_add] at this
            rw [this]
          · have := ins_extract ib 0 (e - b) (by omega)
            rw [hlb, Nat.add_zero] at this
            have hp : (s.extract b e).extract 0 (e - b) = s.extract b e := by
              have := piece_all (s.extract b e); rw [hsz] at this; exact this
            unfold txt sh
            dsimp only
            rw [show (((0 : Nat) : Int) + ((t.size + 1 : Nat) : Int)).toNat = t.size + 1 from by omega, show (((e - b : Nat) : Int) + ((t.size + 1 : Nat) : Int)).toNat = t.size + 1 + (e - b) from by omega, this, hp]) (fun z hz' => by
          rcases List.mem_append.mp hz' with h | h
          · obtain ⟨b1, e1, q1, q2, q3, q4⟩ := hF z h
            exact ⟨b1, e1, q1, q2, q3, by omega⟩
          · rw [List.mem_singleton.mp h]
            exact ⟨t.size + 1, t.size + 1 + (e - b), by simp [sh], by simp [sh]; omega, by omega, by omega⟩) hPx
      rw [List.append_assoc, List.singleton_append, List.length_append, List.length_singleton] at this
      refine Ev.step (fun k => ?_) this
      simp only [mandatelaw05_LexAgain.l0]
      have hpl : ((y :: p).length : Int) = (p.length : Int) + 1 := by rw [List.length_cons]; rfl
      have hs1 : (t ++ (⟨#[32]⟩ : ByteArray)).size = t.size + 1 := by rw [append_size]; rfl
      rw [List.length_cons] at hp ht
      rw [hl, hr, f1, f2, if_pos (by omega), if_pos (by omega), if_pos (by omega), if_pos (by omega), if_pos (by omega), if_pos (by omega), if_pos (by omega), Int.toNat_natCast, Int.toNat_natCast, hsz, hs1, if_pos (by omega), up1 _ (by rw [List.length_cons]; omega)]
theorem LexAgain : mandatelaw05_LexAgain.Pure := by
  intro s hs
  refine Ev.rounds (g := fun k => mandatelaw05_LexAgain.f k s) ?_
  refine Ev.congr (fun k => by simp only [mandatelaw05_LexAgain.f]; rfl) (Ev.bind fixed_ev ?_)
  have jt : ∀ l, Ev (fun k => mandatelaw05_LexAgain.j0 k s l true) true := fun l => Ev.step (f := fun _ => some true) (fun k => by simp only [mandatelaw05_LexAgain.j0]; rw [if_pos trivial]) (Ev.const _)
  refine Ev.congr (f := fun k => (lex_All.f k s).bind fun b => if b.2.2 = 0 then mandatelaw05_LexAgain.j0 k s b.1 (decide ((s.size : Int) > 2000)) else mandatelaw05_LexAgain.j0 k s b.1 true) (fun k => by rw [if_pos rfl]) ?_
  refine Ev.bind (all_ev s) ?_
  by_cases h : s.size ≤ 2000
  · rw [allS_T s (by omega)]
    rcases allT_L s _ 0 rfl (by omega) with ⟨h1, h2⟩ | ⟨h1, h2⟩
    · refine Ev.congr (f := fun k => mandatelaw05_LexAgain.j0 k s (allT s [] 0).1 false) (fun k => by rw [if_pos (by rw [h1]), decide_eq_false (by omega)]) ?_
      refine Ev.step (f := fun k => mandatelaw05_LexAgain.l0 k s (allT s [] 0).1 (⟨#[]⟩ : ByteArray) 0) (fun k => by simp only [mandatelaw05_LexAgain.j0]; rw [if_neg (by decide)]) ?_
      exact again_l0 s h _ [] [] (⟨#[]⟩ : ByteArray) 0 h2 (by omega) (by simp) (Nat.le_refl _) (fun _ => rfl) rfl rfl (fun _ h => by cases h) (fun _ h => by cases h)
    · exact Ev.congr (fun k => by rw [if_neg (by rw [h2]; decide)]) (jt _)
  · by_cases h0 : (allS s).2.2 = 0
    · exact Ev.congr (fun k => by rw [if_pos h0, decide_eq_true (by omega)]) (jt _)
    · exact Ev.congr (fun k => by rw [if_neg h0]) (jt _)
end Go.Proofs.Ytbhcdbmhgocojaa.Pure
