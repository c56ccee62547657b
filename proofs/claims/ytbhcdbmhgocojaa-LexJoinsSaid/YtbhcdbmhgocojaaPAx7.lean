/- Go functions told as plain functions, and that the program's calls come to just these, for all arguments. Written by the session's own program wip/tools/myprint.py (it drives the kit's printer). -/
import Derived.Test.YtbhcdbmhgocojaaPAx0
import Derived.Test.YtbhcdbmhgocojaaPAx2
import Derived.Test.YtbhcdbmhgocojaaPAx6
namespace Go.Proofs.Ytbhcdbmhgocojaa.PA
open Go.RowKit Go.Proofs.YtbhcdbmhgocojaaW.PrintWords Go.Proofs.YtbhcdbmhgocojaaW.PrintLast Go.Proofs.YtbhcdbmhgocojaaW.PrintMore
attribute [local go_sem] max2_int min2_int max_two min_two max_three min_three max_four min_four   -- for this text's walks alone
set_option linter.unusedVariables false
set_option linter.unusedSimpArgs false

/-! ### lex_One: function 13 -/
-- lex.One: its labels by one law (wp_scope_labels): what holds at each jump, and a number that each jump lowers
def Exit_jumps (J : Nat → Act → World → Prop) (Q : Exit → Act → World → Prop) : Exit → Act → World → Prop
  | .goto l, a, w => J l a w
  | e, a, w => Q e a w
section
variable {P : Program} {a : Act} {w : World} {Q : Exit → Act → World → Prop}
theorem wp_scope_labels {c : Code} (J : Nat → Nat → Act → World → Prop)
    (first : c.wp P (Exit_jumps (fun l a w => ∃ n, J l n a w) Q) a w)
    (pass : ∀ l n a w, J l n a w → ∃ rest, findLabel c l = some rest ∧ rest.wp P (Exit_jumps (fun l' a' w' => ∃ m, m < n ∧ J l' m a' w') Q) a w) : (Code.scope c).wp P Q a w := by
  intro b k cs
  have key : ∀ n l a w, J l n a w → ∃ rest, findLabel c l = some rest ∧ ∃ e a' w', Q e a' w' ∧ Arrives P (lone (b.at a (.code rest :: .inScope c :: k)) cs w) b k cs e a' w' := by
    intro n
    induction n using Nat.strongRecOn with
    | _ n ih =>
      intro l a w hJ
      obtain ⟨rest, hf, hp⟩ := pass l n a w hJ
      refine ⟨rest, hf, ?_⟩
      obtain ⟨e, a₁, w₁, hq, harr⟩ := hp b (.inScope c :: k) cs
      cases e with
      | normal => exact ⟨.normal, a₁, w₁, hq, Steps.trans harr (.one step_inScope)⟩
      | exit id => exact ⟨.exit id, a₁, w₁, hq, fun k' hk => harr k' (by simp [exitTo, hk])⟩
      | goto l' =>
        obtain ⟨m, hlt, hJ'⟩ := hq
        obtain ⟨rest', hf', e₂, a₂, w₂, hq₂, harr₂⟩ := ih m hlt l' a₁ w₁ hJ'
        have hg : gotoIn l' (.inScope c :: k) = some (.code rest' :: .inScope c :: k) := by simp [gotoIn, hf']
        exact ⟨e₂, a₂, w₂, hq₂, .of_steps (harr _ hg) harr₂⟩
      | ret => exact ⟨_, a₁, w₁, hq, harr⟩
      | panic ch => exact ⟨_, a₁, w₁, hq, harr⟩
      | outgrown => exact ⟨_, a₁, w₁, hq, harr⟩
  obtain ⟨e, a₁, w₁, hq, harr⟩ := first b (.inScope c :: k) cs
  cases e with
  | normal => exact ⟨.normal, a₁, w₁, hq, .head step_scope (Steps.trans harr (.one step_inScope))⟩
  | exit id => exact ⟨.exit id, a₁, w₁, hq, fun k' hk => .head step_scope (harr k' (by simp [exitTo, hk]))⟩
  | goto l' =>
    obtain ⟨n, hJ'⟩ := hq
    obtain ⟨rest', hf', e₂, a₂, w₂, hq₂, harr₂⟩ := key n l' a₁ w₁ hJ'
    have hg : gotoIn l' (.inScope c :: k) = some (.code rest' :: .inScope c :: k) := by simp [gotoIn, hf']
    exact ⟨e₂, a₂, w₂, hq₂, .of_steps (.head step_scope (harr _ hg)) harr₂⟩
  | ret => exact ⟨_, a₁, w₁, hq, .of_steps (.one step_scope) harr⟩
  | panic ch => exact ⟨_, a₁, w₁, hq, .of_steps (.one step_scope) harr⟩
  | outgrown => exact ⟨_, a₁, w₁, hq, .of_steps (.one step_scope) harr⟩
end

def lex_One.piece : Nat → ByteArray → Int → Int → Option (Int × Int × Int × Int)
  | 0, _, _, _ => none
  | k + 1, s, at_, to_ => if to_ < (s.size : Int) then ((lex_letter.f (bt s to_)).bind fun b => if b = true then lex_One.piece k s at_ (to_ + 1) else (lex_sort.f k (s.extract at_.toNat to_.toNat)).bind fun kd => if kd = 0 then some (0, 0, 0, 5) else some (kd, at_, to_, 0))
    else (lex_sort.f k (s.extract at_.toNat to_.toNat)).bind fun kd => if kd = 0 then some (0, 0, 0, 5) else some (kd, at_, to_, 0)
def lex_One.sign (s : ByteArray) (at_ c : Int) : Option (Int × Int × Int × Int) :=
  if c = 40 ∨ c = 41 ∨ c = 44 ∨ c = 46 ∨ c = 60 then some (4, at_, at_ + 1, 0)
  else if (c = 33 ∧ at_ + 1 < (s.size : Int) ∧ bt s (at_ + 1) = 61) ∨ (c = 58 ∧ at_ + 1 < (s.size : Int) ∧ bt s (at_ + 1) = 45) then some (4, at_, at_ + 1 + 1, 0)
  else some (0, 0, 0, 5)
def lex_One.at_ (k : Nat) (s : ByteArray) (at_ c : Int) : Option (Int × Int × Int × Int) :=
  if c = 32 ∨ c = 9 then some (0, 0, 0, 4)
  else if c = 45 then (if at_ + 1 < (s.size : Int) ∧ 48 ≤ bt s (at_ + 1) ∧ bt s (at_ + 1) ≤ 57 then lex_One.piece k s at_ (at_ + 1) else some (0, 0, 0, 5))
  else (lex_letter.f c).bind fun b => if b = true then lex_One.piece k s at_ (at_ + 1) else lex_One.sign s at_ c
def lex_One.f (k : Nat) (s : ByteArray) (at_ : Int) : Option (Int × Int × Int × Int) :=
  if at_ < 0 ∨ (s.size : Int) ≤ at_ then some (0, 0, 0, 1) else if (s.size : Int) ≤ 9223372036854775807 then lex_One.at_ k s at_ (bt s at_) else none

def OneA (s : ByteArray) (at_ c : Int) (gb g6 : Nat) (U : Nat → Value) : Act := { tmps := #[.string s, .int .i64 at_, U 2, U 3, .pointer (some ⟨gb, 0, none⟩), U 5, .pointer (some ⟨g6, 0, none⟩), .int .u8 c, U 8, U 9, U 10, U 11, U 12, U 13, U 14, U 15, U 16, U 17, U 18, U 19, U 20, U 21, U 22, U 23, U 24, U 25, U 26, U 27, U 28, U 29, U 30, U 31, U 32, U 33, U 34, U 35, U 36, U 37, U 38, U 39, U 40, U 41, U 42, U 43, U 44, U 45, U 46, U 47, U 48, U 49, U 50, U 51, U 52, U 53, U 54, U 55, U 56, U 57, U 58, U 59, U 60, U 61, U 62, U 63, U 64, U 65, U 66, U 67, U 68, U 69, U 70, U 71, U 72, U 73, U 74, U 75, U 76, U 77, U 78, U 79, U 80, U 81, U 82, U 83, U 84, U 85, U 86, U 87, U 88, U 89, U 90, U 91, U 92, U 93, U 94, U 95, U 96, U 97, U 98, U 99, U 100, U 101, U 102, U 103, U 104, U 105, U 106, U 107, U 108, U 109, U 110, U 111, U 112, U 113, U 114, U 115, U 116, U 117, U 118, U 119, U 120, U 121, U 122, U 123], defers := [] }
def OneFr (s : ByteArray) (at_ c : Int) (gb g6 : Nat) (a : Act) : Prop := ∃ U : Nat → Value, a = OneA s at_ c gb g6 U
theorem OneFr_mk (s : ByteArray) (at_ c : Int) (gb g6 : Nat) (a : Act) (h : a = OneA s at_ c gb g6 fun i => a.tmps.getD i undef) : OneFr s at_ c gb g6 a := ⟨_, h⟩

structure OneS (w : World) (kd at_ to_ : Int) (w' : World) : Prop where
  b : w'.heap[w.heap.size]? = some (.cells #[.int .u8 0, .int .i64 0, .int .i64 0] 32 (0, 0))
  t : w'.heap[w.heap.size + 1]? = some (.cells #[.int .u8 kd, .int .i64 at_, .int .i64 to_] 32 (0, 0))
  l : Below w.heap.size w w'
def OneP (k : Nat) (s : ByteArray) (at_ c kd to_ : Int) (r : Int × Int × Int × Int) (l n : Nat) : Prop :=
   (l = 0 ∧ n = k + 2 ∧ kd = 0 ∧ to_ = at_ + 1 ∧ (if at_ + 1 < (s.size : Int) ∧ 48 ≤ bt s (at_ + 1) ∧ bt s (at_ + 1) ≤ 57 then lex_One.piece k s at_ (at_ + 1) else some (0, 0, 0, 5)) = some r)
   ∨ (l = 1 ∧ kd = 0 ∧ at_ < to_ ∧ to_ ≤ s.size ∧ ∃ q, n = q + 1 ∧ q ≤ k ∧ lex_One.piece q s at_ to_ = some r)
   ∨ (l = 2 ∧ n = 1 ∧ kd = 0 ∧ to_ = at_ + 1 ∧ lex_One.sign s at_ c = some r)
   ∨ (l = 3 ∧ n = 0 ∧ r = (0, 0, 0, 5))
   ∨ (l = 4 ∧ n = 0 ∧ kd = 4 ∧ to_ = at_ + 1 ∧ at_ + 1 < (s.size : Int) ∧ r = (4, at_, at_ + 1 + 1, 0))
def OneJ (k : Nat) (s : ByteArray) (at_ c : Int) (w : World) (r : Int × Int × Int × Int) (l n : Nat) (a : Act) (w' : World) : Prop :=
  ∃ (kd to_ : Int), OneFr s at_ c w.heap.size (w.heap.size + 1) a ∧ OneS w kd at_ to_ w' ∧ OneP k s at_ c kd to_ r l n
theorem below2 (w : World) (o p : Obj) (n : Nat) : Below w.heap.size w (((w.alloc o).alloc p).drewN n) := pw_below_drewN (((Below.refl _ _).alloc (Nat.le_refl _) _).alloc (by simp) _) n
theorem heap2 (w : World) (o p : Obj) (n : Nat) : (((w.alloc o).alloc p).drewN n).heap[w.heap.size]? = some o := heap_alloc2_old w o p
theorem heap3 (w : World) (o p : Obj) (n : Nat) : (((w.alloc o).alloc p).drewN n).heap[w.heap.size + 1]? = some p := heap_alloc2_new w o p
theorem OneS_new (w : World) (kd at_ to_ : Int) (n : Nat) : OneS w kd at_ to_ (((w.alloc (.cells #[.int .u8 0, .int .i64 0, .int .i64 0] 32)).alloc (.cells #[.int .u8 kd, .int .i64 at_, .int .i64 to_] 32)).drewN n) := ⟨heap2 w _ _ n, heap3 w _ _ n, below2 w _ _ n⟩
theorem OneS.set0 {w w' : World} {kd at_ to_ kd' : Int} (h : OneS w kd at_ to_ w') : OneS w kd' at_ to_ (w'.setCell ⟨w.heap.size + 1, 0, none⟩ (.int .u8 kd')) :=
  ⟨blk_far h.b (by simp) _, blk_put h.t 0 _ rfl, below_set h.l (by omega)⟩
theorem OneS.set2 {w w' : World} {kd at_ to_ to' : Int} (h : OneS w kd at_ to_ w') : OneS w kd at_ to' (w'.setCell ⟨w.heap.size + 1, 2, none⟩ (.int .i64 to')) :=
  ⟨blk_far h.b (by simp) _, blk_put h.t 2 _ rfl, below_set h.l (by omega)⟩
theorem OneS.drewN {w w' : World} {kd at_ to_ : Int} (h : OneS w kd at_ to_ w') (n : Nat) : OneS w kd at_ to_ (w'.drewN n) := ⟨h.b, h.t, pw_below_drewN h.l n⟩
theorem OneS.later {w w' w2 : World} {kd at_ to_ : Int} (h : OneS w kd at_ to_ w') (hb : Below w'.heap.size w' w2) : OneS w kd at_ to_ w2 := ⟨blk_below h.b hb, blk_below h.t hb, below_step h.l hb⟩
theorem one_put3 {w w' : World} {o : Obj} {a b c : Int} {x y z : Value} (h : w'.heap[w.heap.size]? = some (.cells #[x, y, z] 32 (0, 0))) :
    (((w'.setCell ⟨w.heap.size, 0, none⟩ (.int .u8 a)).setCell ⟨w.heap.size, 1, none⟩ (.int .i64 b)).setCell ⟨w.heap.size, 2, none⟩ (.int .i64 c)).heap[w.heap.size]? = some (.cells #[.int .u8 a, .int .i64 b, .int .i64 c] 32 (0, 0)) :=
  blk_put (blk_put (blk_put h 0 _ rfl) 1 _ rfl) 2 _ rfl
theorem one_below3 {w w' : World} {a b c : Value} (h : Below w.heap.size w w') :
    Below w.heap.size w (((w'.setCell ⟨w.heap.size, 0, none⟩ a).setCell ⟨w.heap.size, 1, none⟩ b).setCell ⟨w.heap.size, 2, none⟩ c) :=
  below_set (below_set (below_set h (Nat.le_refl _)) (Nat.le_refl _)) (Nat.le_refl _)
def OneR (w : World) (r : Int × Int × Int × Int) (e : Ending) (w' : World) : Prop :=
  e = .returned (.tuple #[.agg #[.int .u8 r.1, .int .i64 r.2.1, .int .i64 r.2.2.1], .int .i64 r.2.2.2]) ∧ Below w.heap.size w w'
theorem lex_letter_some (c : Int) : ∃ b, lex_letter.f c = some b := by unfold lex_letter.f; repeat (first | exact ⟨_, rfl⟩ | split)
theorem one_end (w w' : World) (r : Int × Int × Int × Int) (a b c d : Int) (h : some (a, b, c, d) = some r) (hb : Below w.heap.size w w') : OneR w r (.returned (.tuple #[.agg #[.int .u8 a, .int .i64 b, .int .i64 c], .int .i64 d])) w' := by
  obtain rfl := Option.some.inj h
  exact ⟨rfl, hb⟩

set_option maxHeartbeats 16000000 in
set_option maxRecDepth 100000 in
theorem One_in (k : Nat) (s : ByteArray) (at_ : Int) (r : Int × Int × Int × Int) (w : World) (h0 : 0 ≤ at_) (h1 : at_ < (s.size : Int)) (hm : (s.size : Int) ≤ 9223372036854775807)
    (c : Int) (hc : bt s at_ = c) (H : Aside0 (lex_One.at_ k s at_ c = some r)) :
    Calls Try.prog 13 #[.string s, .int .i64 at_] w (OneR w r) := by
  have hu32 := Try.underlying32
  have hx := bt_at s at_
  rw [hc] at hx
  clear hc
  have d0 : decide (at_ < 0) = false := decide_eq_false (by omega)
  have d1 : decide ((s.size : Int) ≤ at_) = false := decide_eq_false (by omega)
  obtain ⟨bl, hbl⟩ := lex_letter_some c
  have HB := Aside0.mk hbl
  clear hbl
  go_enter Try.func13, Try.ntmps13
  go_wp2
  refine wp_scope_labels (OneJ k s at_ c w r) ?_ ?_
  · by_cases c1 : c = 32 ∨ c = 9
    · have hh := H.out
      unfold lex_One.at_ at hh
      rw [if_pos c1] at hh
      have hh := Aside0.mk hh
      by_cases c32 : c = 32
      · have e1 : (c == 32) = true := beq_iff_eq.mpr c32
        clear c32 c1
        go_wp2
        simp only [Exit_jumps]
        refine bodyPost_ret (results_ct rfl _ _ w.heap.size 32 #[.int .u8 0, .int .i64 0, .int .i64 0] (0, 0) _ rfl (heap2 w _ _ 0) Try.underlying32 rfl (by kernel_rfl)) rfl ?_
        exact one_end w _ r 0 0 0 4 hh.out (below2 w _ _ 0)
      · have e1 : (c == 32) = false := beq_eq_false_iff_ne.mpr c32
        have e2 : (c == 9) = true := beq_iff_eq.mpr (by omega)
        clear c32 c1
        go_wp2
        simp only [Exit_jumps]
        refine bodyPost_ret (results_ct rfl _ _ w.heap.size 32 #[.int .u8 0, .int .i64 0, .int .i64 0] (0, 0) _ rfl (heap2 w _ _ 0) Try.underlying32 rfl (by kernel_rfl)) rfl ?_
        exact one_end w _ r 0 0 0 4 hh.out (below2 w _ _ 0)
    · have e1 : (c == 32) = false := beq_eq_false_iff_ne.mpr (by omega)
      have e2 : (c == 9) = false := beq_eq_false_iff_ne.mpr (by omega)
      by_cases c3 : c = 45
      · have e3 : (c == 45) = true := beq_iff_eq.mpr c3
        have H2 := Aside0.mk c1
        have H3 := Aside0.mk c3
        clear c1 c3
        go_wp2
        go_step3
        have hh := H.out
        unfold lex_One.at_ at hh
        rw [if_neg H2.out, if_pos H3.out] at hh
        exact ⟨_, _, _, (OneFr_mk _ _ _ _ _ _ rfl), OneS_new w 0 at_ _ 0, (Or.inl ⟨rfl, rfl, rfl, rfl, hh⟩)⟩
      · have e3 : (c == 45) = false := beq_eq_false_iff_ne.mpr c3
        have hh := H.out
        unfold lex_One.at_ at hh
        rw [if_neg c1, if_neg c3, HB.out, Option.bind_some] at hh
        have hh := Aside0.mk hh
        clear c1 c3
        cases bl with
        | true =>
          go_wp2_with (go_at_call 15; refine (lex_letter.calls c true _ HB.out).mono ?_; rintro e w' ⟨rfl, ⟨nd, rfl⟩⟩)
          go_step3
          exact ⟨_, _, _, (OneFr_mk _ _ _ _ _ _ rfl), OneS_new w 0 at_ _ nd, (Or.inr (Or.inl ⟨rfl, rfl, by omega, by omega, k, rfl, Nat.le_refl _, by have := hh.out; simpa using this⟩))⟩
        | false =>
          go_wp2_with (go_at_call 15; refine (lex_letter.calls c false _ HB.out).mono ?_; rintro e w' ⟨rfl, ⟨nd, rfl⟩⟩)
          go_step3
          exact ⟨_, _, _, (OneFr_mk _ _ _ _ _ _ rfl), OneS_new w 0 at_ _ nd, (Or.inr (Or.inr (Or.inl ⟨rfl, rfl, rfl, rfl, by have := hh.out; simpa using this⟩)))⟩
  · intro l n a w' hJ
    obtain ⟨kd, to_, hf, hS, hp⟩ := hJ
    obtain ⟨U, hU⟩ := hf
    subst hU
    unfold OneA
    clear HB H hx
    have cb0 : w'.cell? ⟨w.heap.size, 0, none⟩ = some (.int .u8 0) := (blk_cell hS.b 0).trans rfl
    have cb1 : w'.cell? ⟨w.heap.size, 1, none⟩ = some (.int .i64 0) := (blk_cell hS.b 1).trans rfl
    have cb2 : w'.cell? ⟨w.heap.size, 2, none⟩ = some (.int .i64 0) := (blk_cell hS.b 2).trans rfl
    have fb0 := blk_frozen hS.b 0
    have fb1 := blk_frozen hS.b 1
    have fb2 := blk_frozen hS.b 2
    have ct0 : w'.cell? ⟨w.heap.size + 1, 0, none⟩ = some (.int .u8 kd) := (blk_cell hS.t 0).trans rfl
    have ct1 : w'.cell? ⟨w.heap.size + 1, 1, none⟩ = some (.int .i64 at_) := (blk_cell hS.t 1).trans rfl
    have ct2 : w'.cell? ⟨w.heap.size + 1, 2, none⟩ = some (.int .i64 to_) := (blk_cell hS.t 2).trans rfl
    have ft0 := blk_frozen hS.t 0
    have ft1 := blk_frozen hS.t 1
    have ft2 := blk_frozen hS.t 2
    rcases hp with h | h | h | h | h
    · obtain ⟨h1_, h2_, h3_, h4_, hr⟩ := h
      subst h1_ h2_ h3_ h4_
      refine ⟨_, rfl, ?_⟩
      dsimp only [OneA]
      by_cases p1 : at_ + 1 < (s.size : Int)
      · have pd1 : decide ((s.size : Int) ≤ at_ + 1) = false := decide_eq_false (by omega)
        have hxm := bt_at s (at_ + 1)
        generalize hbm : bt s (at_ + 1) = bm at hr hxm
        have HBM := Aside0.mk hbm
        clear hbm
        by_cases p2 : 48 ≤ bm
        · have pd2 : decide (bm < 48) = false := decide_eq_false (by omega)
          by_cases p3 : bm ≤ 57
          · have pd3 : decide (57 < bm) = false := decide_eq_false (by omega)
            rw [if_pos ⟨p1, p2, p3⟩] at hr
            have HQ := Aside0.mk hr
            clear hr
            go_wp2
            go_step3
            have hr := HQ.out
            clear HQ
            have hat : at_ < at_ + 1 := by omega
            have hto : at_ + 1 ≤ (s.size : Int) := by omega
            clear p1 p2 p3 pd1 pd2 pd3 hxm HBM
            have hkn : ∃ kq, kq = k := ⟨k, rfl⟩
            obtain ⟨kq, hkq⟩ := hkn
            rw [← hkq] at hr
            have hq : kq ≤ k := by omega
            clear hkq
            cases kq with
            | zero => exact absurd hr (by simp [lex_One.piece])
            | succ q =>
              simp only [lex_One.piece] at hr
              by_cases hlt : (at_ + 1) < (s.size : Int)
              · rw [if_pos hlt] at hr
                have dl : decide ((at_ + 1) < (s.size : Int)) = true := decide_eq_true hlt
                have hxx := bt_at s ((at_ + 1))
                have pn : 0 ≤ (at_ + 1) := by omega
                generalize bt s ((at_ + 1)) = b at hr hxx
                obtain ⟨lb, hlb⟩ := lex_letter_some b
                rw [hlb, Option.bind_some] at hr
                have HL := Aside0.mk hlb
                clear hlb
                cases lb with
                | true =>
                  rw [if_pos rfl] at hr
                  have HR := Aside0.mk hr
                  clear hr
                  go_wp2_with (go_at_call 15; refine (lex_letter.calls b true _ HL.out).mono ?_; rintro e w3 ⟨rfl, ⟨nd, rfl⟩⟩; have HSn := hS.drewN nd)
                  go_step3
                  exact ⟨q + 1, by omega, 0, _, (OneFr_mk _ _ _ _ _ _ rfl), HSn.set2, Or.inr (Or.inl ⟨rfl, rfl, by omega, by omega, q, rfl, by omega, HR.out⟩)⟩
                | false =>
                  rw [if_neg (by decide)] at hr
                  obtain ⟨kk, hk, hr⟩ := Option.bind_eq_some_iff.mp hr
                  have HS := Aside0.mk hk
                  clear hk
                  have z1 := eq_true h0
                  have z2 : (at_ ≤ (at_ + 1)) = True := eq_true (by omega)
                  have z3 : ((at_ + 1) ≤ (s.size : Int)) = True := eq_true (by omega)
                  have z4 : (0 ≤ (at_ + 1)) = True := eq_true (by omega)
                  by_cases hk0 : kk = 0
                  · have ek : (kk == 0) = true := beq_iff_eq.mpr hk0
                    rw [if_pos hk0] at hr
                    have HR := Aside0.mk hr
                    have HK0 := Aside0.mk hk0
                    clear hk0 hr
                    go_wp2_with (first | (go_at_call 15; refine (lex_letter.calls b false _ HL.out).mono ?_; rintro e w3 ⟨rfl, ⟨nd, rfl⟩⟩; have HSn := hS.drewN nd) | (go_at_call 16; refine (lex_sort.calls q _ kk _ HS.out).mono ?_; rintro e w4 ⟨rfl, hb4⟩; have hS3 := HSn.later hb4; clear hb4; have hS4 := hS3.set0 (kd' := kk); have sb0 : w4.cell? ⟨w.heap.size, 0, none⟩ = some (.int .u8 0) := (blk_cell hS3.b 0).trans rfl; have sb1 : w4.cell? ⟨w.heap.size, 1, none⟩ = some (.int .i64 0) := (blk_cell hS3.b 1).trans rfl; have sb2 : w4.cell? ⟨w.heap.size, 2, none⟩ = some (.int .i64 0) := (blk_cell hS3.b 2).trans rfl; have gb0 := blk_frozen hS3.b 0; have gb1 := blk_frozen hS3.b 1; have gb2 := blk_frozen hS3.b 2; have st0 : w4.cell? ⟨w.heap.size + 1, 0, none⟩ = some (.int .u8 0) := (blk_cell hS3.t 0).trans rfl; have st1 : w4.cell? ⟨w.heap.size + 1, 1, none⟩ = some (.int .i64 at_) := (blk_cell hS3.t 1).trans rfl; have st2 : w4.cell? ⟨w.heap.size + 1, 2, none⟩ = some (.int .i64 (at_ + 1)) := (blk_cell hS3.t 2).trans rfl; have gt0 := blk_frozen hS3.t 0; have gt1 := blk_frozen hS3.t 1; have gt2 := blk_frozen hS3.t 2))
                    go_step3
                    exact ⟨0, by omega, kk, _, (OneFr_mk _ _ _ _ _ _ rfl), hS4, Or.inr (Or.inr (Or.inr (Or.inl ⟨rfl, rfl, (Option.some.inj HR.out).symm⟩)))⟩
                  · have ek : (kk == 0) = false := beq_eq_false_iff_ne.mpr hk0
                    rw [if_neg hk0] at hr
                    have HR := Aside0.mk hr
                    clear hk0 hr
                    go_wp2_with (first | (go_at_call 15; refine (lex_letter.calls b false _ HL.out).mono ?_; rintro e w3 ⟨rfl, ⟨nd, rfl⟩⟩; have HSn := hS.drewN nd) | (go_at_call 16; refine (lex_sort.calls q _ kk _ HS.out).mono ?_; rintro e w4 ⟨rfl, hb4⟩; have hS3 := HSn.later hb4; clear hb4; have hS4 := hS3.set0 (kd' := kk); have sb0 : w4.cell? ⟨w.heap.size, 0, none⟩ = some (.int .u8 0) := (blk_cell hS3.b 0).trans rfl; have sb1 : w4.cell? ⟨w.heap.size, 1, none⟩ = some (.int .i64 0) := (blk_cell hS3.b 1).trans rfl; have sb2 : w4.cell? ⟨w.heap.size, 2, none⟩ = some (.int .i64 0) := (blk_cell hS3.b 2).trans rfl; have gb0 := blk_frozen hS3.b 0; have gb1 := blk_frozen hS3.b 1; have gb2 := blk_frozen hS3.b 2; have st0 : w4.cell? ⟨w.heap.size + 1, 0, none⟩ = some (.int .u8 0) := (blk_cell hS3.t 0).trans rfl; have st1 : w4.cell? ⟨w.heap.size + 1, 1, none⟩ = some (.int .i64 at_) := (blk_cell hS3.t 1).trans rfl; have st2 : w4.cell? ⟨w.heap.size + 1, 2, none⟩ = some (.int .i64 (at_ + 1)) := (blk_cell hS3.t 2).trans rfl; have gt0 := blk_frozen hS3.t 0; have gt1 := blk_frozen hS3.t 1; have gt2 := blk_frozen hS3.t 2))
                    simp only [Exit_jumps]
                    refine bodyPost_ret (results_ct rfl _ _ w.heap.size 32 #[.int .u8 kk, .int .i64 at_, .int .i64 (at_ + 1)] (0, 0) _ rfl (one_put3 (o := default) hS4.b) Try.underlying32 rfl (by kernel_rfl)) rfl ?_
                    exact one_end w _ r kk at_ (at_ + 1) 0 HR.out (one_below3 hS4.l)
              · rw [if_neg hlt] at hr
                have dl : decide ((at_ + 1) < (s.size : Int)) = false := decide_eq_false hlt
                obtain ⟨kk, hk, hr⟩ := Option.bind_eq_some_iff.mp hr
                have HS := Aside0.mk hk
                clear hk
                have z1 := eq_true h0
                have z2 : (at_ ≤ (at_ + 1)) = True := eq_true (by omega)
                have z3 : ((at_ + 1) ≤ (s.size : Int)) = True := eq_true (by omega)
                have z4 : (0 ≤ (at_ + 1)) = True := eq_true (by omega)
                by_cases hk0 : kk = 0
                · have ek : (kk == 0) = true := beq_iff_eq.mpr hk0
                  rw [if_pos hk0] at hr
                  have HR := Aside0.mk hr
                  have HK0 := Aside0.mk hk0
                  clear hk0 hr
                  have HSn := hS
                  go_wp2_with (go_at_call 16; refine (lex_sort.calls q _ kk _ HS.out).mono ?_; rintro e w4 ⟨rfl, hb4⟩; have hS3 := HSn.later hb4; clear hb4; have hS4 := hS3.set0 (kd' := kk); have sb0 : w4.cell? ⟨w.heap.size, 0, none⟩ = some (.int .u8 0) := (blk_cell hS3.b 0).trans rfl; have sb1 : w4.cell? ⟨w.heap.size, 1, none⟩ = some (.int .i64 0) := (blk_cell hS3.b 1).trans rfl; have sb2 : w4.cell? ⟨w.heap.size, 2, none⟩ = some (.int .i64 0) := (blk_cell hS3.b 2).trans rfl; have gb0 := blk_frozen hS3.b 0; have gb1 := blk_frozen hS3.b 1; have gb2 := blk_frozen hS3.b 2; have st0 : w4.cell? ⟨w.heap.size + 1, 0, none⟩ = some (.int .u8 0) := (blk_cell hS3.t 0).trans rfl; have st1 : w4.cell? ⟨w.heap.size + 1, 1, none⟩ = some (.int .i64 at_) := (blk_cell hS3.t 1).trans rfl; have st2 : w4.cell? ⟨w.heap.size + 1, 2, none⟩ = some (.int .i64 (at_ + 1)) := (blk_cell hS3.t 2).trans rfl; have gt0 := blk_frozen hS3.t 0; have gt1 := blk_frozen hS3.t 1; have gt2 := blk_frozen hS3.t 2)
                  go_step3
                  exact ⟨0, by omega, kk, _, (OneFr_mk _ _ _ _ _ _ rfl), hS4, Or.inr (Or.inr (Or.inr (Or.inl ⟨rfl, rfl, (Option.some.inj HR.out).symm⟩)))⟩
                · have ek : (kk == 0) = false := beq_eq_false_iff_ne.mpr hk0
                  rw [if_neg hk0] at hr
                  have HR := Aside0.mk hr
                  clear hk0 hr
                  have HSn := hS
                  go_wp2_with (go_at_call 16; refine (lex_sort.calls q _ kk _ HS.out).mono ?_; rintro e w4 ⟨rfl, hb4⟩; have hS3 := HSn.later hb4; clear hb4; have hS4 := hS3.set0 (kd' := kk); have sb0 : w4.cell? ⟨w.heap.size, 0, none⟩ = some (.int .u8 0) := (blk_cell hS3.b 0).trans rfl; have sb1 : w4.cell? ⟨w.heap.size, 1, none⟩ = some (.int .i64 0) := (blk_cell hS3.b 1).trans rfl; have sb2 : w4.cell? ⟨w.heap.size, 2, none⟩ = some (.int .i64 0) := (blk_cell hS3.b 2).trans rfl; have gb0 := blk_frozen hS3.b 0; have gb1 := blk_frozen hS3.b 1; have gb2 := blk_frozen hS3.b 2; have st0 : w4.cell? ⟨w.heap.size + 1, 0, none⟩ = some (.int .u8 0) := (blk_cell hS3.t 0).trans rfl; have st1 : w4.cell? ⟨w.heap.size + 1, 1, none⟩ = some (.int .i64 at_) := (blk_cell hS3.t 1).trans rfl; have st2 : w4.cell? ⟨w.heap.size + 1, 2, none⟩ = some (.int .i64 (at_ + 1)) := (blk_cell hS3.t 2).trans rfl; have gt0 := blk_frozen hS3.t 0; have gt1 := blk_frozen hS3.t 1; have gt2 := blk_frozen hS3.t 2)
                  simp only [Exit_jumps]
                  refine bodyPost_ret (results_ct rfl _ _ w.heap.size 32 #[.int .u8 kk, .int .i64 at_, .int .i64 (at_ + 1)] (0, 0) _ rfl (one_put3 (o := default) hS4.b) Try.underlying32 rfl (by kernel_rfl)) rfl ?_
                  exact one_end w _ r kk at_ (at_ + 1) 0 HR.out (one_below3 hS4.l)
          · have pd3 : decide (57 < bm) = true := decide_eq_true (by omega)
            rw [if_neg (by omega)] at hr
            have HQ := Aside0.mk hr
            clear hr
            go_wp2
            go_step3
            exact ⟨0, by omega, 0, _, (OneFr_mk _ _ _ _ _ _ rfl), hS, Or.inr (Or.inr (Or.inr (Or.inl ⟨rfl, rfl, (Option.some.inj HQ.out).symm⟩)))⟩
        · have pd2 : decide (bm < 48) = true := decide_eq_true (by omega)
          rw [if_neg (by omega)] at hr
          have HQ := Aside0.mk hr
          clear hr
          go_wp2
          go_step3
          exact ⟨0, by omega, 0, _, (OneFr_mk _ _ _ _ _ _ rfl), hS, Or.inr (Or.inr (Or.inr (Or.inl ⟨rfl, rfl, (Option.some.inj HQ.out).symm⟩)))⟩
      · have pd1 : decide ((s.size : Int) ≤ at_ + 1) = true := decide_eq_true (by omega)
        rw [if_neg (by omega)] at hr
        have HQ := Aside0.mk hr
        clear hr
        go_wp2
        go_step3
        exact ⟨0, by omega, 0, _, (OneFr_mk _ _ _ _ _ _ rfl), hS, Or.inr (Or.inr (Or.inr (Or.inl ⟨rfl, rfl, (Option.some.inj HQ.out).symm⟩)))⟩
    · obtain ⟨h1_, h2_, hat, hto, q, h5_, hq, hr⟩ := h
      subst h1_ h2_ h5_
      refine ⟨_, rfl, ?_⟩
      dsimp only [OneA]
      cases q with
      | zero => exact absurd hr (by simp [lex_One.piece])
      | succ q =>
        simp only [lex_One.piece] at hr
        by_cases hlt : to_ < (s.size : Int)
        · rw [if_pos hlt] at hr
          have dl : decide (to_ < (s.size : Int)) = true := decide_eq_true hlt
          have hxx := bt_at s (to_)
          have pn : 0 ≤ to_ := by omega
          generalize bt s (to_) = b at hr hxx
          obtain ⟨lb, hlb⟩ := lex_letter_some b
          rw [hlb, Option.bind_some] at hr
          have HL := Aside0.mk hlb
          clear hlb
          cases lb with
          | true =>
            rw [if_pos rfl] at hr
            have HR := Aside0.mk hr
            clear hr
            go_wp2_with (go_at_call 15; refine (lex_letter.calls b true _ HL.out).mono ?_; rintro e w3 ⟨rfl, ⟨nd, rfl⟩⟩; have HSn := hS.drewN nd)
            go_step3
            exact ⟨q + 1, by omega, 0, _, (OneFr_mk _ _ _ _ _ _ rfl), HSn.set2, Or.inr (Or.inl ⟨rfl, rfl, by omega, by omega, q, rfl, by omega, HR.out⟩)⟩
          | false =>
            rw [if_neg (by decide)] at hr
            obtain ⟨kk, hk, hr⟩ := Option.bind_eq_some_iff.mp hr
            have HS := Aside0.mk hk
            clear hk
            have z1 := eq_true h0
            have z2 : (at_ ≤ to_) = True := eq_true (by omega)
            have z3 : (to_ ≤ (s.size : Int)) = True := eq_true (by omega)
            have z4 : (0 ≤ to_) = True := eq_true (by omega)
            by_cases hk0 : kk = 0
            · have ek : (kk == 0) = true := beq_iff_eq.mpr hk0
              rw [if_pos hk0] at hr
              have HR := Aside0.mk hr
              have HK0 := Aside0.mk hk0
              clear hk0 hr
              go_wp2_with (first | (go_at_call 15; refine (lex_letter.calls b false _ HL.out).mono ?_; rintro e w3 ⟨rfl, ⟨nd, rfl⟩⟩; have HSn := hS.drewN nd) | (go_at_call 16; refine (lex_sort.calls q _ kk _ HS.out).mono ?_; rintro e w4 ⟨rfl, hb4⟩; have hS3 := HSn.later hb4; clear hb4; have hS4 := hS3.set0 (kd' := kk); have sb0 : w4.cell? ⟨w.heap.size, 0, none⟩ = some (.int .u8 0) := (blk_cell hS3.b 0).trans rfl; have sb1 : w4.cell? ⟨w.heap.size, 1, none⟩ = some (.int .i64 0) := (blk_cell hS3.b 1).trans rfl; have sb2 : w4.cell? ⟨w.heap.size, 2, none⟩ = some (.int .i64 0) := (blk_cell hS3.b 2).trans rfl; have gb0 := blk_frozen hS3.b 0; have gb1 := blk_frozen hS3.b 1; have gb2 := blk_frozen hS3.b 2; have st0 : w4.cell? ⟨w.heap.size + 1, 0, none⟩ = some (.int .u8 0) := (blk_cell hS3.t 0).trans rfl; have st1 : w4.cell? ⟨w.heap.size + 1, 1, none⟩ = some (.int .i64 at_) := (blk_cell hS3.t 1).trans rfl; have st2 : w4.cell? ⟨w.heap.size + 1, 2, none⟩ = some (.int .i64 to_) := (blk_cell hS3.t 2).trans rfl; have gt0 := blk_frozen hS3.t 0; have gt1 := blk_frozen hS3.t 1; have gt2 := blk_frozen hS3.t 2))
              go_step3
              exact ⟨0, by omega, kk, _, (OneFr_mk _ _ _ _ _ _ rfl), hS4, Or.inr (Or.inr (Or.inr (Or.inl ⟨rfl, rfl, (Option.some.inj HR.out).symm⟩)))⟩
            · have ek : (kk == 0) = false := beq_eq_false_iff_ne.mpr hk0
              rw [if_neg hk0] at hr
              have HR := Aside0.mk hr
              clear hk0 hr
              go_wp2_with (first | (go_at_call 15; refine (lex_letter.calls b false _ HL.out).mono ?_; rintro e w3 ⟨rfl, ⟨nd, rfl⟩⟩; have HSn := hS.drewN nd) | (go_at_call 16; refine (lex_sort.calls q _ kk _ HS.out).mono ?_; rintro e w4 ⟨rfl, hb4⟩; have hS3 := HSn.later hb4; clear hb4; have hS4 := hS3.set0 (kd' := kk); have sb0 : w4.cell? ⟨w.heap.size, 0, none⟩ = some (.int .u8 0) := (blk_cell hS3.b 0).trans rfl; have sb1 : w4.cell? ⟨w.heap.size, 1, none⟩ = some (.int .i64 0) := (blk_cell hS3.b 1).trans rfl; have sb2 : w4.cell? ⟨w.heap.size, 2, none⟩ = some (.int .i64 0) := (blk_cell hS3.b 2).trans rfl; have gb0 := blk_frozen hS3.b 0; have gb1 := blk_frozen hS3.b 1; have gb2 := blk_frozen hS3.b 2; have st0 : w4.cell? ⟨w.heap.size + 1, 0, none⟩ = some (.int .u8 0) := (blk_cell hS3.t 0).trans rfl; have st1 : w4.cell? ⟨w.heap.size + 1, 1, none⟩ = some (.int .i64 at_) := (blk_cell hS3.t 1).trans rfl; have st2 : w4.cell? ⟨w.heap.size + 1, 2, none⟩ = some (.int .i64 to_) := (blk_cell hS3.t 2).trans rfl; have gt0 := blk_frozen hS3.t 0; have gt1 := blk_frozen hS3.t 1; have gt2 := blk_frozen hS3.t 2))
              simp only [Exit_jumps]
              refine bodyPost_ret (results_ct rfl _ _ w.heap.size 32 #[.int .u8 kk, .int .i64 at_, .int .i64 to_] (0, 0) _ rfl (one_put3 (o := default) hS4.b) Try.underlying32 rfl (by kernel_rfl)) rfl ?_
              exact one_end w _ r kk at_ to_ 0 HR.out (one_below3 hS4.l)
        · rw [if_neg hlt] at hr
          have dl : decide (to_ < (s.size : Int)) = false := decide_eq_false hlt
          obtain ⟨kk, hk, hr⟩ := Option.bind_eq_some_iff.mp hr
          have HS := Aside0.mk hk
          clear hk
          have z1 := eq_true h0
          have z2 : (at_ ≤ to_) = True := eq_true (by omega)
          have z3 : (to_ ≤ (s.size : Int)) = True := eq_true (by omega)
          have z4 : (0 ≤ to_) = True := eq_true (by omega)
          by_cases hk0 : kk = 0
          · have ek : (kk == 0) = true := beq_iff_eq.mpr hk0
            rw [if_pos hk0] at hr
            have HR := Aside0.mk hr
            have HK0 := Aside0.mk hk0
            clear hk0 hr
            have HSn := hS
            go_wp2_with (go_at_call 16; refine (lex_sort.calls q _ kk _ HS.out).mono ?_; rintro e w4 ⟨rfl, hb4⟩; have hS3 := HSn.later hb4; clear hb4; have hS4 := hS3.set0 (kd' := kk); have sb0 : w4.cell? ⟨w.heap.size, 0, none⟩ = some (.int .u8 0) := (blk_cell hS3.b 0).trans rfl; have sb1 : w4.cell? ⟨w.heap.size, 1, none⟩ = some (.int .i64 0) := (blk_cell hS3.b 1).trans rfl; have sb2 : w4.cell? ⟨w.heap.size, 2, none⟩ = some (.int .i64 0) := (blk_cell hS3.b 2).trans rfl; have gb0 := blk_frozen hS3.b 0; have gb1 := blk_frozen hS3.b 1; have gb2 := blk_frozen hS3.b 2; have st0 : w4.cell? ⟨w.heap.size + 1, 0, none⟩ = some (.int .u8 0) := (blk_cell hS3.t 0).trans rfl; have st1 : w4.cell? ⟨w.heap.size + 1, 1, none⟩ = some (.int .i64 at_) := (blk_cell hS3.t 1).trans rfl; have st2 : w4.cell? ⟨w.heap.size + 1, 2, none⟩ = some (.int .i64 to_) := (blk_cell hS3.t 2).trans rfl; have gt0 := blk_frozen hS3.t 0; have gt1 := blk_frozen hS3.t 1; have gt2 := blk_frozen hS3.t 2)
            go_step3
            exact ⟨0, by omega, kk, _, (OneFr_mk _ _ _ _ _ _ rfl), hS4, Or.inr (Or.inr (Or.inr (Or.inl ⟨rfl, rfl, (Option.some.inj HR.out).symm⟩)))⟩
          · have ek : (kk == 0) = false := beq_eq_false_iff_ne.mpr hk0
            rw [if_neg hk0] at hr
            have HR := Aside0.mk hr
            clear hk0 hr
            have HSn := hS
            go_wp2_with (go_at_call 16; refine (lex_sort.calls q _ kk _ HS.out).mono ?_; rintro e w4 ⟨rfl, hb4⟩; have hS3 := HSn.later hb4; clear hb4; have hS4 := hS3.set0 (kd' := kk); have sb0 : w4.cell? ⟨w.heap.size, 0, none⟩ = some (.int .u8 0) := (blk_cell hS3.b 0).trans rfl; have sb1 : w4.cell? ⟨w.heap.size, 1, none⟩ = some (.int .i64 0) := (blk_cell hS3.b 1).trans rfl; have sb2 : w4.cell? ⟨w.heap.size, 2, none⟩ = some (.int .i64 0) := (blk_cell hS3.b 2).trans rfl; have gb0 := blk_frozen hS3.b 0; have gb1 := blk_frozen hS3.b 1; have gb2 := blk_frozen hS3.b 2; have st0 : w4.cell? ⟨w.heap.size + 1, 0, none⟩ = some (.int .u8 0) := (blk_cell hS3.t 0).trans rfl; have st1 : w4.cell? ⟨w.heap.size + 1, 1, none⟩ = some (.int .i64 at_) := (blk_cell hS3.t 1).trans rfl; have st2 : w4.cell? ⟨w.heap.size + 1, 2, none⟩ = some (.int .i64 to_) := (blk_cell hS3.t 2).trans rfl; have gt0 := blk_frozen hS3.t 0; have gt1 := blk_frozen hS3.t 1; have gt2 := blk_frozen hS3.t 2)
            simp only [Exit_jumps]
            refine bodyPost_ret (results_ct rfl _ _ w.heap.size 32 #[.int .u8 kk, .int .i64 at_, .int .i64 to_] (0, 0) _ rfl (one_put3 (o := default) hS4.b) Try.underlying32 rfl (by kernel_rfl)) rfl ?_
            exact one_end w _ r kk at_ to_ 0 HR.out (one_below3 hS4.l)
    · obtain ⟨h1_, h2_, h3_, h4_, hr⟩ := h
      subst h1_ h2_ h3_ h4_
      refine ⟨_, rfl, ?_⟩
      dsimp only [OneA]
      unfold lex_One.sign at hr
      by_cases q40 : c = 40
      · have b40 : (c == 40) = true := beq_iff_eq.mpr q40
        rw [if_pos (by omega)] at hr
        have HQ := Aside0.mk hr
        clear hr
        clear q40
        go_wp2
        simp only [Exit_jumps]
        refine bodyPost_ret (results_ct rfl _ _ w.heap.size 32 #[.int .u8 4, .int .i64 at_, .int .i64 (at_ + 1)] (0, 0) _ rfl (one_put3 (o := default) (hS.set0 (kd' := 4)).b) Try.underlying32 rfl (by kernel_rfl)) rfl ?_
        exact one_end w _ r 4 at_ (at_ + 1) 0 HQ.out (one_below3 (hS.set0 (kd' := 4)).l)
      · have b40 : (c == 40) = false := beq_eq_false_iff_ne.mpr q40
        by_cases q41 : c = 41
        · have b41 : (c == 41) = true := beq_iff_eq.mpr q41
          rw [if_pos (by omega)] at hr
          have HQ := Aside0.mk hr
          clear hr
          clear q40
          clear q41
          go_wp2
          simp only [Exit_jumps]
          refine bodyPost_ret (results_ct rfl _ _ w.heap.size 32 #[.int .u8 4, .int .i64 at_, .int .i64 (at_ + 1)] (0, 0) _ rfl (one_put3 (o := default) (hS.set0 (kd' := 4)).b) Try.underlying32 rfl (by kernel_rfl)) rfl ?_
          exact one_end w _ r 4 at_ (at_ + 1) 0 HQ.out (one_below3 (hS.set0 (kd' := 4)).l)
        · have b41 : (c == 41) = false := beq_eq_false_iff_ne.mpr q41
          by_cases q44 : c = 44
          · have b44 : (c == 44) = true := beq_iff_eq.mpr q44
            rw [if_pos (by omega)] at hr
            have HQ := Aside0.mk hr
            clear hr
            clear q40
            clear q41
            clear q44
            go_wp2
            simp only [Exit_jumps]
            refine bodyPost_ret (results_ct rfl _ _ w.heap.size 32 #[.int .u8 4, .int .i64 at_, .int .i64 (at_ + 1)] (0, 0) _ rfl (one_put3 (o := default) (hS.set0 (kd' := 4)).b) Try.underlying32 rfl (by kernel_rfl)) rfl ?_
            exact one_end w _ r 4 at_ (at_ + 1) 0 HQ.out (one_below3 (hS.set0 (kd' := 4)).l)
          · have b44 : (c == 44) = false := beq_eq_false_iff_ne.mpr q44
            by_cases q46 : c = 46
            · have b46 : (c == 46) = true := beq_iff_eq.mpr q46
              rw [if_pos (by omega)] at hr
              have HQ := Aside0.mk hr
              clear hr
              clear q40
              clear q41
              clear q44
              clear q46
              go_wp2
              simp only [Exit_jumps]
              refine bodyPost_ret (results_ct rfl _ _ w.heap.size 32 #[.int .u8 4, .int .i64 at_, .int .i64 (at_ + 1)] (0, 0) _ rfl (one_put3 (o := default) (hS.set0 (kd' := 4)).b) Try.underlying32 rfl (by kernel_rfl)) rfl ?_
              exact one_end w _ r 4 at_ (at_ + 1) 0 HQ.out (one_below3 (hS.set0 (kd' := 4)).l)
            · have b46 : (c == 46) = false := beq_eq_false_iff_ne.mpr q46
              by_cases q60 : c = 60
              · have b60 : (c == 60) = true := beq_iff_eq.mpr q60
                rw [if_pos (by omega)] at hr
                have HQ := Aside0.mk hr
                clear hr
                clear q40
                clear q41
                clear q44
                clear q46
                clear q60
                go_wp2
                simp only [Exit_jumps]
                refine bodyPost_ret (results_ct rfl _ _ w.heap.size 32 #[.int .u8 4, .int .i64 at_, .int .i64 (at_ + 1)] (0, 0) _ rfl (one_put3 (o := default) (hS.set0 (kd' := 4)).b) Try.underlying32 rfl (by kernel_rfl)) rfl ?_
                exact one_end w _ r 4 at_ (at_ + 1) 0 HQ.out (one_below3 (hS.set0 (kd' := 4)).l)
              · have b60 : (c == 60) = false := beq_eq_false_iff_ne.mpr q60
                rw [if_neg (by omega)] at hr
                by_cases p1 : at_ + 1 < (s.size : Int)
                · have pd1 : decide (at_ + 1 < (s.size : Int)) = true := decide_eq_true p1
                  have hxm := bt_at s (at_ + 1)
                  have pn : 0 ≤ at_ + 1 := by omega
                  generalize bt s (at_ + 1) = bm at hr hxm
                  by_cases q33 : c = 33
                  · have b33 : (c == 33) = true := beq_iff_eq.mpr q33
                    by_cases z : bm = 61
                    · have zb : (bm == 61) = true := beq_iff_eq.mpr z
                      rw [if_pos (by omega)] at hr
                      have HQ := Aside0.mk hr
                      clear hr z q33
                      clear q40 q41 q44 q46 q60
                      go_wp2
                      go_step3
                      exact ⟨0, by omega, 4, _, (OneFr_mk _ _ _ _ _ _ rfl), hS.set0, Or.inr (Or.inr (Or.inr (Or.inr ⟨rfl, rfl, rfl, rfl, of_decide_eq_true pd1, (Option.some.inj HQ.out).symm⟩)))⟩
                    · have zb : (bm == 61) = false := beq_eq_false_iff_ne.mpr z
                      rw [if_neg (by omega)] at hr
                      have HQ := Aside0.mk hr
                      clear hr z q33
                      clear q40 q41 q44 q46 q60
                      go_wp2
                      go_step3
                      go_wp2
                      simp only [Exit_jumps]
                      refine bodyPost_ret (results_ct rfl _ _ w.heap.size 32 #[.int .u8 0, .int .i64 0, .int .i64 0] (0, 0) _ rfl (one_put3 (o := default) (hS.set0 (kd' := 4)).b) Try.underlying32 rfl (by kernel_rfl)) rfl ?_
                      exact one_end w _ r 0 0 0 5 HQ.out (one_below3 (hS.set0 (kd' := 4)).l)
                  · have b33 : (c == 33) = false := beq_eq_false_iff_ne.mpr q33
                    by_cases q58 : c = 58
                    · have b58 : (c == 58) = true := beq_iff_eq.mpr q58
                      by_cases z : bm = 45
                      · have zb : (bm == 45) = true := beq_iff_eq.mpr z
                        rw [if_pos (by omega)] at hr
                        have HQ := Aside0.mk hr
                        clear hr z q58 q33
                        clear q40 q41 q44 q46 q60
                        go_wp2
                        go_step3
                        exact ⟨0, by omega, 4, _, (OneFr_mk _ _ _ _ _ _ rfl), hS.set0, Or.inr (Or.inr (Or.inr (Or.inr ⟨rfl, rfl, rfl, rfl, of_decide_eq_true pd1, (Option.some.inj HQ.out).symm⟩)))⟩
                      · have zb : (bm == 45) = false := beq_eq_false_iff_ne.mpr z
                        rw [if_neg (by omega)] at hr
                        have HQ := Aside0.mk hr
                        clear hr z q58 q33
                        clear q40 q41 q44 q46 q60
                        go_wp2
                        go_step3
                        go_wp2
                        simp only [Exit_jumps]
                        refine bodyPost_ret (results_ct rfl _ _ w.heap.size 32 #[.int .u8 0, .int .i64 0, .int .i64 0] (0, 0) _ rfl (one_put3 (o := default) (hS.set0 (kd' := 4)).b) Try.underlying32 rfl (by kernel_rfl)) rfl ?_
                        exact one_end w _ r 0 0 0 5 HQ.out (one_below3 (hS.set0 (kd' := 4)).l)
                    · have b58 : (c == 58) = false := beq_eq_false_iff_ne.mpr q58
                      rw [if_neg (by omega)] at hr
                      have HQ := Aside0.mk hr
                      clear hr p1 q33 q58
                      clear q40 q41 q44 q46 q60
                      go_wp2
                      go_step3
                      go_wp2
                      simp only [Exit_jumps]
                      refine bodyPost_ret (results_ct rfl _ _ w.heap.size 32 #[.int .u8 0, .int .i64 0, .int .i64 0] (0, 0) _ rfl (one_put3 (o := default) (hS.set0 (kd' := 4)).b) Try.underlying32 rfl (by kernel_rfl)) rfl ?_
                      exact one_end w _ r 0 0 0 5 HQ.out (one_below3 (hS.set0 (kd' := 4)).l)
                · have pd1 : decide (at_ + 1 < (s.size : Int)) = false := decide_eq_false p1
                  rw [if_neg (by omega)] at hr
                  have HQ := Aside0.mk hr
                  clear hr p1
                  by_cases q33 : c = 33
                  · have b33 : (c == 33) = true := beq_iff_eq.mpr q33
                    clear q33
                    clear q40 q41 q44 q46 q60
                    go_wp2
                    go_step3
                    go_wp2
                    simp only [Exit_jumps]
                    refine bodyPost_ret (results_ct rfl _ _ w.heap.size 32 #[.int .u8 0, .int .i64 0, .int .i64 0] (0, 0) _ rfl (one_put3 (o := default) (hS.set0 (kd' := 4)).b) Try.underlying32 rfl (by kernel_rfl)) rfl ?_
                    exact one_end w _ r 0 0 0 5 HQ.out (one_below3 (hS.set0 (kd' := 4)).l)
                  · have b33 : (c == 33) = false := beq_eq_false_iff_ne.mpr q33
                    by_cases q58 : c = 58
                    · have b58 : (c == 58) = true := beq_iff_eq.mpr q58
                      clear q58 q33
                      clear q40 q41 q44 q46 q60
                      go_wp2
                      go_step3
                      go_wp2
                      simp only [Exit_jumps]
                      refine bodyPost_ret (results_ct rfl _ _ w.heap.size 32 #[.int .u8 0, .int .i64 0, .int .i64 0] (0, 0) _ rfl (one_put3 (o := default) (hS.set0 (kd' := 4)).b) Try.underlying32 rfl (by kernel_rfl)) rfl ?_
                      exact one_end w _ r 0 0 0 5 HQ.out (one_below3 (hS.set0 (kd' := 4)).l)
                    · have b58 : (c == 58) = false := beq_eq_false_iff_ne.mpr q58
                      clear q33 q58
                      clear q40 q41 q44 q46 q60
                      go_wp2
                      go_step3
                      go_wp2
                      simp only [Exit_jumps]
                      refine bodyPost_ret (results_ct rfl _ _ w.heap.size 32 #[.int .u8 0, .int .i64 0, .int .i64 0] (0, 0) _ rfl (one_put3 (o := default) (hS.set0 (kd' := 4)).b) Try.underlying32 rfl (by kernel_rfl)) rfl ?_
                      exact one_end w _ r 0 0 0 5 HQ.out (one_below3 (hS.set0 (kd' := 4)).l)
    · obtain ⟨h1_, h2_, h3_⟩ := h
      subst h1_ h2_ h3_
      refine ⟨_, rfl, ?_⟩
      dsimp only [OneA]
      go_wp2
      simp only [Exit_jumps]
      refine bodyPost_ret (results_ct rfl _ _ w.heap.size 32 #[.int .u8 0, .int .i64 0, .int .i64 0] (0, 0) _ rfl (one_put3 (o := default) hS.b) Try.underlying32 rfl (by kernel_rfl)) rfl ?_
      exact one_end w _ _ 0 0 0 5 rfl (one_below3 hS.l)
    · obtain ⟨h1_, h2_, h3_, h4_, h6_, h5_⟩ := h
      subst h1_ h2_ h3_ h4_ h5_
      refine ⟨_, rfl, ?_⟩
      dsimp only [OneA]
      go_wp2
      simp only [Exit_jumps]
      refine bodyPost_ret (results_ct rfl _ _ w.heap.size 32 #[.int .u8 4, .int .i64 at_, .int .i64 (at_ + 1 + 1)] (0, 0) _ rfl (one_put3 (o := default) (hS.set2).b) Try.underlying32 rfl (by kernel_rfl)) rfl ?_
      exact one_end w _ _ 4 at_ (at_ + 1 + 1) 0 rfl (one_below3 (hS.set2).l)

theorem lex_One.piece_mono : ∀ k s a b, LeO (lex_One.piece k s a b) (lex_One.piece (k + 1) s a b) := by
  intro k
  induction k with
  | zero => intro s a b; exact LeO.none _
  | succ k ih =>
    intro s a b
    show LeO (lex_One.piece (k + 1) s a b) (lex_One.piece (k + 1 + 1) s a b)
    rw [lex_One.piece, lex_One.piece]
    refine LeO.ite ?_ ?_
    · refine LeO.bind (LeO.refl _) (fun x => ?_)
      refine LeO.ite (ih _ _ _) ?_
      exact LeO.bind (lex_sort.mono _ _) (fun _ => LeO.refl _)
    · exact LeO.bind (lex_sort.mono _ _) (fun _ => LeO.refl _)
theorem lex_One.mono : ∀ a0 a1 k, LeO (lex_One.f k a0 a1) (lex_One.f (k + 1) a0 a1) := by
  intro s a k
  unfold lex_One.f lex_One.at_
  refine LeO.ite (LeO.refl _) (LeO.ite ?_ (LeO.refl _))
  refine LeO.ite (LeO.refl _) (LeO.ite (LeO.ite (lex_One.piece_mono _ _ _ _) (LeO.refl _)) ?_)
  exact LeO.bind (LeO.refl _) (fun _ => LeO.ite (lex_One.piece_mono _ _ _ _) (LeO.refl _))
set_option maxHeartbeats 4000000 in
set_option maxRecDepth 100000 in
theorem One_out (s : ByteArray) (at_ : Int) (w : World) (h : at_ < 0 ∨ (s.size : Int) ≤ at_) : Calls Try.prog 13 #[.string s, .int .i64 at_] w (OneR w (0, 0, 0, 1)) := by
  have hu32 := Try.underlying32
  by_cases d : at_ < 0
  · have d0 : decide (at_ < 0) = true := decide_eq_true d
    clear h d
    go_enter Try.func13, Try.ntmps13
    go_wp2
    go_step3
    go_wp2
    rw [Exit.noGoto_ret]
    refine bodyPost_ret (results_ct rfl _ _ w.heap.size 32 #[.int .u8 0, .int .i64 0, .int .i64 0] (0, 0) _ rfl (heap_alloc_new w _) Try.underlying32 rfl (by kernel_rfl)) rfl ?_
    exact one_end w _ _ 0 0 0 1 rfl ((Below.refl _ _).alloc (Nat.le_refl _) _)
  · have d0 : decide (at_ < 0) = false := decide_eq_false d
    have d1 : decide ((s.size : Int) ≤ at_) = true := decide_eq_true (by omega)
    clear h d
    go_enter Try.func13, Try.ntmps13
    go_wp2
    go_step3
    go_wp2
    rw [Exit.noGoto_ret]
    refine bodyPost_ret (results_ct rfl _ _ w.heap.size 32 #[.int .u8 0, .int .i64 0, .int .i64 0] (0, 0) _ rfl (heap_alloc_new w _) Try.underlying32 rfl (by kernel_rfl)) rfl ?_
    exact one_end w _ _ 0 0 0 1 rfl ((Below.refl _ _).alloc (Nat.le_refl _) _)
theorem lex_One.calls (k : Nat) (a0 : ByteArray) (a1 : Int) (r1 : Int) (r2 : Int) (r3 : Int) (r4 : Int) (w : World) (h : lex_One.f k a0 a1 = some (r1, r2, r3, r4)) :
    Calls Try.prog 13 #[.string a0, .int .i64 a1] w fun e w' => e = .returned (.tuple #[.agg #[.int .u8 r1, .int .i64 r2, .int .i64 r3], .int .i64 r4]) ∧ Below w.heap.size w w' := by
  unfold lex_One.f at h
  by_cases c : a1 < 0 ∨ (a0.size : Int) ≤ a1
  · rw [if_pos c] at h
    simp only [Option.some.injEq, Prod.mk.injEq] at h
    obtain ⟨rfl, rfl, rfl, rfl⟩ := h
    exact One_out a0 a1 w c
  · rw [if_neg c] at h
    by_cases m : (a0.size : Int) ≤ 9223372036854775807
    · rw [if_pos m] at h
      exact One_in k a0 a1 (r1, r2, r3, r4) w (by omega) (by omega) m _ rfl ⟨h⟩
    · rw [if_neg m] at h
      cases h

end Go.Proofs.Ytbhcdbmhgocojaa.PA
