/-
  Bindings: said, Clone, Clip.
-/
import Derived.Test.YtehgblnhhlgikaaBiRows
namespace Go.Proofs.Ytehgblnhhlgikaa.Bi
open Go.RowKit
set_option linter.unusedVariables false
set_option linter.unusedSimpArgs false
set_option pp.maxSteps 50000
theorem said_calls (k : Nat) (p : ByteArray) (A : Option Addr) (n c : Nat) (w : World) : Calls Try.prog 20 #[.agg #[.int .u8 (k : Int), .string p, .slice A n c]] w fun e w' => e = .returned (.bool (decide (k = 1 ∨ k = 2))) ∧ Below w.heap.size w w' := by
  by_cases h1 : k = 1
  · subst h1
    go_enter Try.func20, Try.ntmps20
    go_wp2_with fail
    go_ret
    exact ⟨rfl, (Below.refl _ _).alloc (Nat.le_refl _) _⟩
  · have e1 : ((k : Int) == 1) = false := by rw [beq_eq_false_iff_ne]; omega
    by_cases h2 : k = 2
    · subst h2
      go_enter Try.func20, Try.ntmps20
      go_wp2_with fail
      go_ret
      exact ⟨rfl, (Below.refl _ _).alloc (Nat.le_refl _) _⟩
    · have e2 : ((k : Int) == 2) = false := by rw [beq_eq_false_iff_ne]; omega
      have e3 : decide (k = 1 ∨ k = 2) = false := by simp [h1, h2]
      rw [e3]
      go_enter Try.func20, Try.ntmps20
      go_wp2_with fail
      go_ret
      exact ⟨rfl, (Below.refl _ _).alloc (Nat.le_refl _) _⟩
theorem clone3_calls (l : List T3) (A : Option Addr) (n c : Nat) (w : World) (hn : n = l.length) (hn9 : n ≤ 1000000) (hy : Rw 3 T3.c w (.slice A n c) l) :
    Calls Try.prog 21 #[.slice A n c] w fun e w' => ∃ v, e = .returned v ∧ w'.ownsRow w.heap.size 50 3 v l.length (flat T3.c l) ∧ Below w.heap.size w w' := by
  obtain ⟨i50, hi50, hz0, hz1, hz2⟩ := info_parts inf50
  cases A with
  | none =>
    have hl : l = [] ∧ n = 0 ∧ c = 0 := by
      rcases hy with ⟨A, c', h, h2, h3⟩ | ⟨g, o, c', h, _⟩
      · injection h with h4 h5 h6
        exact ⟨h2, h5, by rw [h6]; exact h3 h4.symm⟩
      · simp at h
    obtain ⟨rfl, rfl, rfl⟩ := hl
    have hq : ∀ w, (binOp .eql 28 (.slice none 0 0) (.slice none 0 0)).run Try.prog w = .ok (.bool true) w := fun w => by kernel_rfl
    clear hy hn hn9
    go_enter Try.func21, Try.ntmps21
    go_wp2_with fail
    go_ret
    exact ⟨_, rfl, World.ownsRow_nil _ _ _ _, Below.refl _ _⟩
  | some ad =>
    have hq : ∀ w, (binOp .eql 28 (.slice (some ad) n c) (.slice none 0 0)).run Try.prog w = .ok (.bool false) w := fun w => by kernel_rfl
    have hn' : Hid (n = l.length) := hn
    clear hn
    go_enter Try.func21, Try.ntmps21
    go_upto_region 3 with fail
    refine wp_region_lit ?_
    refine sl_run rfl (.slice (some ⟨w.heap.size, 0, none⟩) 0 0) (w.alloc (.cells #[] 50)) (by kernel_rfl) ?_
    refine sl_run rfl (.slice (some ad) n c) (w.alloc (.cells #[] 50)) (by kernel_rfl) ?_
    have hown0 : (w.alloc (.cells #[] 50)).ownsRow w.heap.size 50 3 (.slice (some ⟨w.heap.size, 0, none⟩) 0 0) ([] : List T3).length (flat T3.c []) := World.ownsRow_made _ _ 0 (Nat.le_refl _) (by decide) rfl
    have hB0 : Below w.heap.size w (w.alloc (.cells #[] 50)) := (Below.refl _ _).alloc (Nat.le_refl _) _
    refine appendRw 28 50 40 i50 z3 Try.underlying28 hi50 hz0 hz1 hz2 rfl (by decide) t3_size t3_ones rfl _ _ rfl w.heap.size _ [] l (by kernel_rfl) hown0 _ (by kernel_rfl) (hy.below hB0) (by have := hn'.out; simp; omega) (by have := hn'.out; simp; omega) hB0.size ?_
    intro v5 w5 hown5 hgr5
    refine sl_run rfl v5 w5 (by kernel_rfl) ?_
    refine wpList_nil ?_
    simp only [Act.put, List.setIfInBounds_toArray, List.set_cons_zero, List.set_cons_succ]
    have hB5 : Below w.heap.size w w5 := Below.grown hB0 hgr5 hB0.size (fun q hq => (hown0.lt q hq).1)
    rw [List.nil_append] at hown5
    go_wp2_with fail
    go_ret
    exact ⟨_, rfl, hown5, hB5⟩
theorem exec_clip {ty : TypeId} {k : Nat} {o : Oper} {a : Act} (hu : Try.prog.underlying ty = some (.slice (Try.prog.elem ty))) (hsz : ∀ w, (sizeOf (Try.prog.elem ty)).run Try.prog w = .ok k w) (x hi mx : Operand) (ho : o.op = .slice ty x none (some hi) (some mx)) (A : Option Addr) (n c : Nat) (hx : a.eval x = .slice A n c)
    (hh : a.eval hi = .int .i64 (n : Int)) (hm : a.eval mx = .int .i64 (n : Int)) (hc : n ≤ c) (w : World) : (execOp a.eval o).run Try.prog w = .ok (.value (.slice (if n = 0 then A else A.map (·.add 0)) n n)) w := by
  unfold execOp
  simp only [ho, Option.map_some, Option.map_none, hx, hh, hm, Sem.run_bind, run_sliceAt_slice w ty _ _ _ _ hu, run_slice_hm w ty _ n c hu .i64 .i64 (n : Int) (n : Int) (by omega) (by omega) (by omega), hsz, Result.andThen_ok, Sem.run_pure, sliced, Int.toNat_natCast, Nat.zero_mul, Nat.sub_zero]
theorem clip_rw {α : Type} [Inhabited α] {k : Nat} {enc : α → Array Value} {w : World} {l : List α} {A : Option Addr} {n c : Nat} (hn : n = l.length) (hy : Rw k enc w (.slice A n c) l) : n ≤ c ∧ Rw k enc w (.slice (if n = 0 then A else A.map (·.add 0)) n n) l := by
  rcases hy with ⟨A', c', h, rfl, h2⟩ | ⟨g, o, c', h, h2, h3, h4⟩
  · injection h with h5 h6 h7
    subst h5 h6
    exact ⟨Nat.zero_le _, .inl ⟨_, 0, rfl, rfl, fun _ => rfl⟩⟩
  · injection h with h5 h6 h7
    subst h5 h7
    refine ⟨by omega, .inr ⟨g, o, n, ?_, by omega, h3, h4⟩⟩
    rw [hn]
    split
    · rfl
    · rw [Option.map_some, Addr.add_mid, Nat.add_zero]
theorem clip3_calls (l : List T3) (v : Value) (w : World) (hn9 : l.length ≤ 4000000) (hy : Rw 3 T3.c w v l) :
    Calls Try.prog 23 #[v] w fun e w' => ∃ v, e = .returned v ∧ Rw 3 T3.c w' v l ∧ Below w.heap.size w w' := by
  obtain ⟨A, c, rfl⟩ := hy.form
  obtain ⟨n, hn⟩ : ∃ n, n = l.length := ⟨_, rfl⟩
  rw [← hn] at hy ⊢
  obtain ⟨hc, hy2⟩ := clip_rw hn hy
  go_enter Try.func23, Try.ntmps23
  go_upto_region 1 with fail
  refine wp_region_lit ?_
  refine sl_run rfl (.slice A n c) w (by kernel_rfl) ?_
  refine sl_run rfl (.slice A n c) w (by kernel_rfl) ?_
  refine sl_run rfl (.int .i64 n) w (by kernel_rfl) ?_
  refine sl_run rfl (.slice A n c) w (by kernel_rfl) ?_
  refine sl_run rfl (.int .i64 n) w (by kernel_rfl) ?_
  refine sl_run rfl _ w (exec_clip un28 sz28 _ _ _ rfl A n c (by kernel_rfl) (by kernel_rfl) (by kernel_rfl) hc w) ?_
  generalize (if n = 0 then A else A.map (·.add 0)) = A2 at hy2 ⊢
  refine sl_run rfl (.slice A2 n n) w (by kernel_rfl) ?_
  refine wpList_nil ?_
  simp only [Act.put, List.setIfInBounds_toArray, List.set_cons_zero, List.set_cons_succ]
  go_wp2_with fail
  go_ret
  exact ⟨_, rfl, hy2, Below.refl _ _⟩
end Go.Proofs.Ytehgblnhhlgikaa.Bi
