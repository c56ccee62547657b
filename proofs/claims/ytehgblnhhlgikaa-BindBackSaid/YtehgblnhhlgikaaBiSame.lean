/-
  Bindings: are two lists of bindings alike; a copy of a literal.
-/
import Derived.Test.YtehgblnhhlgikaaBiMatch
namespace Go.Proofs.Ytehgblnhhlgikaa.Bi
open Go.RowKit
set_option linter.unusedVariables false
set_option linter.unusedSimpArgs false
set_option pp.maxSteps 50000
def eqT (u v : T3) : Bool := (u.x.toList == v.x.toList) && eqV u.v v.v
theorem eqV_self (v : V2) : eqV v v = true := by simp [eqV]
theorem eqT_self (v : T3) : eqT v v = true := by simp [eqT, eqV_self]
theorem run_eq46' (d : Nat) (u v : V2) (w : World) : (Op.equalIn (d + 2) 46 (.agg u.c) (.agg v.c)).run Try.prog w = .ok (eqV u v) w := by
  have hf : Try.prog.fieldsOf 46 = #[{ name := "Sym", type := 9, offset := 0, embedded := false, tag := "", pkgPath := "", byteOffset := 0 }, { name := "Num", type := 2, offset := 1, embedded := false, tag := "", pkgPath := "", byteOffset := 16 }] := by kernel_rfl
  have p1 : ∀ (x : V2) (w : World), (part 9 x.c 0).run Try.prog w = .ok (.string x.s) w := fun x w => by kernel_rfl
  have p2 : ∀ (x : V2) (w : World), (part 2 x.c 1).run Try.prog w = .ok (.int .i64 x.n) w := fun x w => by kernel_rfl
  rw [run_equalIn_struct w (d + 1) 46 u.c v.c (by rw [hf]; exact Try.underlying46) (by kernel_rfl), hf]
  simp only [Op.eqFields, p1, p2, Sem.run_bind, Result.andThen_ok, run_equalIn_string w d 9 _ _ Try.underlying9, run_equalIn_int w d 2 .i64 .i64 _ _ Try.underlying2]
  by_cases h1 : u.s.toList = v.s.toList <;> by_cases h2 : u.n = v.n <;> simp [eqV, h1, h2, Op.eqFields, p1, p2, run_equalIn_string w d 9 _ _ Try.underlying9, run_equalIn_int w d 2 .i64 .i64 _ _ Try.underlying2]
theorem fields50 : Try.prog.fieldsOf 50 = #[{ name := "Var", type := 9, offset := 0, embedded := false, tag := "", pkgPath := "", byteOffset := 0 }, { name := "Val", type := 46, offset := 1, embedded := false, tag := "", pkgPath := "", byteOffset := 16 }] := by kernel_rfl
theorem run_eq50 (u v : T3) (w : World) : (Op.equalIn 10000 50 (.agg u.c) (.agg v.c)).run Try.prog w = .ok (eqT u v) w := by
  have p1 : ∀ (x : T3) (w : World), (part 9 x.c 0).run Try.prog w = .ok (.string x.x) w := fun x w => by kernel_rfl
  have p2 : ∀ (x : T3) (w : World), (part 46 x.c 1).run Try.prog w = .ok (.agg x.v.c) w := fun x w => by kernel_rfl
  rw [run_equalIn_struct w 9999 50 u.c v.c (by rw [fields50]; exact Try.underlying50) (by kernel_rfl), fields50]
  by_cases h1 : u.x.toList = v.x.toList
  · cases h2 : eqV u.v v.v <;> simp [eqT, h1, h2, Op.eqFields, p1, p2, run_equalIn_string w 9998 9 _ _ Try.underlying9, run_eq46' 9997]
  · simp [eqT, h1, Op.eqFields, p1, p2, run_equalIn_string w 9998 9 _ _ Try.underlying9]
theorem guard50 : Try.prog.eqGuardType Try.prog.depth 50 = false := by kernel_rfl
theorem exec_neq50 {o : Oper} {a : Act} (x y : Operand) (ho : o.op = .binOp .neq 50 x y 50) (u v : T3) (hx : a.eval x = .agg u.c) (hy : a.eval y = .agg v.c) (w : World) : (execOp a.eval o).run Try.prog w = .ok (.value (.bool (!(eqT u v)))) w := by
  unfold execOp
  simp only [ho, hx, hy, Sem.run_bind, run_eqGuard_agg w .neq 50 x y _ _ guard50, Result.andThen_ok, run_neq_struct, run_eq50, Sem.run_pure]
set_option maxRecDepth 100000 in
set_option maxHeartbeats 1000000 in
/-- Two lists that are one are told alike. -/
theorem same_calls (l : List T3) (y z : Value) (w : World) (hl : l.length ≤ 4000000) (hy : Rw 3 T3.c w y l) (hz : Rw 3 T3.c w z l) :
    Calls Try.prog 12 #[y, z] w fun e w' => e = .returned (.bool true) ∧ Below w.heap.size w w' := by
  obtain ⟨A, c, rfl⟩ := hy.form
  obtain ⟨A2, c2, rfl⟩ := hz.form
  obtain ⟨n, hn⟩ : ∃ n, n = l.length := ⟨_, rfl⟩
  rw [← hn] at hy hz hl ⊢
  have hn' : Hid (n = l.length) := hn
  have hyH : Hid (Rw 3 T3.c w (.slice A n c) l) := hy
  have hzH : Hid (Rw 3 T3.c w (.slice A2 n c2) l) := hz
  have hI0 : ((n : Int) == (n : Int)) = true := by simp
  clear hn hy hz
  go_enter Try.func12, Try.ntmps12
  go_wp2_with fail
  go_loopw [5] (fun u wr => ∃ i : Nat, i ≤ n ∧ u = .int .i64 i ∧ Hid (Below w.heap.size w wr)) (fun u _ => n - (intOf u).toNat)
  case atStart => exact ⟨0, by omega, rfl, Below.refl _ _⟩
  case round =>
    obtain ⟨i, hi, rfl, hB⟩ := hrel
    by_cases hlt : i < n
    · have hil : i < l.length := by rw [← hn'.out]; exact hlt
      have hI : (i : Int) < (n : Int) := by omega
      obtain ⟨g, o, rfl, hnc, hg, hra⟩ := hyH.out.elem i hil
      obtain ⟨g2, o2, rfl, hnc2, hg2, hra2⟩ := hzH.out.elem i hil
      obtain ⟨e, he⟩ : ∃ e, e = l.getD i default := ⟨_, rfl⟩
      rw [← he] at hra hra2
      have hra' := range_below hra hB.out hg
      have hra2' := range_below hra2 hB.out hg2
      have hws := Below.size hB.out
      clear he hil hra hra2
      go_upto_region 6 with fail
      refine wp_region_quiet (C := Below wr.heap.size wr) (by kernel_rfl) (by kernel_rfl) (Below.refl _ _).drew ?_
      refine quiet_run rfl (.slice (some ⟨g, o, none⟩) n c) (fun _ _ => by kernel_rfl) ?_
      simp only [Act.put, List.setIfInBounds_toArray, List.set_cons_zero, List.set_cons_succ]
      refine quiet_run rfl (.int .i64 i) (fun _ _ => by kernel_rfl) ?_
      simp only [Act.put, List.setIfInBounds_toArray, List.set_cons_zero, List.set_cons_succ]
      refine quiet_run rfl (.pointer (some ⟨g, o + i * 3, none⟩)) (fun w' _ => exec_index un28 sz28 _ _ rfl g o n c i (by kernel_rfl) (by kernel_rfl) hlt w') ?_
      simp only [Act.put, List.setIfInBounds_toArray, List.set_cons_zero, List.set_cons_succ]
      refine quiet_run rfl (.agg e.c) (fun w' h => exec_load_mid 50 w' _ rfl g (o + i * 3) (by kernel_rfl) e.c.toList _ (range_below hra' h (by omega)) Try.underlying50 rfl (by kernel_rfl)) ?_
      simp only [Act.put, List.setIfInBounds_toArray, List.set_cons_zero, List.set_cons_succ]
      refine quiet_run rfl (.slice (some ⟨g2, o2, none⟩) n c2) (fun _ _ => by kernel_rfl) ?_
      simp only [Act.put, List.setIfInBounds_toArray, List.set_cons_zero, List.set_cons_succ]
      refine quiet_run rfl (.int .i64 i) (fun _ _ => by kernel_rfl) ?_
      simp only [Act.put, List.setIfInBounds_toArray, List.set_cons_zero, List.set_cons_succ]
      refine quiet_run rfl (.pointer (some ⟨g2, o2 + i * 3, none⟩)) (fun w' _ => exec_index un28 sz28 _ _ rfl g2 o2 n c2 i (by kernel_rfl) (by kernel_rfl) hlt w') ?_
      simp only [Act.put, List.setIfInBounds_toArray, List.set_cons_zero, List.set_cons_succ]
      refine quiet_run rfl (.agg e.c) (fun w' h => exec_load_mid 50 w' _ rfl g2 (o2 + i * 3) (by kernel_rfl) e.c.toList _ (range_below hra2' h (by omega)) Try.underlying50 rfl (by kernel_rfl)) ?_
      simp only [Act.put, List.setIfInBounds_toArray, List.set_cons_zero, List.set_cons_succ]
      refine quiet_run rfl (.bool false) (fun w' _ => by rw [exec_neq50 _ _ rfl e e (by kernel_rfl) (by kernel_rfl) w', eqT_self]; rfl) ?_
      simp only [Act.put, List.setIfInBounds_toArray, List.set_cons_zero, List.set_cons_succ]
      refine wpQuiet_nil ?_
      intro w5 hB5
      have hB6 : Hid (Below w.heap.size w w5) := hB.out.trans (hB5.mono hws)
      clear hra' hra2' hB hB5
      go_wp2_with fail
      go_roundw
      case rel => exact ⟨i + 1, by omega, by go_num, hB6⟩
      case measure => simp [intOf]; omega
    · have hI : ¬ (i : Int) < (n : Int) := by omega
      go_wp2_with fail
      go_ret
      exact ⟨rfl, hB.out⟩
end Go.Proofs.Ytehgblnhhlgikaa.Bi
