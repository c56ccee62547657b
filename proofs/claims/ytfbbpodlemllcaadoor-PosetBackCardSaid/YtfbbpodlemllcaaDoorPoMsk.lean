/-
  Orders: lists of masks in memory; operations on masks.
-/
import Derived.Test.YtfbbpodlemllcaaDoorPoRange
namespace Go.Proofs.YtfbbpodlemllcaaDoor
open Go.RowKit Go.Shelf
set_option linter.unusedVariables false
set_option linter.unusedSimpArgs false
def encM (m : Nat) : Array Value := #[.int .u64 (m : Int)]
theorem encM_size (m : Nat) : (encM m).size = 1 := rfl
theorem encM_ones (m : Nat) : ∀ u ∈ (encM m).toList, u.oneCell' = true := by simp [encM, Value.oneCell']
abbrev Ms (w : World) (v : Value) (l : List Nat) : Prop := Rw 1 encM w v l
theorem el24 : Tryd.prog.elem 24 = 36 := by kernel_rfl
theorem un24 : Tryd.prog.underlying 24 = some (.slice (Tryd.prog.elem 24)) := by rw [el24]; exact Tryd.underlying24
theorem sz24 (w : World) : (sizeOf (Tryd.prog.elem 24)).run Tryd.prog w = .ok 1 w := by rw [el24]; kernel_rfl
theorem ms_cell {w : World} {g o m : Nat} (h : w.rangeAt g o (encM m).toList) : w.cell? ⟨g, o, none⟩ = some (.int .u64 (m : Int)) := h 0 _ rfl
section
variable {o : Oper} {a : Act} {w : World}
theorem exec_ixM (x ix : Operand) (ho : o.op = .indexAddr 24 x ix) (g off n c i : Nat) (hx : a.eval x = .slice (some ⟨g, off, none⟩) n c) (hi : a.eval ix = .int .i64 (i : Int)) (h : i < n) : (execOp a.eval o).run Tryd.prog w = .ok (.value (.pointer (some ⟨g, off + i, none⟩))) w := by
  have := exec_index (ty := 24) un24 sz24 x ix ho g off n c i hx hi h w
  rwa [Nat.mul_one] at this
theorem exec_shr (x y : Operand) (yt : TypeId) (ho : o.op = .binOp .shr 36 x y yt) (k : IntKind) (m b : Nat) (hx : a.eval x = .int .u64 (m : Int)) (hy : a.eval y = .int k (b : Int)) (hb : b ≤ 64) : (execOp a.eval o).run Tryd.prog w = .ok (.value (.int .u64 ((m / 2 ^ b : Nat) : Int))) w := by
  have h1 : (m : Int) / 2 ^ b = ((m / 2 ^ b : Nat) : Int) := by rw [Int.natCast_ediv]; simp
  have h2 : min b 64 = b := by omega
  have h3 : ¬ (b : Int) < 0 := by omega
  have h4 : (m : Int).fdiv (2 ^ b) = ((m / 2 ^ b : Nat) : Int) := by rw [← h1, Int.fdiv_eq_ediv_of_nonneg _ (by exact Int.le_of_lt (Int.pow_pos (by decide)))]
  unfold execOp
  simp [ho, hx, hy, eqGuard, binOp_shr, Op.shift, h3, IntKind.bits, h2, h4]
theorem exec_andM (x y : Operand) (ho : o.op = .binOp .and 36 x y 36) (m k : Nat) (hx : a.eval x = .int .u64 (m : Int)) (hy : a.eval y = .int .u64 (k : Int)) (hm : m < 18446744073709551616) (hk : k < 18446744073709551616) : (execOp a.eval o).run Tryd.prog w = .ok (.value (.int .u64 ((m &&& k : Nat) : Int))) w := by
  unfold execOp
  simp [ho, hx, hy, eqGuard, binOp_and, intBits_and, u64_and_nat m k hm hk]
theorem exec_andNotM (x y : Operand) (ho : o.op = .binOp .andNot 36 x y 36) (m k : Nat) (hx : a.eval x = .int .u64 (m : Int)) (hy : a.eval y = .int .u64 (k : Int)) (hm : m < 18446744073709551616) (hk : k < 18446744073709551616) : (execOp a.eval o).run Tryd.prog w = .ok (.value (.int .u64 ((m &&& (18446744073709551615 - k) : Nat) : Int))) w := by
  unfold execOp
  simp [ho, hx, hy, eqGuard, binOp_andNot, intBits_andNot, u64_andNot_nat m k hm hk]
theorem exec_orM (x y : Operand) (ho : o.op = .binOp .or 36 x y 36) (m k : Nat) (hx : a.eval x = .int .u64 (m : Int)) (hy : a.eval y = .int .u64 (k : Int)) (hm : m < 18446744073709551616) (hk : k < 18446744073709551616) : (execOp a.eval o).run Tryd.prog w = .ok (.value (.int .u64 ((m ||| k : Nat) : Int))) w := by
  unfold execOp
  simp [ho, hx, hy, eqGuard, binOp_or, intBits_or, u64_or_nat m k hm hk]
theorem exec_shl1 (y : Operand) (yt : TypeId) (ho : o.op = .binOp .shl 36 (.const (.int .u64 1)) y yt) (k : IntKind) (b : Nat) (hy : a.eval y = .int k (b : Int)) (hb : b < 64) : (execOp a.eval o).run Tryd.prog w = .ok (.value (.int .u64 ((2 ^ b : Nat) : Int))) w := by
  have h1 : 2 ^ b < 2 ^ 64 := Nat.pow_lt_pow_right (by omega) hb
  have h2 : IntKind.u64.wrap (2 ^ b) = ((2 ^ b : Nat) : Int) := by
    rw [IntKind.wrap_u64, show (2 : Int) ^ b = ((2 ^ b : Nat) : Int) by simp]
    generalize 2 ^ b = p at h1 ⊢
    omega
  have h3 : ¬ (b : Int) < 0 := by omega
  have h4 : min b 64 = b := by omega
  have hc : a.eval (.const (.int .u64 1)) = .int .u64 1 := rfl
  unfold execOp
  simp [ho, hc, hy, eqGuard, binOp_shl, Op.shift, h3, IntKind.bits, h4, h2]
theorem exec_store_cell (ty : TypeId) (x y : Operand) (ho : o.op = .store ty x y) (b k : Nat) (hx : a.eval x = .pointer (some ⟨b, k, none⟩)) (v : Value) (hy : a.eval y = v) (u : Value) (hu : w.cell? ⟨b, k, none⟩ = some u) (hf : w.frozen? ⟨b, k, none⟩ = false)
    (hs : ∀ w, (sizeOf ty).run Tryd.prog w = .ok 1 w) (hv : v.cells = #[v]) (h1 : v.oneCell' = true) : (execOp a.eval o).run Tryd.prog w = .ok .skip (w.setCell ⟨b, k, none⟩ v) := by
  unfold execOp
  simp only [ho, hx, hy, Instr.storeAt, Instr.sureAddr, Sem.run_bind, Sem.run_pure, Result.andThen_ok, storeVar, hs, hv]
  simp only [storeCells, List.size_toArray, List.length_cons, List.length_nil, Nat.zero_add, ne_eq, not_true_eq_false, if_false, Sem.run_bind, Sem.run_pure, Sem.run_ite, run_store _ _ _ _ _ h1, Addr.add_mid, Nat.add_zero, hu, hf, Bool.false_eq_true, Result.andThen_ok]
theorem wp_skipped {K : Act → World → Prop} {Q : Exit → Act → World → Prop} (w' : World) (he : (execOp a.eval o).run Tryd.prog w = .ok .skip w') (h : K (a.put o.dst undef) w') : o.wp Tryd.prog a w K Q := by
  unfold Oper.wp; rw [he]; exact h
theorem exec_eqM (x y : Operand) (ho : o.op = .binOp .eql 36 x y 36) (u v : Int) (hx : a.eval x = .int .u64 u) (hy : a.eval y = .int .u64 v) : (execOp a.eval o).run Tryd.prog w = .ok (.value (.bool (u == v))) w := by
  unfold execOp
  simp [ho, hx, hy, eqGuard, binOp_eql]
theorem exec_neM (x y : Operand) (ho : o.op = .binOp .neq 36 x y 36) (u v : Int) (hx : a.eval x = .int .u64 u) (hy : a.eval y = .int .u64 v) : (execOp a.eval o).run Tryd.prog w = .ok (.value (.bool (u != v))) w := by
  unfold execOp
  simp [ho, hx, hy, eqGuard, binOp_neq]
theorem exec_neI (x y : Operand) (ho : o.op = .binOp .neq 3 x y 3) (u v : Int) (hx : a.eval x = .int .i64 u) (hy : a.eval y = .int .i64 v) : (execOp a.eval o).run Tryd.prog w = .ok (.value (.bool (u != v))) w := by
  unfold execOp
  simp [ho, hx, hy, eqGuard, binOp_neq]
theorem exec_ltI (x y : Operand) (ho : o.op = .binOp .lss 3 x y 3) (u v : Int) (hx : a.eval x = .int .i64 u) (hy : a.eval y = .int .i64 v) : (execOp a.eval o).run Tryd.prog w = .ok (.value (.bool (decide (u < v)))) w := by
  unfold execOp
  simp [ho, hx, hy, eqGuard, binOp_lss]
end
theorem shr_int (m n : Nat) : (m : Int) / 2 ^ n = ((m / 2 ^ n : Nat) : Int) := by rw [Int.natCast_ediv]; simp
theorem low_bit0 (m b : Nat) : (((m / 2 ^ b &&& 1 : Nat) : Int) == 0) = !m.testBit b := by
  rw [nat_mask1, Nat.testBit_eq_decide_div_mod_eq]
  generalize hz : m / 2 ^ b % 2 = z
  have : z < 2 := by rw [← hz]; exact Nat.mod_lt _ (by decide)
  have h2 : z = 0 ∨ z = 1 := by omega
  rcases h2 with rfl | rfl <;> rfl
theorem bit_val0 (m b : Nat) (hm : m < 18446744073709551616) : (bits BinOp.and IntKind.u64 ((m : Int) / 2 ^ b) 1 == 0) = !m.testBit b := by
  rw [shr_int, show (1 : Int) = ((1 : Nat) : Int) from rfl, u64_and_nat _ 1 (Nat.lt_of_le_of_lt (Nat.div_le_self _ _) hm) (by decide), low_bit0]
theorem low_bit1 (m b : Nat) : (((m / 2 ^ b &&& 1 : Nat) : Int) == 1) = m.testBit b := by
  rw [nat_mask1, Nat.testBit_eq_decide_div_mod_eq]
  generalize hz : m / 2 ^ b % 2 = z
  have : z < 2 := by rw [← hz]; exact Nat.mod_lt _ (by decide)
  have h2 : z = 0 ∨ z = 1 := by omega
  rcases h2 with rfl | rfl <;> rfl
theorem nat_zero (m : Nat) : ((m : Int) == 0) = decide (m = 0) := by
  rw [Bool.eq_iff_iff]; simp
theorem nat_ne_zero (m : Nat) : ((m : Int) != 0) = decide (m ≠ 0) := by
  rw [bne, nat_zero]; by_cases h : m = 0 <;> simp [h]
/-- No bit is left out: the masks' difference is none. -/
theorem andNot_zero {m k : Nat} (hm : m < 18446744073709551616) (hk : k < 18446744073709551616) : m &&& (18446744073709551615 - k) = 0 ↔ ∀ j, m.testBit j = true → k.testBit j = true := by
  have e : ∀ j, (m &&& (18446744073709551615 - k)).testBit j = (m.testBit j && !k.testBit j) := fun j => by
    rw [Nat.testBit_and, show 18446744073709551615 - k = 2 ^ 64 - (k + 1) by omega, Nat.testBit_two_pow_sub_succ hk]
    by_cases hj : j < 64
    · simp [hj]
    · have : m.testBit j = false := Nat.testBit_lt_two_pow (Nat.lt_of_lt_of_le hm (Nat.pow_le_pow_right (n := 2) (i := 64) (by decide) (by omega)))
      simp [this]
  constructor
  · intro h j hj
    have := e j
    rw [h, Nat.zero_testBit, hj, Bool.true_and] at this
    simpa using this
  · intro h
    apply Nat.eq_of_testBit_eq
    intro j
    rw [e j, Nat.zero_testBit]
    cases hj : m.testBit j with
    | false => rfl
    | true => rw [h j hj]; rfl
theorem shr_zero {m n : Nat} : m / 2 ^ n = 0 ↔ ∀ j, m.testBit j = true → j < n := by
  rw [Nat.div_eq_zero_iff]
  constructor
  · rintro (h | h) j hj
    · exact absurd h (Nat.ne_of_gt (Nat.two_pow_pos n))
    · refine Decidable.byContradiction fun hn => ?_
      rw [Nat.testBit_lt_two_pow (Nat.lt_of_lt_of_le h (Nat.pow_le_pow_right (by decide) (by omega)))] at hj
      cases hj
  · intro h
    refine .inr (Nat.lt_pow_two_of_testBit _ fun j hj => ?_)
    cases hb : m.testBit j with
    | false => rfl
    | true => have := h j hb; omega
theorem bit_lt {m j : Nat} (hm : m < 18446744073709551616) (hj : m.testBit j = true) : j < 64 := by
  refine Decidable.byContradiction fun hn => ?_
  rw [Nat.testBit_lt_two_pow (Nat.lt_of_lt_of_le hm (Nat.pow_le_pow_right (n := 2) (i := 64) (by decide) (by omega)))] at hj
  cases hj
/-- A result in a cell. -/
theorem results_cell1 {P : Program} {fn : Func} {p : Tmp} {ty t : TypeId} (h : fn.results = #[.cell p ty]) (tmps : Array Value) (w : World) (g : Nat) (v : Value) (fr : Nat × Nat)
    (hp : tmps.getD p undef = .pointer (some ⟨g, 0, none⟩)) (hg : w.heap[g]? = some (.cells #[v] t fr)) (hag : ∀ w, (isAgg ty).run P w = .ok false w) : (results fn tmps).run P w = .ok v w := by
  have hp' : tmps[p]?.getD undef = .pointer (some ⟨g, 0, none⟩) := by simpa using hp
  have hc : w.cell? ⟨g, 0, none⟩ = some v := by rw [cell_of_row _ _ _ _ _ _ hg]; rfl
  simp [results, h, hp', asAddr, loadVar, Sem.run_bind, hag, hc]
end Go.Proofs.YtfbbpodlemllcaaDoor
