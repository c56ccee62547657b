/-
  SHA-256: a state behind so many blocks has eight words; a block's bytes kept.
-/
import Derived.Test.YtnaknnnobcnnfaaShaHex
import Derived.StillTail
namespace Go.Proofs.Ytnaknnnobcnnfaa.Sha
open Go.RowKit
set_option linter.unusedVariables false
set_option linter.unusedSimpArgs false
theorem blk_length (s : List Nat) (hs : s.length = 8) (B : Nat → Nat) : (blk s B).length = 8 := by
  rw [blk, t4_length, t3_length _ _ hs]
theorem t4_lt (T s : List Nat) (hT : ∀ x ∈ T, x < 4294967296) : ∀ i, ∀ x ∈ t4 T s i, x < 4294967296
  | 0 => hT
  | i + 1 => fun x hx => by
    rw [t4] at hx
    rcases List.mem_or_eq_of_mem_set hx with h | h
    · exact t4_lt T s hT i x h
    · omega
theorem mem_lt_of_getD {l : List Nat} {b : Nat} (h : ∀ j, l.getD j 0 < b) : ∀ x ∈ l, x < b := fun x hx => by
  obtain ⟨j, hj, rfl⟩ := List.getElem_of_mem hx
  have := h j
  simpa [hj] using this
theorem blk_lt (s : List Nat) (hs : s.length = 8) (hsw : ∀ x ∈ s, x < 4294967296) (B : Nat → Nat) : ∀ x ∈ blk s B, x < 4294967296 :=
  t4_lt _ _ (mem_lt_of_getD (t3_lt s _ hs hsw 64)) 8
theorem st_length (s l : List Nat) (hs : s.length = 8) : ∀ j, (st s l j).length = 8
  | 0 => hs
  | j + 1 => blk_length _ (st_length s l hs j) _
theorem st_lt (s l : List Nat) (hs : s.length = 8) (hsw : ∀ x ∈ s, x < 4294967296) : ∀ j, ∀ x ∈ st s l j, x < 4294967296
  | 0 => hsw
  | j + 1 => blk_lt _ (st_length s l hs j) (st_lt s l hs hsw j) _
theorem IV_length : IV.length = 8 := rfl
theorem IV_lt : ∀ x ∈ IV, x < 4294967296 := by decide
theorem getD_lt {l : List Nat} {b : Nat} (hb : 0 < b) (h : ∀ x ∈ l, x < b) (j : Nat) : l.getD j 0 < b := by
  rw [List.getD_eq_getElem?_getD]
  by_cases hj : j < l.length
  · rw [List.getElem?_eq_getElem hj]; exact h _ (List.getElem_mem hj)
  · rw [List.getElem?_eq_none (by omega)]; exact hb
/-- A list's bytes lie in a block from a place on. -/
def Lies (w : World) (g o : Nat) (l : List Nat) : Prop := ∀ j, j < l.length → w.cell? ⟨g, o + j, none⟩ = some (.int .u8 (l.getD j 0 : Nat))
theorem Lies.below {w w' : World} {g o B : Nat} {l : List Nat} (h : Lies w g o l) (hb : Below B w w') (hg : g < B) : Lies w' g o l := fun j hj => by
  rw [hb.cell hg]; exact h j hj
theorem Lies.block {w w' : World} {g o : Nat} {l : List Nat} (h : Lies w g o l) (hb : w'.heap[g]? = w.heap[g]?) : Lies w' g o l := fun j hj => by
  rw [World.cell?_of_block (w := w) hb]; exact h j hj
theorem Lies.drop {w : World} {g o : Nat} {l : List Nat} (h : Lies w g o l) (i : Nat) : Lies w g (o + i) (l.drop i) := fun j hj => by
  rw [List.length_drop] at hj
  rw [getD_drop, show o + i + j = o + (i + j) by omega]
  exact h _ (by omega)
theorem Lies.take {w : World} {g o : Nat} {l : List Nat} (h : Lies w g o l) (i : Nat) : Lies w g o (l.take i) := fun j hj => by
  rw [List.length_take] at hj
  have := h j (by omega)
  rw [this]; congr 3
  rw [List.getD_eq_getElem?_getD, List.getD_eq_getElem?_getD, List.getElem?_take_of_lt (by omega)]
theorem vals_length (l : List Nat) : (vals l).length = l.length := by simp [vals]
theorem vals_append (a b : List Nat) : vals (a ++ b) = vals a ++ vals b := by simp [vals]
theorem vals_get (l : List Nat) (j : Nat) (h : j < l.length) : (vals l)[j]? = some (.int .u8 (l.getD j 0 : Nat)) := by
  simp [vals, h]
theorem Lies.vals {w : World} {g o : Nat} {l : List Nat} (h : Lies w g o l) : ∀ (j : Nat) (u : Value), (vals l)[j]? = some u → w.cell? ((⟨g, o, none⟩ : Addr).add j) = some u := fun j u hu => by
  have hj : j < l.length := by have := (List.getElem?_eq_some_iff.1 hu).1; rwa [vals_length] at this
  rw [Addr.add_mid, h j hj, ← vals_get l j hj]; exact hu
theorem vals_one (l : List Nat) : ∀ u ∈ vals l, u.oneCell' = true := fun u hu => by simp [Sha.vals] at hu; obtain ⟨n, _, rfl⟩ := hu; rfl
theorem lies_own {w : World} {base g n cap : Nat} {l : List Nat} (h : w.ownsRow base 5 1 (.slice (some ⟨g, 0, none⟩) n cap) n (vals l)) : Lies w g 0 l := fun j hj => by
  have hn : n = l.length := by have := h.1; rw [vals_length] at this; omega
  rw [Nat.zero_add, h.cellAt j (by omega), vals_get l j hj]
theorem Lies.setRow {w : World} {g o k : Nat} {l : List Nat} (h : Lies w g o l) (hk : g ≠ k) (cs : Array Value) : Lies (w.setRow k cs) g o l :=
  h.block (setRow_other _ _ _ _ hk)
theorem Lies.setCell {w : World} {g o : Nat} {l : List Nat} (h : Lies w g o l) {a : Addr} (hk : g ≠ a.block) (u : Value) : Lies (w.setCell a u) g o l :=
  h.block (Below.heap_setCell _ _ _ _ hk)
theorem Lies.lt {w : World} {g o : Nat} {l : List Nat} (h : Lies w g o l) (hl : 0 < l.length) : g < w.heap.size := World.block_lt_of_cell? w _ (h 0 hl)
theorem outB_length (s : List Nat) : (outB s).length = 32 := by simp [outB]
theorem outB_lt (s : List Nat) : ∀ j, (outB s).getD j 0 < 256 := getD_lt (by decide) (fun x hx => by
  simp only [outB, List.mem_map] at hx
  obtain ⟨i, _, rfl⟩ := hx
  exact Nat.mod_lt _ (by decide))
theorem sumB_length (l : List Nat) : (sumB l).length = 32 := outB_length _
theorem sumB_lt (l : List Nat) : ∀ j, (sumB l).getD j 0 < 256 := outB_lt _
/-- The first i of a state's bytes, behind them zeros. -/
def outT (s : List Nat) (i : Nat) : List Nat := (outB s).take i ++ zeros (32 - i)
theorem zeros_len (n : Nat) : (zeros n).length = n := by simp [zeros]
theorem outT_full (s : List Nat) : outT s 32 = outB s := by
  unfold outT; rw [List.take_of_length_le (by rw [outB_length]; omega)]; simp [zeros]
theorem outT_set (s : List Nat) (i : Nat) (hi : i < 32) : (outT s i).set i (s.getD (i / 4) 0 / 2 ^ (24 - 8 * (i % 4)) % 256) = outT s (i + 1) := by
  have e : zeros (32 - i) = 0 :: zeros (32 - (i + 1)) := by
    unfold zeros; rw [show 32 - i = (32 - (i + 1)) + 1 by omega]; rfl
  have hl : ((outB s).take i).length = i := by rw [List.length_take, outB_length]; omega
  unfold outT
  rw [e, List.set_append_right _ _ (by omega), hl, Nat.sub_self, List.set_cons_zero, List.take_add_one, List.append_assoc]
  congr 1
  have : (outB s)[i]? = some (s.getD (i / 4) 0 / 2 ^ (24 - 8 * (i % 4)) % 256) := by
    unfold outB; rw [List.getElem?_map, List.getElem?_range hi]; rfl
  rw [this]; rfl
theorem outT_len (s : List Nat) (i : Nat) (hi : i ≤ 32) : (outT s i).length = 32 := by
  unfold outT; rw [List.length_append, List.length_take, outB_length, zeros_len]; omega
theorem bytesC_setv (l : List Nat) (i n : Nat) : (bytesC l).setIfInBounds i (.int .u8 (n : Int)) = bytesC (l.set i n) := by
  apply Array.ext'
  simp [bytesC]
theorem bytesC_one (l : List Nat) : (bytesC l).all (·.oneCell') = true := by
  rw [Array.all_eq_true_iff_forall_mem]
  intro v hv
  simp [bytesC] at hv
  obtain ⟨n, _, rfl⟩ := hv
  rfl
theorem bytesC_size (l : List Nat) : (bytesC l).size = l.length := by simp [bytesC]
theorem elem22 : Try.prog.elem 22 = 5 := by kernel_rfl
theorem under22 : Try.prog.underlying 22 = some (.slice (Try.prog.elem 22)) := by rw [elem22]; exact Try.underlying22
theorem size5 (w : World) : (sizeOf (Try.prog.elem 22)).run Try.prog w = .ok 1 w := by rw [elem22]; kernel_rfl
/-- A slice of a list of bytes. -/
theorem exec_slice_lh {o : Oper} {a : Act} (x lo hi : Operand) (ho : o.op = .slice 22 x (some lo) (some hi) none) (g off n cap l h : Nat) (hx : a.eval x = .slice (some ⟨g, off, none⟩) n cap)
    (hl : a.eval lo = .int .i64 (l : Int)) (hh : a.eval hi = .int .i64 (h : Int)) (h1 : l < h) (h2 : h ≤ cap) (w : World) :
    (execOp a.eval o).run Try.prog w = .ok (.value (.slice (some ⟨g, off + l, none⟩) (h - l) (cap - l))) w := by
  unfold execOp
  simp only [ho, Option.map_some, Option.map_none, hx, hl, hh, Sem.run_bind, run_sliceAt_slice w 22 _ _ _ _ under22, run_slice_lh w 22 _ n cap under22 .i64 .i64 (l : Int) (h : Int) (by omega) (by omega) (by omega), size5, Result.andThen_ok, Sem.run_pure, sliced, Int.toNat_natCast, if_neg (show ¬ cap = l by omega), Nat.mul_one, Option.map_some, Addr.add_mid]
theorem exec_slice_l {o : Oper} {a : Act} (x lo : Operand) (ho : o.op = .slice 22 x (some lo) none none) (g off n cap l : Nat) (hx : a.eval x = .slice (some ⟨g, off, none⟩) n cap)
    (hl : a.eval lo = .int .i64 (l : Int)) (h1 : l ≤ n) (w : World) :
    (execOp a.eval o).run Try.prog w = .ok (.value (.slice (some ⟨g, if cap = l then off else off + l, none⟩) (n - l) (cap - l))) w := by
  unfold execOp
  simp only [ho, Option.map_some, Option.map_none, hx, hl, Sem.run_bind, run_sliceAt_slice w 22 _ _ _ _ under22, run_slice_l w 22 _ n cap under22 .i64 (l : Int) (by omega) (by omega), size5, Result.andThen_ok, Sem.run_pure, sliced, Int.toNat_natCast, Nat.mul_one, Option.map_some, Addr.add_mid]
  split <;> rfl
theorem exec_slice_l0 {o : Oper} {a : Act} (x lo : Operand) (ho : o.op = .slice 22 x (some lo) none none) (hx : a.eval x = .slice none 0 0)
    (hl : a.eval lo = .int .i64 0) (w : World) :
    (execOp a.eval o).run Try.prog w = .ok (.value (.slice none 0 0)) w := by
  unfold execOp
  simp only [ho, Option.map_some, Option.map_none, hx, hl, Sem.run_bind, run_sliceAt_slice w 22 _ _ _ _ under22, run_slice_l w 22 _ 0 0 under22 .i64 0 (by omega) (by omega), size5, Result.andThen_ok, Sem.run_pure, sliced, Int.toNat_zero, Nat.mul_one, Option.map_none]
  rfl
theorem still_run {P : Program} {ops : Array Oper} {rest : List Oper} {o : Oper} {a : Act} {w : World} {Q : Act → Prop} (hg : o.guard = none) (v : Value) (he : (execOp a.eval o).run P w = .ok (.value v) w)
    (k : wpStill P ops w Q rest (a.put o.dst v)) : wpStill P ops w Q (o :: rest) a := by
  rw [wpStill, if_pos (by simp [Region.wanted, hg])]
  unfold Oper.still
  rw [he, Oper.stillUpon_value]
  exact k
theorem exec_load_row {P : Program} {o : Oper} (ty : TypeId) {a : Act} (w : World) (x : Operand) (ho : o.op = .load ty x) (g : Nat) (hx : a.eval x = .pointer (some ⟨g, 0, none⟩)) (t : TypeId) (cs : Array Value) (fr : Nat × Nat) (d : TypeDesc) (hg : w.heap[g]? = some (.cells cs t fr))
    (hu : P.underlying ty = some d) (hd : (match d with | .struct _ | .array _ _ => true | _ => false) = true) (hi : (P.info? ty).map (·.size) = some cs.size) : (execOp a.eval o).run P w = .ok (.value (.agg cs)) w := by
  unfold execOp
  simp only [ho, hx, Instr.loadAt, Instr.sureAddr, Sem.run_bind, Sem.run_pure, Result.andThen_ok, run_loadVar_row w g t ty cs fr d hg hu hd hi]
theorem pad_lt (l : List Nat) (n : Nat) (hb : ∀ j, l.getD j 0 < 256) : ∀ j, (pad l n).getD j 0 < 256 := getD_lt (by decide) (fun x hx => by
  simp only [pad, tailB, lenB, List.mem_append, List.mem_cons, List.mem_replicate, List.mem_map] at hx
  rcases hx with h | rfl | ⟨_, rfl⟩ | ⟨i, _, rfl⟩
  · exact mem_lt_of_getD hb x h
  · decide
  · decide
  · exact Nat.mod_lt _ (by decide))
end Go.Proofs.Ytnaknnnobcnnfaa.Sha
