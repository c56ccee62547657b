/-
  SHA-256: the constants and the first state; laws on one operation.
-/
import Derived.Test.YtnaknnnobcnnfaaShaLeaf
import Derived.Deep.WholeRow
import Derived.Deep.MidRow
import Derived.Deep.Cut
namespace Go
section
variable {P : Program} {ops : Array Oper} {rest : List Oper} {o : Oper} {a : Act} {w : World} {Q : Exit → Act → World → Prop}
theorem sl_build (hg : o.guard = none) (t : TypeId) (parts : Array (Nat × Operand)) (ho : o.op = .build t parts) (cells : Array Value)
    (hf : P.built t (parts.map fun (i, x) => (i, a.eval x)).toList = some cells)
    (h : wpList P ops Q rest (a.put o.dst (.agg cells)) w) : wpList P ops Q (o :: rest) a w :=
  wpList_build hg t parts ho (by rw [hf]; rfl) (by rw [hf]; exact h)
theorem sl_run (hg : o.guard = none) (v : Value) (w' : World) (he : (execOp a.eval o).run P w = .ok (.value v) w')
    (k : wpList P ops Q rest (a.put o.dst v) w') : wpList P ops Q (o :: rest) a w :=
  wpList_plain hg fun _ hK => by unfold Oper.wp; rw [he]; exact hK _ _ k
theorem sl_call (hg : o.guard = none) (f : FuncId) (args : Array Value) (he : (execOp a.eval o).run P w = .ok (.enter f args) w) {R : Value → World → Prop}
    (hc : Calls P f args w fun e w' => ∃ v, e = .returned v ∧ R v w')
    (k : ∀ v w', R v w' → wpList P ops Q rest (a.put o.dst v) w') : wpList P ops Q (o :: rest) a w :=
  wpList_plain hg fun _ hK => by
    unfold Oper.wp; rw [he, Oper.upon_enter]
    exact hc.mono fun e w' h => by obtain ⟨v, rfl, hR⟩ := h; exact hK _ _ (k v w' hR)
end
end Go
namespace Go.Proofs.Ytnaknnnobcnnfaa.Sha
open Go.RowKit
set_option linter.unusedVariables false
/-- The rounds' constants; the first state. -/
def KL : List Nat := [1116352408, 1899447441, 3049323471, 3921009573, 961987163, 1508970993, 2453635748, 2870763221, 3624381080, 310598401, 607225278, 1426881987, 1925078388, 2162078206, 2614888103, 3248222580, 3835390401, 4022224774, 264347078, 604807628, 770255983, 1249150122, 1555081692, 1996064986, 2554220882, 2821834349, 2952996808, 3210313671, 3336571891, 3584528711, 113926993, 338241895, 666307205, 773529912, 1294757372, 1396182291, 1695183700, 1986661051, 2177026350, 2456956037, 2730485921, 2820302411, 3259730800, 3345764771, 3516065817, 3600352804, 4094571909, 275423344, 430227734, 506948616, 659060556, 883997877, 958139571, 1322822218, 1537002063, 1747873779, 1955562222, 2024104815, 2227730452, 2361852424, 2428436474, 2756734187, 3204031479, 3329325298]
def IV : List Nat := [1779033703, 3144134277, 1013904242, 2773480762, 1359893119, 2600822924, 528734635, 1541459225]
/-- Words as a row of cells. -/
def words (l : List Nat) : Array Value := (l.map fun (n : Nat) => Value.int .u32 (n : Int)).toArray
theorem words_set (l : List Nat) (i n : Nat) : (words l).setIfInBounds i (.int .u32 (n : Int)) = words (l.set i n) := by
  apply Array.ext'
  simp [words]
theorem words_size (l : List Nat) : (words l).size = l.length := by simp [words]
theorem words_get (l : List Nat) (i : Nat) (h : i < l.length) : (words l)[i]? = some (.int .u32 (l.getD i 0 : Nat)) := by
  simp [words, h]
set_option maxRecDepth 100000 in
theorem constants_calls (w : World) : Calls Try.prog 22 #[] w fun e w' => e = .returned (.agg (words KL)) ∧ w' = w.alloc (.cells (words KL) 48) := by
  go_enter Try.func22, Try.ntmps22
  go_upto_region 1 with fail
  refine wp_region_lit ?_
  refine sl_build rfl 48 _ rfl (words KL) (by kernel_rfl) ?_
  refine wpList_store_row rfl 48 _ _ rfl w.heap.size (words KL) rfl (by kernel_rfl) 48 _ (heap_alloc_new w _) (by kernel_rfl) (by kernel_rfl) (by kernel_rfl) ?_
  rw [World.setRow_alloc_new]
  refine wpList_nil ?_
  rename_i hK
  refine hK _ _ (wp_ret (bodyPost_ret (results_cell_row rfl _ _ w.heap.size 48 (words KL) (0, 0) _ rfl (heap_alloc_new w _) Try.underlying48 rfl (by kernel_rfl)) rfl ⟨rfl, rfl⟩))
theorem begun_calls (w : World) : Calls Try.prog 18 #[] w fun e w' => e = .returned (.agg (words IV)) ∧ w' = w.alloc (.cells (words IV) 43) := by
  go_enter Try.func18, Try.ntmps18
  go_wp2
  refine bodyPost_ret (results_cell_row rfl _ _ w.heap.size 43 (words IV) (0, 0) _ rfl (heap_alloc_new w _) Try.underlying43 rfl (by kernel_rfl)) rfl ⟨rfl, rfl⟩
end Go.Proofs.Ytnaknnnobcnnfaa.Sha
