/-
  SHA-256: a hash of which nothing was written.
-/
import Derived.Test.YtnaknnnobcnnfaaShaSpec
import Derived.OwnWalk
namespace Go.Proofs.Ytnaknnnobcnnfaa.Sha
open Go.RowKit
set_option linter.unusedVariables false
set_option linter.unusedSimpArgs false
/-- A Hash's cells: the state, the rest, the count. -/
def hashC (s : List Nat) (v : Value) (n : Nat) : Array Value := words s ++ #[v, .int .u64 (n : Int)]
theorem new_calls (w : World) : Calls Try.prog 12 #[] w fun e w' => ∃ g, e = .returned (.pointer (some ⟨g, 0, none⟩)) ∧ w.heap.size ≤ g ∧ w'.heap[g]? = some (.cells (hashC IV (.slice none 0 0) 0) 46 (0, 0)) ∧ Below w.heap.size w w' := by
  go_enter Try.func12, Try.ntmps12
  go_upto_region 1 with fail
  refine wp_region_lit ?_
  refine sl_call rfl 18 #[] (by kernel_rfl) (R := fun v w' => v = .agg (words IV) ∧ w' = w.alloc (.cells (words IV) 43)) ((begun_calls w).mono fun e w' h => ⟨_, h.1, rfl, h.2⟩) ?_
  rintro v w2 ⟨rfl, rfl⟩
  refine sl_build rfl 46 _ rfl (hashC IV (.slice none 0 0) 0) (by kernel_rfl) ?_
  refine sl_run rfl (.pointer (some ⟨w.heap.size + 1, 0, none⟩)) ((w.alloc (.cells (words IV) 43)).alloc (.cells (hashC IV (.slice none 0 0) 0) 46)) (by rw [show w.heap.size + 1 = (w.alloc (.cells (words IV) 43)).heap.size by simp]; kernel_rfl) ?_
  refine sl_run rfl (.pointer (some ⟨w.heap.size + 1, 0, none⟩)) ((w.alloc (.cells (words IV) 43)).alloc (.cells (hashC IV (.slice none 0 0) 0) 46)) (by kernel_rfl) ?_
  refine wpList_nil ?_
  rename_i hK
  refine hK _ _ (wp_ret (bodyPost_ret (v := .pointer (some ⟨w.heap.size + 1, 0, none⟩)) (by kernel_rfl) (by kernel_rfl) ⟨_, rfl, by omega, heap_alloc2_new _ _ _, ((Below.refl _ _).alloc (by simp) _).alloc (by simp) _⟩))
end Go.Proofs.Ytnaknnnobcnnfaa.Sha
