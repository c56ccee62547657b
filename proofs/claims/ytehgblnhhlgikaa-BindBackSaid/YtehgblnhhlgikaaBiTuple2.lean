/-
  Bindings: tuples that are one are told alike; what the kinds of comparisons ask.
-/
import Derived.Test.YtehgblnhhlgikaaBiTuple
namespace Go.Proofs.Ytehgblnhhlgikaa.Bi
open Go.RowKit
set_option linter.unusedVariables false
set_option linter.unusedSimpArgs false
set_option pp.maxSteps 50000
set_option maxRecDepth 100000 in
set_option maxHeartbeats 1000000 in
theorem sameT_calls (p : ByteArray) (l : List V2) (A A2 : Option Addr) (n c c2 : Nat) (hp : p.size ≤ 9223372036854775807) (hl : ∀ v ∈ l, v.ok) (hn : n = l.length) (hn9 : n ≤ 4000000) (w : World) (hy : Rw 2 V2.c w (.slice A n c) l) (hz : Rw 2 V2.c w (.slice A2 n c2) l) :
    Calls Try.prog 17 #[.agg #[.string p, .slice A n c], .agg #[.string p, .slice A2 n c2]] w fun e w' => e = .returned (.bool true) ∧ Below w.heap.size w w' := by
  have hyH : Hid (Rw 2 V2.c w (.slice A n c) l) := hy
  have hzH : Hid (Rw 2 V2.c w (.slice A2 n c2) l) := hz
  have hn' : Hid (n = l.length) := hn
  have hlH : Hid (∀ v ∈ l, v.ok) := hl
  clear hy hz hn hl
  go_enter Try.func17, Try.ntmps17
  go_upto_region 1 with fail
  generalize hW : World.alloc _ _ = W
  have hW0 : W.heap[w.heap.size]? = some (.cells #[.string p, .slice A n c] 27 (0, 0)) := by rw [← hW]; exact heap_alloc2_old w _ _
  have hW1 : W.heap[w.heap.size + 1]? = some (.cells #[.string p, .slice A2 n c2] 27 (0, 0)) := by rw [← hW]; exact heap_alloc2_new w _ _
  have hWB : Below w.heap.size w W := by rw [← hW]; exact ((Below.refl _ _).alloc (Nat.le_refl _) _).alloc (by simp) _
  clear hW
  refine wp_region_lit ?_
  refine sl_run rfl (.agg #[.string p, .slice A n c]) W (exec_load_row 27 W _ rfl w.heap.size (by kernel_rfl) 27 _ (0, 0) _ hW0 Try.underlying27 rfl (by kernel_rfl)) ?_
  refine sl_run rfl (.agg #[.string p, .slice A2 n c2]) W (exec_load_row 27 W _ rfl (w.heap.size + 1) (by kernel_rfl) 27 _ (0, 0) _ hW1 Try.underlying27 rfl (by kernel_rfl)) ?_
  simp only [Act.put, List.setIfInBounds_toArray, List.set_cons_zero, List.set_cons_succ]
  refine sl_call rfl 28 #[.agg #[.string p, .slice A n c], .agg #[.string p, .slice A2 n c2]] (by kernel_rfl) (R := fun v w' => v = .int .i64 0 ∧ Below W.heap.size W w') ((order_calls p l A A2 n c c2 hp hlH.out hn'.out hn9 W (hyH.out.below hWB) (hzH.out.below hWB)).mono fun e w' h => ⟨_, h.1, rfl, h.2⟩) ?_
  rintro _ w5 ⟨rfl, hB5⟩
  refine sl_run rfl (.bool true) w5 (by kernel_rfl) ?_
  refine sl_run rfl (.bool true) w5 (by kernel_rfl) ?_
  refine wpList_nil ?_
  simp only [Act.put, List.setIfInBounds_toArray, List.set_cons_zero, List.set_cons_succ]
  have hB6 : Below w.heap.size w w5 := hWB.trans (hB5.mono hWB.size)
  clear hW0 hW1 hWB hB5
  go_wp2_with fail
  go_ret
  exact ⟨rfl, hB6⟩
theorem less_calls (a : Int) (w : World) : Calls Try.prog 33 #[.int .i64 a] w fun e w' => e = .returned (.bool (decide (a < 0))) ∧ w' = w := by
  go_enter Try.func33, Try.ntmps33
  go_wp2_with fail
  go_ret
  exact ⟨rfl, rfl⟩
theorem unlike_calls (a : Int) (w : World) : Calls Try.prog 34 #[.int .i64 a] w fun e w' => e = .returned (.bool (a != 0)) ∧ w' = w := by
  go_enter Try.func34, Try.ntmps34
  go_wp2_with fail
  go_ret
  exact ⟨rfl, rfl⟩
end Go.Proofs.Ytehgblnhhlgikaa.Bi
