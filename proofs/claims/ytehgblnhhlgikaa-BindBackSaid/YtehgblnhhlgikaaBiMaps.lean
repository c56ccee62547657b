/-
  Bindings: the map of what the kinds of comparisons ask.
-/
import Derived.Test.YtehgblnhhlgikaaBiTuple2
import Derived.WideMake
namespace Go.Proofs.Ytehgblnhhlgikaa.Bi
open Go.RowKit
set_option linter.unusedVariables false
set_option linter.unusedSimpArgs false
set_option pp.maxSteps 50000
/-- A world in which block r holds something else. -/
def putMap (w : World) (r : Nat) (es : Array MapEntry) (clock : Nat) : World := { w with heap := w.heap.setIfInBounds r (.map es clock) }
theorem putMap_at (w : World) (r : Nat) (es : Array MapEntry) (clock : Nat) (h : r < w.heap.size) : (putMap w r es clock).heap[r]? = some (.map es clock) := by
  simp [putMap, h]
theorem putMap_below {a w : World} {B r : Nat} (h : Below B a w) (hr : B ≤ r) (es : Array MapEntry) (clock : Nat) : Below B a (putMap w r es clock) :=
  ⟨h.os, h.tape, h.output, by simp [putMap]; exact h.size, fun k hk => by rw [← h.block k hk]; simp only [putMap]; rw [Array.getElem?_setIfInBounds_ne (by omega)]⟩
theorem run_put (W : World) (r clock : Nat) (es : Array MapEntry) (k : Int) (val : Value) (hb : W.heap[r]? = some (.map es clock)) (hf : Instr.findNow (.int .u8) (.int .u8 k) es.toList 0 = some none) :
    (Instr.mapUpdate 57 (.map (some r)) (.int .u8 k) val).run Try.prog W = .ok () (putMap W r (es.push { key := .int .u8 k, val := val, born := clock }) (clock + 1)) := by
  have hc : (Instr.checkKey false 10000 5 (.int .u8 k)).run Try.prog W = .ok () W := MapKept.run_checkKey (k := .int .u8 k) Try.underlying5 (by simp [MapKept.IsKey]) false 9999
  simp [Instr.mapUpdate, run_underlying Try.underlying57, MapKept.run_getObj_map hb, hc, MapKept.run_findKey Try.underlying5 hf, MapKept.run_setObj_map _ hb, Result.andThen, putMap]
theorem wpList_insert {ops : Array Oper} {rest : List Oper} {o : Oper} {a : Act} {w : World} {Q : Exit → Act → World → Prop} (hg : o.guard = none) (m x y : Operand) (ho : o.op = .insert 57 m x y) (r clock : Nat) (es : Array MapEntry) (k : Int) (val : Value) (hm : a.eval m = .map (some r)) (hx : a.eval x = .int .u8 k) (hy : a.eval y = val) (hb : w.heap[r]? = some (.map es clock)) (hf : Instr.findNow (.int .u8) (.int .u8 k) es.toList 0 = some none)
    (h : wpList Try.prog ops Q rest (a.put o.dst undef) (putMap w r (es.push { key := .int .u8 k, val := val, born := clock }) (clock + 1))) : wpList Try.prog ops Q (o :: rest) a w :=
  wpList_plain hg fun _ hK => by
    unfold Oper.wp execOp
    simp only [ho, hm, hx, hy, Sem.run_bind, run_put w r clock es k val hb hf, Result.andThen_ok, Sem.run_pure, Oper.upon]
    exact hK _ _ h
/-- What the two kinds ask. -/
def asks : Array MapEntry := #[{ key := .int .u8 3, val := .func (.func 33) #[] #[], born := 0 }, { key := .int .u8 4, val := .func (.func 34) #[] #[], born := 1 }]
set_option maxRecDepth 100000 in
set_option maxHeartbeats 1000000 in
theorem compares_calls (w : World) : Calls Try.prog 25 #[] w fun e w' => ∃ g, e = .returned (.map (some g)) ∧ w'.heap[g]? = some (.map asks 2) ∧ Below w.heap.size w w' := by
  go_enter Try.func25, Try.ntmps25
  go_upto_region 1 with fail
  refine wp_region_lit ?_
  refine sl_run rfl (.map (some w.heap.size)) (w.alloc (.map #[] 0)) (by kernel_rfl) ?_
  refine wpList_insert rfl _ _ _ rfl w.heap.size 0 #[] 3 (.func (.func 33) #[] #[]) (by kernel_rfl) (by kernel_rfl) (by kernel_rfl) (heap_alloc_new _ _) (by kernel_rfl) ?_
  have hB0 : Below w.heap.size w (putMap (w.alloc (.map #[] 0)) w.heap.size (#[].push { key := .int .u8 3, val := .func (.func 33) #[] #[], born := 0 }) 1) := putMap_below ((Below.refl _ _).alloc (Nat.le_refl _) _) (Nat.le_refl _) _ _
  have h0 := putMap_at (w.alloc (.map #[] 0)) w.heap.size (#[].push { key := .int .u8 3, val := .func (.func 33) #[] #[], born := 0 }) 1 (by simp)
  generalize putMap _ _ _ _ = w3 at hB0 h0
  refine wpList_insert rfl _ _ _ rfl w.heap.size 1 _ 4 (.func (.func 34) #[] #[]) (by kernel_rfl) (by kernel_rfl) (by kernel_rfl) h0 (by kernel_rfl) ?_
  have hlt : w.heap.size < w3.heap.size := (Array.getElem?_eq_some_iff.1 h0).1
  have hB1 := putMap_below hB0 (Nat.le_refl _) ((#[].push { key := .int .u8 3, val := .func (.func 33) #[] #[], born := 0 } : Array MapEntry).push { key := .int .u8 4, val := .func (.func 34) #[] #[], born := 1 }) 2
  have h1 := putMap_at w3 w.heap.size ((#[].push { key := .int .u8 3, val := .func (.func 33) #[] #[], born := 0 } : Array MapEntry).push { key := .int .u8 4, val := .func (.func 34) #[] #[], born := 1 }) 2 hlt
  generalize putMap _ _ _ _ = w4 at hB1 h1
  refine sl_run rfl (.map (some w.heap.size)) w4 (by kernel_rfl) ?_
  refine sl_run rfl (.map (some w.heap.size)) w4 (by kernel_rfl) ?_
  refine wpList_nil ?_
  rename_i hK
  refine hK _ _ (wp_ret ?_)
  exact bodyPost_ret (v := .map (some w.heap.size)) (by kernel_rfl) (by kernel_rfl) ⟨_, rfl, h1, hB1⟩
theorem run_found (W : World) (g : Nat) (k : Int) (i : Nat) (v : Value) (hb : W.heap[g]? = some (.map asks 2)) (hf : Instr.findNow (.int .u8) (.int .u8 k) asks.toList 0 = some (some (i, v))) :
    (Instr.lookup 57 (.map (some g)) (.int .u8 k) true).run Try.prog W = .ok (.tuple #[v, .bool true]) W := by
  have hc : (Instr.checkKey asks.isEmpty 10000 5 (.int .u8 k)).run Try.prog W = .ok () W := MapKept.run_checkKey (k := .int .u8 k) Try.underlying5 (by simp [MapKept.IsKey]) asks.isEmpty 9999
  simp [Instr.lookup, run_underlying Try.underlying57, MapKept.run_getObj_map hb, hc, MapKept.run_findKey Try.underlying5 hf, Result.andThen]
theorem run_missed (W : World) (g : Nat) (k : Int) (hb : W.heap[g]? = some (.map asks 2)) (h3 : k ≠ 3) (h4 : k ≠ 4) :
    (Instr.lookup 57 (.map (some g)) (.int .u8 k) true).run Try.prog W = .ok (.tuple #[.nilFunc, .bool false]) W := by
  have hc : (Instr.checkKey asks.isEmpty 10000 5 (.int .u8 k)).run Try.prog W = .ok () W := MapKept.run_checkKey (k := .int .u8 k) Try.underlying5 (by simp [MapKept.IsKey]) asks.isEmpty 9999
  have hf : Instr.findNow (.int .u8) (.int .u8 k) asks.toList 0 = some none := by
    have e3 : (k == 3) = false := by simpa using h3
    have e4 : (k == 4) = false := by simpa using h4
    simp [asks, Instr.findNow, Instr.sameNow, e3, e4]
  have hz : (zeroValue 55).run Try.prog W = .ok .nilFunc W := by kernel_rfl
  simp [Instr.lookup, run_underlying Try.underlying57, MapKept.run_getObj_map hb, hc, MapKept.run_findKey Try.underlying5 hf, Result.andThen, hz]
theorem run_look3 (W : World) (g : Nat) (hb : W.heap[g]? = some (.map asks 2)) : (Instr.lookup 57 (.map (some g)) (.int .u8 3) true).run Try.prog W = .ok (.tuple #[.func (.func 33) #[] #[], .bool true]) W := run_found W g 3 0 _ hb (by kernel_rfl)
theorem run_look4 (W : World) (g : Nat) (hb : W.heap[g]? = some (.map asks 2)) : (Instr.lookup 57 (.map (some g)) (.int .u8 4) true).run Try.prog W = .ok (.tuple #[.func (.func 34) #[] #[], .bool true]) W := run_found W g 4 1 _ hb (by kernel_rfl)
end Go.Proofs.Ytehgblnhhlgikaa.Bi
