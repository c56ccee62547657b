/-
  Bindings: the chapter's example.
-/
import Derived.Test.YtehgblnhhlgikaaBiSameAll
import Derived.Test.YtehgblnhhlgikaaBiHolds2
import Derived.Test.YtehgblnhhlgikaaBiSame
namespace Go.Proofs.Ytehgblnhhlgikaa.Bi
open Go.RowKit
set_option linter.unusedVariables false
set_option linter.unusedSimpArgs false
set_option pp.maxSteps 50000
def sX : ByteArray := ⟨#[88]⟩
def sY : ByteArray := ⟨#[89]⟩
def sP : ByteArray := ⟨#[112]⟩
def vA : V2 := ⟨⟨#[97]⟩, 0⟩
def vB : V2 := ⟨⟨#[98]⟩, 0⟩
def vO : V2 := ⟨ByteArray.empty, 1⟩
def fArgs : List T3 := [⟨sX, default⟩, ⟨sX, default⟩, ⟨sY, default⟩]
def fBs : List T3 := [⟨sX, vA⟩, ⟨sY, vO⟩]
def cArgs : List T3 := [⟨sY, default⟩, ⟨ByteArray.empty, ⟨ByteArray.empty, 3⟩⟩]
def fT1 : List V2 := [vA, vA, vO]
def fT2 : List V2 := [vA, vB, vO]
def fT3 : List V2 := [vB, vB, vB]
theorem l_lists : sX.toList = [88] ∧ sY.toList = [89] ∧ sP.toList = [112] ∧ vA.s.toList = [97] ∧ vB.s.toList = [98] ∧ ByteArray.empty.toList = [] := by
  simp only [ByteArray.toList_eq]; exact ⟨rfl, rfl, rfl, rfl, rfl, rfl⟩
theorem fm1 : matchS 1 sP fArgs sP fT1 [] = some fBs := by
  obtain ⟨h1, h2, h3, h4, h5, h6⟩ := l_lists
  simp [matchS, fArgs, fT1, goOn, look, h1, h2, h3, h4, h5, h6, hit, eqV, fBs, vA, vO]
theorem fm2 : matchS 1 sP fArgs sP fT2 [] = none := by
  obtain ⟨h1, h2, h3, h4, h5, h6⟩ := l_lists
  simp [matchS, fArgs, fT2, goOn, look, h1, h2, h3, h4, h5, h6, hit, eqV]
theorem fm3 : matchS 1 sP fArgs sP fT3 [] = some [⟨sX, vB⟩, ⟨sY, vB⟩] := by
  obtain ⟨h1, h2, h3, h4, h5, h6⟩ := l_lists
  simp [matchS, fArgs, fT3, goOn, look, h1, h2, h3, h4, h5, h6, hit, eqV, fBs, vA, vO]
theorem ff1 : fillS 1 fArgs fBs = some fT1 := by
  obtain ⟨h1, h2, h3, h4, h5, h6⟩ := l_lists
  simp [fillS, fArgs, fT1, fillOn, look, h1, h2, h3, h4, h5, h6, hit, fBs]
theorem fh1 : holdsS 3 cArgs fBs = (true, true) := by
  obtain ⟨h1, h2, h3, h4, h5, h6⟩ := l_lists
  simp [holdsS, cArgs, look, h1, h2, h3, h4, h5, h6, hit, fBs, cmpV, cmpN, cmpL, vO]
theorem exec_eq46 {o : Oper} {a : Act} (x y : Operand) (ho : o.op = .binOp .eql 46 x y 46) (u v : V2) (hx : a.eval x = .agg u.c) (hy : a.eval y = .agg v.c) (w : World) : (execOp a.eval o).run Try.prog w = .ok (.value (.bool (eqV u v))) w := by
  unfold execOp
  simp only [ho, hx, hy, Sem.run_bind, run_eqGuard_agg w .eql 46 x y _ _ guard46, Result.andThen_ok, run_eql_struct, run_eq46, Sem.run_pure]
theorem exec_eq50 {o : Oper} {a : Act} (x y : Operand) (ho : o.op = .binOp .eql 50 x y 50) (u v : T3) (hx : a.eval x = .agg u.c) (hy : a.eval y = .agg v.c) (w : World) : (execOp a.eval o).run Try.prog w = .ok (.value (.bool (eqT u v))) w := by
  unfold execOp
  simp only [ho, hx, hy, Sem.run_bind, run_eqGuard_agg w .eql 50 x y _ _ guard50, Result.andThen_ok, run_eql_struct, run_eq50, Sem.run_pure]
/-- A new row of structs. -/
theorem rw_new {α : Type} [Inhabited α] {k : Nat} {enc : α → Array Value} (he : ∀ x, (enc x).size = k) {w : World} {g : Nat} {t : TypeId} {fr : Nat × Nat} (l : List α) (h : w.heap[g]? = some (.cells (flat enc l).toArray t fr)) : Rw k enc w (.slice (some ⟨g, 0, none⟩) l.length l.length) l :=
  .inr ⟨g, 0, l.length, rfl, Nat.le_refl _, (Array.getElem?_eq_some_iff.1 h).1, fun i hi r u hu => by
    have hr : r < k := by rw [← he (l.getD i default), ← Array.length_toList]; exact (List.getElem?_eq_some_iff.1 hu).1
    rw [Nat.zero_add, cell_of_row _ _ _ _ _ _ h, List.getElem?_toArray, flat_get he l i r hi hr]
    exact hu⟩
theorem run_elem {α : Type} [Inhabited α] {k : Nat} {enc : α → Array Value} {w : World} {g o n c : Nat} {l : List α} (h : Rw k enc w (.slice (some ⟨g, o, none⟩) n c) l) (i : Nat) (hi : i < l.length) : w.rangeAt g (o + i * k) (enc (l.getD i default)).toList := by
  obtain ⟨g', o', h1, _, _, h2⟩ := h.elem i hi
  injection h1 with h1
  injection h1 with h3 h4
  subst h3 h4
  exact h2
/-- What lies in memory behind the example's first lines. -/
def Ctx (B B1 B2 B3 B4 : Nat) (w : World) : Prop := w.heap[B]? = some (.cells (flat T3.c fArgs).toArray 48 (0, 0)) ∧ w.heap[B1]? = some (.cells #[.int .u8 1, .string sP, .slice (some ⟨B, 0, none⟩) 3 3] 24 (0, 0)) ∧ w.heap[B2]? = some (.cells (V2.c vA) 46 (0, 0)) ∧ w.heap[B3]? = some (.cells (V2.c vB) 46 (0, 0)) ∧ w.heap[B4]? = some (.cells (V2.c vO) 46 (0, 0))
theorem heap_kept {w w' : World} {B : Nat} {o : Obj} (h : w.heap[B]? = some o) (hb : Below w.heap.size w w') : w'.heap[B]? = some o := (hb.block B (Array.getElem?_eq_some_iff.1 h).1).trans h
theorem Ctx.below {B B1 B2 B3 B4 : Nat} {w w' : World} (h : Ctx B B1 B2 B3 B4 w) (hb : Below w.heap.size w w') : Ctx B B1 B2 B3 B4 w' :=
  ⟨heap_kept h.1 hb, heap_kept h.2.1 hb, heap_kept h.2.2.1 hb, heap_kept h.2.2.2.1 hb, heap_kept h.2.2.2.2 hb⟩
theorem Ctx.args {B B1 B2 B3 B4 : Nat} {w : World} (h : Ctx B B1 B2 B3 B4 w) : Rw 3 T3.c w (.slice (some ⟨B, 0, none⟩) 3 3) fArgs := rw_new t3_size fArgs h.1
theorem filt (g1 g2 : Nat) : ([⟨sP, some ⟨g1, 0, none⟩, 3, fT2⟩, ⟨sP, some ⟨g2, 0, none⟩, 3, fT3⟩] : List TT).filter (hits 1 sP fArgs) = [⟨sP, some ⟨g2, 0, none⟩, 3, fT3⟩] := by
  simp [hits, fm2, fm3, List.filter]
theorem key_one {l : List TT} {p : ByteArray} {vs : List V2} (h : l.map TT.key = [(p, vs)]) : ∃ A c, l = [⟨p, A, c, vs⟩] := by
  match l with
  | [] => simp at h
  | [t] =>
    obtain ⟨a, b, c, d⟩ := t
    simp [TT.key] at h
    obtain ⟨rfl, rfl⟩ := h
    exact ⟨b, c, rfl⟩
  | _ :: _ :: _ => simp at h
set_option maxRecDepth 100000 in
set_option maxHeartbeats 4000000 in
theorem fixed_calls (w : World) : Calls Try.prog 8 #[] w fun e w' => e = .returned (.bool true) ∧ Below w.heap.size w w' := by
  go_enter Try.func8, Try.ntmps8
  go_upto_region 1 with fail
  refine wp_region_lit ?_
  refine sl_run rfl (.agg (T3.c ⟨sX, default⟩)) w (by kernel_rfl) ?_
  simp only [Act.put, List.setIfInBounds_toArray, List.set_cons_zero, List.set_cons_succ]
  refine sl_run rfl (.agg (T3.c ⟨sX, default⟩)) w (by kernel_rfl) ?_
  simp only [Act.put, List.setIfInBounds_toArray, List.set_cons_zero, List.set_cons_succ]
  refine sl_run rfl (.agg (T3.c ⟨sY, default⟩)) w (by kernel_rfl) ?_
  simp only [Act.put, List.setIfInBounds_toArray, List.set_cons_zero, List.set_cons_succ]
  refine sl_run rfl (.slice (some ⟨w.heap.size, 0, none⟩) 3 3) (w.alloc (.cells (flat T3.c fArgs).toArray 48)) (by kernel_rfl) ?_
  simp only [Act.put, List.setIfInBounds_toArray, List.set_cons_zero, List.set_cons_succ]
  have ha1 : (w.alloc (.cells (flat T3.c fArgs).toArray 48)).heap[w.heap.size]? = some (.cells (flat T3.c fArgs).toArray 48 (0, 0)) := heap_alloc_new _ _
  have hB1 : Below w.heap.size w (w.alloc (.cells (flat T3.c fArgs).toArray 48)) := (Below.refl _ _).alloc (Nat.le_refl _) _
  have hs1 : (w.alloc (.cells (flat T3.c fArgs).toArray 48)).heap.size = w.heap.size + 1 := by simp
  obtain ⟨B, hBd⟩ : ∃ B, B = w.heap.size := ⟨_, rfl⟩
  rw [← hBd] at ha1 hB1 hs1 ⊢
  generalize w.alloc _ = w1 at ha1 hB1 hs1 ⊢
  refine sl_run rfl (.agg #[.int .u8 1, .string sP, .slice (some ⟨B, 0, none⟩) 3 3]) w1 (by kernel_rfl) ?_
  simp only [Act.put, List.setIfInBounds_toArray, List.set_cons_zero, List.set_cons_succ]
  refine sl_run rfl (.pointer (some ⟨w1.heap.size, 0, none⟩)) (w1.alloc (.cells #[.int .u8 0, .string ByteArray.empty, .slice none 0 0] 24)) (by kernel_rfl) ?_
  simp only [Act.put, List.setIfInBounds_toArray, List.set_cons_zero, List.set_cons_succ]
  refine wpList_store_row rfl 24 _ _ rfl w1.heap.size (#[.int .u8 1, .string sP, .slice (some ⟨B, 0, none⟩) 3 3]) (by kernel_rfl) (by kernel_rfl) 24 _ (heap_alloc_new _ _) (by kernel_rfl) (by kernel_rfl) (by simp [Value.oneCell']) ?_
  simp only [Act.put, List.setIfInBounds_toArray, List.set_cons_zero, List.set_cons_succ]
  rw [World.setRow_alloc_new]
  refine wpList_nil ?_
  have hf2 : (w1.alloc (.cells #[.int .u8 1, .string sP, .slice (some ⟨B, 0, none⟩) 3 3] 24)).heap[w1.heap.size]? = some (.cells #[.int .u8 1, .string sP, .slice (some ⟨B, 0, none⟩) 3 3] 24 (0, 0)) := heap_alloc_new _ _
  have hB2 : Below B w (w1.alloc (.cells #[.int .u8 1, .string sP, .slice (some ⟨B, 0, none⟩) 3 3] 24)) := hB1.alloc (by omega) _
  have hs2 : (w1.alloc (.cells #[.int .u8 1, .string sP, .slice (some ⟨B, 0, none⟩) 3 3] 24)).heap.size = B + 2 := by simp [hs1]
  have ha2 := (heap_alloc_old w1 (.cells #[.int .u8 1, .string sP, .slice (some ⟨B, 0, none⟩) 3 3] 24) (by omega)).trans ha1
  rw [hs1] at hf2 ⊢
  generalize w1.alloc _ = w2 at hf2 hB2 hs2 ha2 ⊢
  clear ha1 hB1 hs1
  go_upto_region 2 with fail
  refine wp_region_lit ?_
  refine sl_run rfl (.agg (V2.c vA)) w2 (by kernel_rfl) ?_
  simp only [Act.put, List.setIfInBounds_toArray, List.set_cons_zero, List.set_cons_succ]
  refine sl_run rfl (.agg (V2.c vB)) w2 (by kernel_rfl) ?_
  simp only [Act.put, List.setIfInBounds_toArray, List.set_cons_zero, List.set_cons_succ]
  refine sl_run rfl (.agg (V2.c vO)) w2 (by kernel_rfl) ?_
  simp only [Act.put, List.setIfInBounds_toArray, List.set_cons_zero, List.set_cons_succ]
  refine sl_run rfl (.pointer (some ⟨w2.heap.size, 0, none⟩)) (w2.alloc (.cells (default : V2).c 46)) (by kernel_rfl) ?_
  simp only [Act.put, List.setIfInBounds_toArray, List.set_cons_zero, List.set_cons_succ]
  refine sl_run rfl (.pointer (some ⟨(w2.alloc (.cells (default : V2).c 46)).heap.size, 0, none⟩)) ((w2.alloc (.cells (default : V2).c 46)).alloc (.cells (default : V2).c 46)) (by kernel_rfl) ?_
  simp only [Act.put, List.setIfInBounds_toArray, List.set_cons_zero, List.set_cons_succ]
  refine sl_run rfl (.pointer (some ⟨((w2.alloc (.cells (default : V2).c 46)).alloc (.cells (default : V2).c 46)).heap.size, 0, none⟩)) (((w2.alloc (.cells (default : V2).c 46)).alloc (.cells (default : V2).c 46)).alloc (.cells (default : V2).c 46)) (by kernel_rfl) ?_
  simp only [Act.put, List.setIfInBounds_toArray, List.set_cons_zero, List.set_cons_succ]
  rw [show ((w2.alloc (.cells (default : V2).c 46)).alloc (.cells (default : V2).c 46)).heap.size = w2.heap.size + 2 from by simp, show (w2.alloc (.cells (default : V2).c 46)).heap.size = w2.heap.size + 1 from by simp]
  have hz0 : (((w2.alloc (.cells (default : V2).c 46)).alloc (.cells (default : V2).c 46)).alloc (.cells (default : V2).c 46)).heap[w2.heap.size]? = some (.cells (default : V2).c 46 (0, 0)) := (heap_alloc_old _ _ (by simp; omega)).trans (heap_alloc2_old _ _ _)
  have hz1 : (((w2.alloc (.cells (default : V2).c 46)).alloc (.cells (default : V2).c 46)).alloc (.cells (default : V2).c 46)).heap[w2.heap.size + 1]? = some (.cells (default : V2).c 46 (0, 0)) := (heap_alloc_old _ _ (by simp)).trans (heap_alloc2_new _ _ _)
  have hz2 : (((w2.alloc (.cells (default : V2).c 46)).alloc (.cells (default : V2).c 46)).alloc (.cells (default : V2).c 46)).heap[w2.heap.size + 2]? = some (.cells (default : V2).c 46 (0, 0)) := by
    have := heap_alloc_new ((w2.alloc (.cells (default : V2).c 46)).alloc (.cells (default : V2).c 46)) (.cells (default : V2).c 46)
    rw [show ((w2.alloc (.cells (default : V2).c 46)).alloc (.cells (default : V2).c 46)).heap.size = w2.heap.size + 2 from by simp] at this
    exact this
  have hB3 : Below B w (((w2.alloc (.cells (default : V2).c 46)).alloc (.cells (default : V2).c 46)).alloc (.cells (default : V2).c 46)) := ((hB2.alloc (by omega) _).alloc (by simp; omega) _).alloc (by simp; omega) _
  have hs3 : (((w2.alloc (.cells (default : V2).c 46)).alloc (.cells (default : V2).c 46)).alloc (.cells (default : V2).c 46)).heap.size = B + 5 := by simp [hs2]
  have hb3 : Below w2.heap.size w2 (((w2.alloc (.cells (default : V2).c 46)).alloc (.cells (default : V2).c 46)).alloc (.cells (default : V2).c 46)) := (((Below.refl _ _).alloc (Nat.le_refl _) _).alloc (by simp) _).alloc (by simp; omega) _
  generalize World.alloc _ _ = w3 at hz0 hz1 hz2 hB3 hs3 hb3 ⊢
  rw [hs2] at hz0 hz1 hz2 ⊢
  have ha3 := (hb3.block _ (by omega)).trans ha2
  have hf3 := (hb3.block _ (by omega)).trans hf2
  refine wpList_store_row rfl 46 _ _ rfl (B + 2) (V2.c vA) (by kernel_rfl) (by kernel_rfl) 46 _ hz0 (by kernel_rfl) (by kernel_rfl) (v2_one _) ?_
  simp only [Act.put, List.setIfInBounds_toArray, List.set_cons_zero, List.set_cons_succ]
  refine wpList_store_row rfl 46 _ _ rfl (B + 2 + 1) (V2.c vB) (by kernel_rfl) (by kernel_rfl) 46 _ ((setRow_other _ _ _ _ (by omega)).trans hz1) (by kernel_rfl) (by kernel_rfl) (v2_one _) ?_
  simp only [Act.put, List.setIfInBounds_toArray, List.set_cons_zero, List.set_cons_succ]
  refine wpList_store_row rfl 46 _ _ rfl (B + 2 + 2) (V2.c vO) (by kernel_rfl) (by kernel_rfl) 46 _ ((setRow_other _ _ _ _ (by omega)).trans ((setRow_other _ _ _ _ (by omega)).trans hz2)) (by kernel_rfl) (by kernel_rfl) (v2_one _) ?_
  simp only [Act.put, List.setIfInBounds_toArray, List.set_cons_zero, List.set_cons_succ]
  refine wpList_nil ?_
  have h40 : (((w3.setRow (B + 2) (V2.c vA)).setRow (B + 2 + 1) (V2.c vB)).setRow (B + 2 + 2) (V2.c vO)).heap[B + 2]? = some (.cells (V2.c vA) 46 (0, 0)) := (setRow_other _ _ _ _ (by omega)).trans ((setRow_other _ _ _ _ (by omega)).trans (setRow_heap _ _ _ _ _ _ hz0))
  have h41 : (((w3.setRow (B + 2) (V2.c vA)).setRow (B + 2 + 1) (V2.c vB)).setRow (B + 2 + 2) (V2.c vO)).heap[B + 2 + 1]? = some (.cells (V2.c vB) 46 (0, 0)) := (setRow_other _ _ _ _ (by omega)).trans (setRow_heap _ _ _ _ _ _ ((setRow_other _ _ _ _ (by omega)).trans hz1))
  have h42 : (((w3.setRow (B + 2) (V2.c vA)).setRow (B + 2 + 1) (V2.c vB)).setRow (B + 2 + 2) (V2.c vO)).heap[B + 2 + 2]? = some (.cells (V2.c vO) 46 (0, 0)) := setRow_heap _ _ _ _ _ _ ((setRow_other _ _ _ _ (by omega)).trans ((setRow_other _ _ _ _ (by omega)).trans hz2))
  have h4a : (((w3.setRow (B + 2) (V2.c vA)).setRow (B + 2 + 1) (V2.c vB)).setRow (B + 2 + 2) (V2.c vO)).heap[B]? = some (.cells (flat T3.c fArgs).toArray 48 (0, 0)) := (setRow_other _ _ _ _ (by omega)).trans ((setRow_other _ _ _ _ (by omega)).trans ((setRow_other _ _ _ _ (by omega)).trans ha3))
  have h4f : (((w3.setRow (B + 2) (V2.c vA)).setRow (B + 2 + 1) (V2.c vB)).setRow (B + 2 + 2) (V2.c vO)).heap[B + 1]? = some (.cells #[.int .u8 1, .string sP, .slice (some ⟨B, 0, none⟩) 3 3] 24 (0, 0)) := (setRow_other _ _ _ _ (by omega)).trans ((setRow_other _ _ _ _ (by omega)).trans ((setRow_other _ _ _ _ (by omega)).trans hf3))
  have hB4 : Hid (Below B w (((w3.setRow (B + 2) (V2.c vA)).setRow (B + 2 + 1) (V2.c vB)).setRow (B + 2 + 2) (V2.c vO))) := below_setRow (below_setRow (below_setRow hB3 (by omega) _) (by omega) _) (by omega) _
  have hs4 : B + 5 ≤ (((w3.setRow (B + 2) (V2.c vA)).setRow (B + 2 + 1) (V2.c vB)).setRow (B + 2 + 2) (V2.c vO)).heap.size := by simp [hs3]
  generalize World.setRow _ _ _ = w4 at h40 h41 h42 h4a h4f hB4 hs4 ⊢
  have hall0 : Ctx B (B + 1) (B + 2) (B + 2 + 1) (B + 2 + 2) w4 := ⟨h4a, h4f, h40, h41, h42⟩
  clear hz0 hz1 hz2 hB3 hs3 hb3 ha3 hf3 ha2 hf2 hB2 hs2 h40 h41 h42 h4a h4f
  generalize hx : B + 2 + 1 = B3 at hall0 ⊢
  generalize hx : B + 2 + 2 = B4 at hall0 ⊢
  generalize hx : B + 2 = B2 at hall0 ⊢
  generalize hx : B + 1 = B1 at hall0 ⊢
  have hall : Hid (Ctx B B1 B2 B3 B4 w4) := hall0
  clear hall0 hs4
  have hB_w4 := hB4
  clear hB4
  have hBle : B ≤ w.heap.size := by omega
  go_upto_region 3 with fail
  refine wp_region_lit ?_
  refine sl_run rfl (.agg #[.int .u8 1, .string sP, .slice (some ⟨B, 0, none⟩) 3 3]) w4 (exec_load_row 24 w4 _ rfl B1 (by kernel_rfl) 24 _ (0, 0) _ hall.out.2.1 Try.underlying24 rfl (by kernel_rfl)) ?_
  simp only [Act.put, List.setIfInBounds_toArray, List.set_cons_zero, List.set_cons_succ]
  refine sl_run rfl (.agg (V2.c vA)) w4 (exec_load_row 46 w4 _ rfl B2 (by kernel_rfl) 46 _ (0, 0) _ hall.out.2.2.1 Try.underlying46 rfl (by kernel_rfl)) ?_
  simp only [Act.put, List.setIfInBounds_toArray, List.set_cons_zero, List.set_cons_succ]
  refine sl_run rfl (.agg (V2.c vA)) w4 (exec_load_row 46 w4 _ rfl B2 (by kernel_rfl) 46 _ (0, 0) _ hall.out.2.2.1 Try.underlying46 rfl (by kernel_rfl)) ?_
  simp only [Act.put, List.setIfInBounds_toArray, List.set_cons_zero, List.set_cons_succ]
  refine sl_run rfl (.agg (V2.c vO)) w4 (exec_load_row 46 w4 _ rfl B4 (by kernel_rfl) 46 _ (0, 0) _ hall.out.2.2.2.2 Try.underlying46 rfl (by kernel_rfl)) ?_
  simp only [Act.put, List.setIfInBounds_toArray, List.set_cons_zero, List.set_cons_succ]
  refine sl_run rfl (.slice (some ⟨w4.heap.size, 0, none⟩) 3 3) (w4.alloc (.cells (flat V2.c fT1).toArray 46)) (by kernel_rfl) ?_
  simp only [Act.put, List.setIfInBounds_toArray, List.set_cons_zero, List.set_cons_succ]
  have hn_w5 : (w4.alloc (.cells (flat V2.c fT1).toArray 46)).heap[w4.heap.size]? = some (.cells (flat V2.c fT1).toArray 46 (0, 0)) := heap_alloc_new _ _
  have hb_w5 : Below w4.heap.size w4 (w4.alloc (.cells (flat V2.c fT1).toArray 46)) := (Below.refl _ _).alloc (Nat.le_refl _) _
  obtain ⟨g_w5, hg_w5⟩ : ∃ g, g = w4.heap.size := ⟨_, rfl⟩
  rw [← hg_w5] at hn_w5 ⊢
  generalize w4.alloc _ = w5 at hn_w5 hb_w5 ⊢
  have hl_w5 : Hid (w5.heap[g_w5]? = some (.cells (flat V2.c fT1).toArray 46 (0, 0))) := hn_w5
  clear hn_w5 hg_w5
  have hall2 : Hid (Ctx B B1 B2 B3 B4 w5) := hall.out.below hb_w5
  have hB_w5 : Hid (Below B w w5) := hB_w4.out.trans (hb_w5.mono (Nat.le_trans hBle hB_w4.out.size))
  clear hall
  rename Hid (Ctx _ _ _ _ _ _) => hall
  refine sl_run rfl (.agg #[.string sP, .slice (some ⟨g_w5, 0, none⟩) 3 3]) w5 (by kernel_rfl) ?_
  simp only [Act.put, List.setIfInBounds_toArray, List.set_cons_zero, List.set_cons_succ]
  refine sl_call rfl 9 #[.agg #[.int .u8 1, .string sP, .slice (some ⟨B, 0, none⟩) 3 3], .agg #[.string sP, .slice (some ⟨g_w5, 0, none⟩) 3 3], .slice none 0 0] (by kernel_rfl) (R := fun v w' => ∃ v', v = .tuple #[v', .bool true] ∧ Rw 3 T3.c w' v' fBs ∧ Below w5.heap.size w5 w') ((match_calls 1 sP sP fArgs [] fT1 (some ⟨B, 0, none⟩) (some ⟨g_w5, 0, none⟩) none 3 3 0 3 3 0 rfl rfl rfl (by decide) (by decide) w5 hall.out.args (rw_new v2_size fT1 hl_w5.out) Rw.nil).mono fun e w' h => by
    rw [fm1] at h
    obtain ⟨v, h1, h2, h3⟩ := h
    exact ⟨_, h1, v, rfl, h2, h3⟩) ?_
  rintro _ w6 ⟨v5, rfl, hv5, hb_w6⟩
  obtain ⟨A5, c5, rfl⟩ := hv5.form
  have hfb : Hid (Rw 3 T3.c w6 (.slice A5 2 c5) fBs) := hv5
  clear hv5
  change wpList _ _ _ _ (Act.put _ _ (.tuple #[.slice A5 2 c5, .bool true])) _
  simp only [Act.put, List.setIfInBounds_toArray, List.set_cons_zero, List.set_cons_succ]
  have hall2 : Hid (Ctx B B1 B2 B3 B4 w6) := hall.out.below hb_w6
  have hB_w6 : Hid (Below B w w6) := hB_w5.out.trans (hb_w6.mono (Nat.le_trans hBle hB_w5.out.size))
  clear hall
  rename Hid (Ctx _ _ _ _ _ _) => hall
  refine sl_run rfl (.tuple #[.slice A5 2 c5, .bool true]) w6 (by kernel_rfl) ?_
  simp only [Act.put, List.setIfInBounds_toArray, List.set_cons_zero, List.set_cons_succ]
  refine sl_run rfl (.slice A5 2 c5) w6 (by kernel_rfl) ?_
  simp only [Act.put, List.setIfInBounds_toArray, List.set_cons_zero, List.set_cons_succ]
  refine sl_run rfl (.bool true) w6 (by kernel_rfl) ?_
  simp only [Act.put, List.setIfInBounds_toArray, List.set_cons_zero, List.set_cons_succ]
  refine sl_run rfl (.slice A5 2 c5) w6 (by kernel_rfl) ?_
  simp only [Act.put, List.setIfInBounds_toArray, List.set_cons_zero, List.set_cons_succ]
  refine sl_run rfl (.bool true) w6 (by kernel_rfl) ?_
  simp only [Act.put, List.setIfInBounds_toArray, List.set_cons_zero, List.set_cons_succ]
  refine wpList_nil ?_
  clear hl_w5 hb_w5 hb_w6 hB_w4 hB_w5
  go_upto_region 4 with fail
  refine wp_region_lit ?_
  refine sl_run rfl (.agg #[.int .u8 1, .string sP, .slice (some ⟨B, 0, none⟩) 3 3]) w6 (exec_load_row 24 w6 _ rfl B1 (by kernel_rfl) 24 _ (0, 0) _ hall.out.2.1 Try.underlying24 rfl (by kernel_rfl)) ?_
  simp only [Act.put, List.setIfInBounds_toArray, List.set_cons_zero, List.set_cons_succ]
  refine sl_run rfl (.agg (V2.c vA)) w6 (exec_load_row 46 w6 _ rfl B2 (by kernel_rfl) 46 _ (0, 0) _ hall.out.2.2.1 Try.underlying46 rfl (by kernel_rfl)) ?_
  simp only [Act.put, List.setIfInBounds_toArray, List.set_cons_zero, List.set_cons_succ]
  refine sl_run rfl (.agg (V2.c vB)) w6 (exec_load_row 46 w6 _ rfl B3 (by kernel_rfl) 46 _ (0, 0) _ hall.out.2.2.2.1 Try.underlying46 rfl (by kernel_rfl)) ?_
  simp only [Act.put, List.setIfInBounds_toArray, List.set_cons_zero, List.set_cons_succ]
  refine sl_run rfl (.agg (V2.c vO)) w6 (exec_load_row 46 w6 _ rfl B4 (by kernel_rfl) 46 _ (0, 0) _ hall.out.2.2.2.2 Try.underlying46 rfl (by kernel_rfl)) ?_
  simp only [Act.put, List.setIfInBounds_toArray, List.set_cons_zero, List.set_cons_succ]
  refine sl_run rfl (.slice (some ⟨w6.heap.size, 0, none⟩) 3 3) (w6.alloc (.cells (flat V2.c fT2).toArray 46)) (by kernel_rfl) ?_
  simp only [Act.put, List.setIfInBounds_toArray, List.set_cons_zero, List.set_cons_succ]
  have hn_w7 : (w6.alloc (.cells (flat V2.c fT2).toArray 46)).heap[w6.heap.size]? = some (.cells (flat V2.c fT2).toArray 46 (0, 0)) := heap_alloc_new _ _
  have hb_w7 : Below w6.heap.size w6 (w6.alloc (.cells (flat V2.c fT2).toArray 46)) := (Below.refl _ _).alloc (Nat.le_refl _) _
  obtain ⟨g_w7, hg_w7⟩ : ∃ g, g = w6.heap.size := ⟨_, rfl⟩
  rw [← hg_w7] at hn_w7 ⊢
  generalize w6.alloc _ = w7 at hn_w7 hb_w7 ⊢
  have hl_w7 : Hid (w7.heap[g_w7]? = some (.cells (flat V2.c fT2).toArray 46 (0, 0))) := hn_w7
  clear hn_w7 hg_w7
  have hall2 : Hid (Ctx B B1 B2 B3 B4 w7) := hall.out.below hb_w7
  have hB_w7 : Hid (Below B w w7) := hB_w6.out.trans (hb_w7.mono (Nat.le_trans hBle hB_w6.out.size))
  have hfb2 : Hid (Rw 3 T3.c w7 (.slice A5 2 c5) fBs) := hfb.out.below hb_w7
  clear hall hfb
  rename Hid (Ctx _ _ _ _ _ _) => hall
  have hfb := hfb2
  clear hfb2
  refine sl_run rfl (.agg #[.string sP, .slice (some ⟨g_w7, 0, none⟩) 3 3]) w7 (by kernel_rfl) ?_
  simp only [Act.put, List.setIfInBounds_toArray, List.set_cons_zero, List.set_cons_succ]
  refine sl_call rfl 9 #[.agg #[.int .u8 1, .string sP, .slice (some ⟨B, 0, none⟩) 3 3], .agg #[.string sP, .slice (some ⟨g_w7, 0, none⟩) 3 3], .slice none 0 0] (by kernel_rfl) (R := fun v w' => ∃ v', v = .tuple #[v', .bool false] ∧ Below w7.heap.size w7 w') ((match_calls 1 sP sP fArgs [] fT2 (some ⟨B, 0, none⟩) (some ⟨g_w7, 0, none⟩) none 3 3 0 3 3 0 rfl rfl rfl (by decide) (by decide) w7 hall.out.args (rw_new v2_size fT2 hl_w7.out) Rw.nil).mono fun e w' h => by
    rw [fm2] at h
    obtain ⟨v, h1, h2, h3⟩ := h
    exact ⟨_, h1, v, rfl, h3⟩) ?_
  rintro _ w8 ⟨v7, rfl, hb_w8⟩
  simp only [Act.put, List.setIfInBounds_toArray, List.set_cons_zero, List.set_cons_succ]
  have hall2 : Hid (Ctx B B1 B2 B3 B4 w8) := hall.out.below hb_w8
  have hB_w8 : Hid (Below B w w8) := hB_w7.out.trans (hb_w8.mono (Nat.le_trans hBle hB_w7.out.size))
  have hfb2 : Hid (Rw 3 T3.c w8 (.slice A5 2 c5) fBs) := hfb.out.below hb_w8
  clear hall hfb
  rename Hid (Ctx _ _ _ _ _ _) => hall
  have hfb := hfb2
  clear hfb2
  refine sl_run rfl (.tuple #[v7, .bool false]) w8 (by kernel_rfl) ?_
  simp only [Act.put, List.setIfInBounds_toArray, List.set_cons_zero, List.set_cons_succ]
  refine sl_run rfl (v7) w8 (by kernel_rfl) ?_
  simp only [Act.put, List.setIfInBounds_toArray, List.set_cons_zero, List.set_cons_succ]
  refine sl_run rfl (.bool false) w8 (by kernel_rfl) ?_
  simp only [Act.put, List.setIfInBounds_toArray, List.set_cons_zero, List.set_cons_succ]
  refine sl_run rfl (v7) w8 (by kernel_rfl) ?_
  simp only [Act.put, List.setIfInBounds_toArray, List.set_cons_zero, List.set_cons_succ]
  refine sl_run rfl (.bool false) w8 (by kernel_rfl) ?_
  simp only [Act.put, List.setIfInBounds_toArray, List.set_cons_zero, List.set_cons_succ]
  refine wpList_nil ?_
  clear hl_w7 hb_w7 hb_w8 hB_w6 hB_w7
  go_upto_region 5 with fail
  refine wp_region_lit ?_
  refine sl_run rfl (.agg #[.int .u8 1, .string sP, .slice (some ⟨B, 0, none⟩) 3 3]) w8 (exec_load_row 24 w8 _ rfl B1 (by kernel_rfl) 24 _ (0, 0) _ hall.out.2.1 Try.underlying24 rfl (by kernel_rfl)) ?_
  simp only [Act.put, List.setIfInBounds_toArray, List.set_cons_zero, List.set_cons_succ]
  refine sl_run rfl (.slice A5 2 c5) w8 (by kernel_rfl) ?_
  simp only [Act.put, List.setIfInBounds_toArray, List.set_cons_zero, List.set_cons_succ]
  refine sl_call rfl 13 #[.agg #[.int .u8 1, .string sP, .slice (some ⟨B, 0, none⟩) 3 3], .slice A5 2 c5] (by kernel_rfl) (R := fun v w' => ∃ v', v = .tuple #[.agg #[.string sP, v'], .bool true] ∧ Rw 2 V2.c w' v' fT1 ∧ Below w8.heap.size w8 w') ((fill_calls 1 sP fArgs fBs (some ⟨B, 0, none⟩) A5 3 2 3 c5 rfl rfl (by decide) (by decide) w8 hall.out.args hfb.out).mono fun e w' h => by
    rw [ff1] at h
    obtain ⟨v, h1, h2, h3⟩ := h
    exact ⟨_, h1, v, rfl, h2, h3⟩) ?_
  rintro _ w9 ⟨v9, rfl, hv9, hb_w9⟩
  obtain ⟨A9, c9, rfl⟩ := hv9.form
  have hft : Hid (Rw 2 V2.c w9 (.slice A9 3 c9) fT1) := hv9
  clear hv9
  change wpList _ _ _ _ (Act.put _ _ (.tuple #[.agg (tup sP (.slice A9 3 c9)), .bool true])) _
  simp only [Act.put, List.setIfInBounds_toArray, List.set_cons_zero, List.set_cons_succ]
  have hall2 : Hid (Ctx B B1 B2 B3 B4 w9) := hall.out.below hb_w9
  have hB_w9 : Hid (Below B w w9) := hB_w8.out.trans (hb_w9.mono (Nat.le_trans hBle hB_w8.out.size))
  have hfb2 : Hid (Rw 3 T3.c w9 (.slice A5 2 c5) fBs) := hfb.out.below hb_w9
  clear hall hfb
  rename Hid (Ctx _ _ _ _ _ _) => hall
  have hfb := hfb2
  clear hfb2
  refine sl_run rfl (.tuple #[.agg (tup sP (.slice A9 3 c9)), .bool true]) w9 (by kernel_rfl) ?_
  simp only [Act.put, List.setIfInBounds_toArray, List.set_cons_zero, List.set_cons_succ]
  refine sl_run rfl (.agg (tup sP (.slice A9 3 c9))) w9 (by kernel_rfl) ?_
  simp only [Act.put, List.setIfInBounds_toArray, List.set_cons_zero, List.set_cons_succ]
  refine sl_run rfl (.bool true) w9 (by kernel_rfl) ?_
  simp only [Act.put, List.setIfInBounds_toArray, List.set_cons_zero, List.set_cons_succ]
  refine sl_run rfl (.pointer (some ⟨w9.heap.size, 0, none⟩)) (w9.alloc (.cells (tup ByteArray.empty (.slice none 0 0)) 27)) (by kernel_rfl) ?_
  simp only [Act.put, List.setIfInBounds_toArray, List.set_cons_zero, List.set_cons_succ]
  refine wpList_store_row rfl 27 _ _ rfl w9.heap.size (tup sP (.slice A9 3 c9)) (by kernel_rfl) (by kernel_rfl) 27 _ (heap_alloc_new _ _) (by kernel_rfl) (by kernel_rfl) (tup_one _ _ _ _) ?_
  simp only [Act.put, List.setIfInBounds_toArray, List.set_cons_zero, List.set_cons_succ]
  rw [World.setRow_alloc_new]
  have hn_w10 : (w9.alloc (.cells (tup sP (.slice A9 3 c9)) 27)).heap[w9.heap.size]? = some (.cells (tup sP (.slice A9 3 c9)) 27 (0, 0)) := heap_alloc_new _ _
  have hb_w10 : Below w9.heap.size w9 (w9.alloc (.cells (tup sP (.slice A9 3 c9)) 27)) := (Below.refl _ _).alloc (Nat.le_refl _) _
  obtain ⟨B9, hg_w10⟩ : ∃ g, g = w9.heap.size := ⟨_, rfl⟩
  rw [← hg_w10] at hn_w10 ⊢
  generalize w9.alloc _ = w10 at hn_w10 hb_w10 ⊢
  have h9 : Hid (w10.heap[B9]? = some (.cells (tup sP (.slice A9 3 c9)) 27 (0, 0))) := hn_w10
  clear hn_w10 hg_w10
  have hall2 : Hid (Ctx B B1 B2 B3 B4 w10) := hall.out.below hb_w10
  have hB_w10 : Hid (Below B w w10) := hB_w9.out.trans (hb_w10.mono (Nat.le_trans hBle hB_w9.out.size))
  have hfb2 : Hid (Rw 3 T3.c w10 (.slice A5 2 c5) fBs) := hfb.out.below hb_w10
  have hft2 : Hid (Rw 2 V2.c w10 (.slice A9 3 c9) fT1) := hft.out.below hb_w10
  clear hall hfb hft
  rename Hid (Ctx _ _ _ _ _ _) => hall
  have hfb := hfb2
  clear hfb2
  have hft := hft2
  clear hft2
  refine sl_run rfl (.bool true) w10 (by kernel_rfl) ?_
  simp only [Act.put, List.setIfInBounds_toArray, List.set_cons_zero, List.set_cons_succ]
  refine wpList_nil ?_
  clear hb_w9 hb_w10 hB_w8 hB_w9
  go_upto_region 6 with fail
  refine wp_region_lit ?_
  refine sl_run rfl (.agg (T3.c ⟨sY, default⟩)) w10 (by kernel_rfl) ?_
  simp only [Act.put, List.setIfInBounds_toArray, List.set_cons_zero, List.set_cons_succ]
  refine sl_run rfl (.agg (V2.c ⟨ByteArray.empty, 3⟩)) w10 (by kernel_rfl) ?_
  simp only [Act.put, List.setIfInBounds_toArray, List.set_cons_zero, List.set_cons_succ]
  refine sl_run rfl (.agg (T3.c ⟨ByteArray.empty, ⟨ByteArray.empty, 3⟩⟩)) w10 (by kernel_rfl) ?_
  simp only [Act.put, List.setIfInBounds_toArray, List.set_cons_zero, List.set_cons_succ]
  refine sl_run rfl (.slice (some ⟨w10.heap.size, 0, none⟩) 2 2) (w10.alloc (.cells (flat T3.c cArgs).toArray 48)) (by kernel_rfl) ?_
  simp only [Act.put, List.setIfInBounds_toArray, List.set_cons_zero, List.set_cons_succ]
  have hn_w11 : (w10.alloc (.cells (flat T3.c cArgs).toArray 48)).heap[w10.heap.size]? = some (.cells (flat T3.c cArgs).toArray 48 (0, 0)) := heap_alloc_new _ _
  have hb_w11 : Below w10.heap.size w10 (w10.alloc (.cells (flat T3.c cArgs).toArray 48)) := (Below.refl _ _).alloc (Nat.le_refl _) _
  obtain ⟨g_w11, hg_w11⟩ : ∃ g, g = w10.heap.size := ⟨_, rfl⟩
  rw [← hg_w11] at hn_w11 ⊢
  generalize w10.alloc _ = w11 at hn_w11 hb_w11 ⊢
  have hl_w11 : Hid (w11.heap[g_w11]? = some (.cells (flat T3.c cArgs).toArray 48 (0, 0))) := hn_w11
  clear hn_w11 hg_w11
  have hall2 : Hid (Ctx B B1 B2 B3 B4 w11) := hall.out.below hb_w11
  have hB_w11 : Hid (Below B w w11) := hB_w10.out.trans (hb_w11.mono (Nat.le_trans hBle hB_w10.out.size))
  have hfb2 : Hid (Rw 3 T3.c w11 (.slice A5 2 c5) fBs) := hfb.out.below hb_w11
  have hft2 : Hid (Rw 2 V2.c w11 (.slice A9 3 c9) fT1) := hft.out.below hb_w11
  clear hall hfb hft
  rename Hid (Ctx _ _ _ _ _ _) => hall
  have hfb := hfb2
  clear hfb2
  have hft := hft2
  clear hft2
  have h9b : Hid (w11.heap[B9]? = some (.cells (tup sP (.slice A9 3 c9)) 27 (0, 0))) := heap_kept h9.out hb_w11
  clear h9
  have h9 := h9b
  clear h9b
  refine sl_run rfl (.agg #[.int .u8 3, .string ByteArray.empty, .slice (some ⟨g_w11, 0, none⟩) 2 2]) w11 (by kernel_rfl) ?_
  simp only [Act.put, List.setIfInBounds_toArray, List.set_cons_zero, List.set_cons_succ]
  refine sl_run rfl (.slice A5 2 c5) w11 (by kernel_rfl) ?_
  simp only [Act.put, List.setIfInBounds_toArray, List.set_cons_zero, List.set_cons_succ]
  refine sl_call rfl 15 #[.agg #[.int .u8 3, .string ByteArray.empty, .slice (some ⟨g_w11, 0, none⟩) 2 2], .slice A5 2 c5] (by kernel_rfl) (R := fun v w' => v = .tuple #[.bool true, .bool true] ∧ Below w11.heap.size w11 w') ((holds_calls 3 ByteArray.empty cArgs fBs (some ⟨g_w11, 0, none⟩) A5 2 2 2 c5 rfl rfl (by decide) (by decide) w11 (rw_new t3_size cArgs hl_w11.out) hfb.out).mono fun e w' h => by
    rw [fh1] at h
    exact ⟨_, h.1, rfl, h.2⟩) ?_
  rintro _ w12 ⟨rfl, hb_w12⟩
  simp only [Act.put, List.setIfInBounds_toArray, List.set_cons_zero, List.set_cons_succ]
  have hall2 : Hid (Ctx B B1 B2 B3 B4 w12) := hall.out.below hb_w12
  have hB_w12 : Hid (Below B w w12) := hB_w11.out.trans (hb_w12.mono (Nat.le_trans hBle hB_w11.out.size))
  have hfb2 : Hid (Rw 3 T3.c w12 (.slice A5 2 c5) fBs) := hfb.out.below hb_w12
  have hft2 : Hid (Rw 2 V2.c w12 (.slice A9 3 c9) fT1) := hft.out.below hb_w12
  clear hall hfb hft
  rename Hid (Ctx _ _ _ _ _ _) => hall
  have hfb := hfb2
  clear hfb2
  have hft := hft2
  clear hft2
  have h9b : Hid (w12.heap[B9]? = some (.cells (tup sP (.slice A9 3 c9)) 27 (0, 0))) := heap_kept h9.out hb_w12
  clear h9
  have h9 := h9b
  clear h9b
  refine sl_run rfl (.tuple #[.bool true, .bool true]) w12 (by kernel_rfl) ?_
  simp only [Act.put, List.setIfInBounds_toArray, List.set_cons_zero, List.set_cons_succ]
  refine sl_run rfl (.bool true) w12 (by kernel_rfl) ?_
  simp only [Act.put, List.setIfInBounds_toArray, List.set_cons_zero, List.set_cons_succ]
  refine sl_run rfl (.bool true) w12 (by kernel_rfl) ?_
  simp only [Act.put, List.setIfInBounds_toArray, List.set_cons_zero, List.set_cons_succ]
  refine sl_run rfl (.bool true) w12 (by kernel_rfl) ?_
  simp only [Act.put, List.setIfInBounds_toArray, List.set_cons_zero, List.set_cons_succ]
  refine sl_run rfl (.bool true) w12 (by kernel_rfl) ?_
  simp only [Act.put, List.setIfInBounds_toArray, List.set_cons_zero, List.set_cons_succ]
  refine wpList_nil ?_
  clear hl_w11 hb_w11 hb_w12 hB_w10 hB_w11
  go_upto_region 7 with fail
  refine wp_region_lit ?_
  refine sl_run rfl (.agg #[.int .u8 1, .string sP, .slice (some ⟨B, 0, none⟩) 3 3]) w12 (exec_load_row 24 w12 _ rfl B1 (by kernel_rfl) 24 _ (0, 0) _ hall.out.2.1 Try.underlying24 rfl (by kernel_rfl)) ?_
  simp only [Act.put, List.setIfInBounds_toArray, List.set_cons_zero, List.set_cons_succ]
  refine sl_run rfl (.agg (V2.c vA)) w12 (exec_load_row 46 w12 _ rfl B2 (by kernel_rfl) 46 _ (0, 0) _ hall.out.2.2.1 Try.underlying46 rfl (by kernel_rfl)) ?_
  simp only [Act.put, List.setIfInBounds_toArray, List.set_cons_zero, List.set_cons_succ]
  refine sl_run rfl (.agg (V2.c vB)) w12 (exec_load_row 46 w12 _ rfl B3 (by kernel_rfl) 46 _ (0, 0) _ hall.out.2.2.2.1 Try.underlying46 rfl (by kernel_rfl)) ?_
  simp only [Act.put, List.setIfInBounds_toArray, List.set_cons_zero, List.set_cons_succ]
  refine sl_run rfl (.agg (V2.c vO)) w12 (exec_load_row 46 w12 _ rfl B4 (by kernel_rfl) 46 _ (0, 0) _ hall.out.2.2.2.2 Try.underlying46 rfl (by kernel_rfl)) ?_
  simp only [Act.put, List.setIfInBounds_toArray, List.set_cons_zero, List.set_cons_succ]
  refine sl_run rfl (.slice (some ⟨w12.heap.size, 0, none⟩) 3 3) (w12.alloc (.cells (flat V2.c fT2).toArray 46)) (by kernel_rfl) ?_
  simp only [Act.put, List.setIfInBounds_toArray, List.set_cons_zero, List.set_cons_succ]
  have hn_w13 : (w12.alloc (.cells (flat V2.c fT2).toArray 46)).heap[w12.heap.size]? = some (.cells (flat V2.c fT2).toArray 46 (0, 0)) := heap_alloc_new _ _
  have hb_w13 : Below w12.heap.size w12 (w12.alloc (.cells (flat V2.c fT2).toArray 46)) := (Below.refl _ _).alloc (Nat.le_refl _) _
  obtain ⟨g_w13, hg_w13⟩ : ∃ g, g = w12.heap.size := ⟨_, rfl⟩
  rw [← hg_w13] at hn_w13 ⊢
  generalize w12.alloc _ = w13 at hn_w13 hb_w13 ⊢
  have hl_w13 : Hid (w13.heap[g_w13]? = some (.cells (flat V2.c fT2).toArray 46 (0, 0))) := hn_w13
  clear hn_w13 hg_w13
  have hall2 : Hid (Ctx B B1 B2 B3 B4 w13) := hall.out.below hb_w13
  have hB_w13 : Hid (Below B w w13) := hB_w12.out.trans (hb_w13.mono (Nat.le_trans hBle hB_w12.out.size))
  have hfb2 : Hid (Rw 3 T3.c w13 (.slice A5 2 c5) fBs) := hfb.out.below hb_w13
  have hft2 : Hid (Rw 2 V2.c w13 (.slice A9 3 c9) fT1) := hft.out.below hb_w13
  clear hall hfb hft
  rename Hid (Ctx _ _ _ _ _ _) => hall
  have hfb := hfb2
  clear hfb2
  have hft := hft2
  clear hft2
  have h9b : Hid (w13.heap[B9]? = some (.cells (tup sP (.slice A9 3 c9)) 27 (0, 0))) := heap_kept h9.out hb_w13
  clear h9
  have h9 := h9b
  clear h9b
  refine sl_run rfl (.agg (TT.cs ⟨sP, some ⟨g_w13, 0, none⟩, 3, fT2⟩)) w13 (by kernel_rfl) ?_
  simp only [Act.put, List.setIfInBounds_toArray, List.set_cons_zero, List.set_cons_succ]
  refine sl_run rfl (.agg (V2.c vB)) w13 (exec_load_row 46 w13 _ rfl B3 (by kernel_rfl) 46 _ (0, 0) _ hall.out.2.2.2.1 Try.underlying46 rfl (by kernel_rfl)) ?_
  simp only [Act.put, List.setIfInBounds_toArray, List.set_cons_zero, List.set_cons_succ]
  refine sl_run rfl (.agg (V2.c vB)) w13 (exec_load_row 46 w13 _ rfl B3 (by kernel_rfl) 46 _ (0, 0) _ hall.out.2.2.2.1 Try.underlying46 rfl (by kernel_rfl)) ?_
  simp only [Act.put, List.setIfInBounds_toArray, List.set_cons_zero, List.set_cons_succ]
  refine sl_run rfl (.agg (V2.c vB)) w13 (exec_load_row 46 w13 _ rfl B3 (by kernel_rfl) 46 _ (0, 0) _ hall.out.2.2.2.1 Try.underlying46 rfl (by kernel_rfl)) ?_
  simp only [Act.put, List.setIfInBounds_toArray, List.set_cons_zero, List.set_cons_succ]
  refine sl_run rfl (.slice (some ⟨w13.heap.size, 0, none⟩) 3 3) (w13.alloc (.cells (flat V2.c fT3).toArray 46)) (by kernel_rfl) ?_
  simp only [Act.put, List.setIfInBounds_toArray, List.set_cons_zero, List.set_cons_succ]
  have hn_w14 : (w13.alloc (.cells (flat V2.c fT3).toArray 46)).heap[w13.heap.size]? = some (.cells (flat V2.c fT3).toArray 46 (0, 0)) := heap_alloc_new _ _
  have hb_w14 : Below w13.heap.size w13 (w13.alloc (.cells (flat V2.c fT3).toArray 46)) := (Below.refl _ _).alloc (Nat.le_refl _) _
  obtain ⟨g_w14, hg_w14⟩ : ∃ g, g = w13.heap.size := ⟨_, rfl⟩
  rw [← hg_w14] at hn_w14 ⊢
  generalize w13.alloc _ = w14 at hn_w14 hb_w14 ⊢
  have hl_w14 : Hid (w14.heap[g_w14]? = some (.cells (flat V2.c fT3).toArray 46 (0, 0))) := hn_w14
  clear hn_w14 hg_w14
  have hs13 : Hid (Rw 2 V2.c w13 (.slice (some ⟨g_w13, 0, none⟩) 3 3) fT2) := rw_new v2_size fT2 hl_w13.out
  have hall2 : Hid (Ctx B B1 B2 B3 B4 w14) := hall.out.below hb_w14
  have hB_w14 : Hid (Below B w w14) := hB_w13.out.trans (hb_w14.mono (Nat.le_trans hBle hB_w13.out.size))
  have hfb2 : Hid (Rw 3 T3.c w14 (.slice A5 2 c5) fBs) := hfb.out.below hb_w14
  have hft2 : Hid (Rw 2 V2.c w14 (.slice A9 3 c9) fT1) := hft.out.below hb_w14
  have hs132 : Hid (Rw 2 V2.c w14 (.slice (some ⟨g_w13, 0, none⟩) 3 3) fT2) := hs13.out.below hb_w14
  clear hall hfb hft hs13
  rename Hid (Ctx _ _ _ _ _ _) => hall
  have hfb := hfb2
  clear hfb2
  have hft := hft2
  clear hft2
  have hs13 := hs132
  clear hs132
  have h9b : Hid (w14.heap[B9]? = some (.cells (tup sP (.slice A9 3 c9)) 27 (0, 0))) := heap_kept h9.out hb_w14
  clear h9
  have h9 := h9b
  clear h9b
  refine sl_run rfl (.agg (TT.cs ⟨sP, some ⟨g_w14, 0, none⟩, 3, fT3⟩)) w14 (by kernel_rfl) ?_
  simp only [Act.put, List.setIfInBounds_toArray, List.set_cons_zero, List.set_cons_succ]
  refine sl_run rfl (.slice (some ⟨w14.heap.size, 0, none⟩) 2 2) (w14.alloc (.cells (flat TT.cs [⟨sP, some ⟨g_w13, 0, none⟩, 3, fT2⟩, ⟨sP, some ⟨g_w14, 0, none⟩, 3, fT3⟩]).toArray 27)) (by kernel_rfl) ?_
  simp only [Act.put, List.setIfInBounds_toArray, List.set_cons_zero, List.set_cons_succ]
  have hn_w15 : (w14.alloc (.cells (flat TT.cs [⟨sP, some ⟨g_w13, 0, none⟩, 3, fT2⟩, ⟨sP, some ⟨g_w14, 0, none⟩, 3, fT3⟩]).toArray 27)).heap[w14.heap.size]? = some (.cells (flat TT.cs [⟨sP, some ⟨g_w13, 0, none⟩, 3, fT2⟩, ⟨sP, some ⟨g_w14, 0, none⟩, 3, fT3⟩]).toArray 27 (0, 0)) := heap_alloc_new _ _
  have hb_w15 : Below w14.heap.size w14 (w14.alloc (.cells (flat TT.cs [⟨sP, some ⟨g_w13, 0, none⟩, 3, fT2⟩, ⟨sP, some ⟨g_w14, 0, none⟩, 3, fT3⟩]).toArray 27)) := (Below.refl _ _).alloc (Nat.le_refl _) _
  obtain ⟨g_w15, hg_w15⟩ : ∃ g, g = w14.heap.size := ⟨_, rfl⟩
  rw [← hg_w15] at hn_w15 ⊢
  generalize w14.alloc _ = w15 at hn_w15 hb_w15 ⊢
  have hl_w15 : Hid (w15.heap[g_w15]? = some (.cells (flat TT.cs [⟨sP, some ⟨g_w13, 0, none⟩, 3, fT2⟩, ⟨sP, some ⟨g_w14, 0, none⟩, 3, fT3⟩]).toArray 27 (0, 0))) := hn_w15
  clear hn_w15 hg_w15
  have hs14 : Hid (Rw 2 V2.c w14 (.slice (some ⟨g_w14, 0, none⟩) 3 3) fT3) := rw_new v2_size fT3 hl_w14.out
  have hall2 : Hid (Ctx B B1 B2 B3 B4 w15) := hall.out.below hb_w15
  have hB_w15 : Hid (Below B w w15) := hB_w14.out.trans (hb_w15.mono (Nat.le_trans hBle hB_w14.out.size))
  have hfb2 : Hid (Rw 3 T3.c w15 (.slice A5 2 c5) fBs) := hfb.out.below hb_w15
  have hft2 : Hid (Rw 2 V2.c w15 (.slice A9 3 c9) fT1) := hft.out.below hb_w15
  have hs132 : Hid (Rw 2 V2.c w15 (.slice (some ⟨g_w13, 0, none⟩) 3 3) fT2) := hs13.out.below hb_w15
  have hs142 : Hid (Rw 2 V2.c w15 (.slice (some ⟨g_w14, 0, none⟩) 3 3) fT3) := hs14.out.below hb_w15
  clear hall hfb hft hs13 hs14
  rename Hid (Ctx _ _ _ _ _ _) => hall
  have hfb := hfb2
  clear hfb2
  have hft := hft2
  clear hft2
  have hs13 := hs132
  clear hs132
  have hs14 := hs142
  clear hs142
  have h9b : Hid (w15.heap[B9]? = some (.cells (tup sP (.slice A9 3 c9)) 27 (0, 0))) := heap_kept h9.out hb_w15
  clear h9
  have h9 := h9b
  clear h9b
  refine sl_call rfl 19 #[.agg #[.int .u8 1, .string sP, .slice (some ⟨B, 0, none⟩) 3 3], .slice (some ⟨g_w15, 0, none⟩) 2 2] (by kernel_rfl) (R := fun v w' => ∃ A c, Rw 2 TT.cs w' v [⟨sP, A, c, fT3⟩] ∧ Rw 2 V2.c w' (.slice A 3 c) fT3 ∧ Below w15.heap.size w15 w') ((select_calls 1 sP fArgs [⟨sP, some ⟨g_w13, 0, none⟩, 3, fT2⟩, ⟨sP, some ⟨g_w14, 0, none⟩, 3, fT3⟩] (some ⟨B, 0, none⟩) (some ⟨g_w15, 0, none⟩) 3 2 3 2 rfl rfl (by decide) (by decide) w15 hall.out.args (rw_new tt_size [⟨sP, some ⟨g_w13, 0, none⟩, 3, fT2⟩, ⟨sP, some ⟨g_w14, 0, none⟩, 3, fT3⟩] hl_w15.out) (fun t ht => by
      rcases List.mem_cons.1 ht with rfl | ht
      · exact hs13.out
      · rw [List.mem_singleton.1 ht]; exact hs14.out)).mono fun e w' h => by
    obtain ⟨v, sel, h1, h2, h3, h4, h5⟩ := h
    rw [filt] at h4
    obtain ⟨A, c, rfl⟩ := key_one h4
    exact ⟨v, h1, A, c, h2, h3 _ (List.mem_singleton.2 rfl), h5⟩) ?_
  rintro v13 w16 ⟨A13, c13, hv13, hvs13, hb_w16⟩
  have hall2 : Hid (Ctx B B1 B2 B3 B4 w16) := hall.out.below hb_w16
  have hB_w16 : Hid (Below B w w16) := hB_w15.out.trans (hb_w16.mono (Nat.le_trans hBle hB_w15.out.size))
  have hfb2 : Hid (Rw 3 T3.c w16 (.slice A5 2 c5) fBs) := hfb.out.below hb_w16
  have hft2 : Hid (Rw 2 V2.c w16 (.slice A9 3 c9) fT1) := hft.out.below hb_w16
  clear hall hfb hft
  rename Hid (Ctx _ _ _ _ _ _) => hall
  have hfb := hfb2
  clear hfb2
  have hft := hft2
  clear hft2
  have h9b : Hid (w16.heap[B9]? = some (.cells (tup sP (.slice A9 3 c9)) 27 (0, 0))) := heap_kept h9.out hb_w16
  clear h9
  have h9 := h9b
  clear h9b
  obtain ⟨At, ct, rfl⟩ := hv13.form
  have hst : Hid (Rw 2 TT.cs w16 (.slice At 1 ct) [⟨sP, A13, c13, fT3⟩]) := hv13
  have hsv : Hid (Rw 2 V2.c w16 (.slice A13 3 c13) fT3) := hvs13
  clear hv13 hvs13 hl_w13 hl_w14 hl_w15 hs13 hs14 hb_w13 hb_w14 hb_w15 hb_w16 hB_w12 hB_w13 hB_w14 hB_w15
  obtain ⟨g5, o5, rfl, _, l5, _⟩ := hfb.out.elem 0 (by decide)
  obtain ⟨g9, o9, rfl, _, l9, _⟩ := hft.out.elem 0 (by decide)
  obtain ⟨gt, ot, rfl, _, lt, ht0⟩ := hst.out.elem 0 (by simp)
  obtain ⟨gv, ov, rfl, _, lv, hv0⟩ := hsv.out.elem 0 (by decide)
  have h50 : Hid (w16.rangeAt g5 (o5 + 0 * 3) (T3.c ⟨sX, vA⟩).toList) := run_elem hfb.out 0 (by decide)
  have h51 : Hid (w16.rangeAt g5 (o5 + 1 * 3) (T3.c ⟨sY, vO⟩).toList) := run_elem hfb.out 1 (by decide)
  have h91 : Hid (w16.rangeAt g9 (o9 + 1 * 2) (V2.c vA).toList) := run_elem hft.out 1 (by decide)
  have ht0' : Hid (w16.cell? ⟨gt, ot + 0 * 2 + 1, none⟩ = some (.slice (some ⟨gv, ov, none⟩) 3 c13)) := ht0 1 _ rfl
  have hv0' : Hid (w16.rangeAt gv (ov + 0 * 2) (V2.c vB).toList) := hv0
  clear ht0 hv0 hfb hft hst hsv
  change wpList _ _ _ _ (Act.put _ _ (.slice (some ⟨gt, ot, none⟩) 1 ct)) _
  simp only [Act.put, List.setIfInBounds_toArray, List.set_cons_zero, List.set_cons_succ]
  refine sl_run rfl (.slice (some ⟨gt, ot, none⟩) 1 ct) w16 (by kernel_rfl) ?_
  simp only [Act.put, List.setIfInBounds_toArray, List.set_cons_zero, List.set_cons_succ]
  refine wpList_nil ?_
  go_upto_region 8 with fail
  have hw16 : ∀ w', Below w16.heap.size w16 w' → Ctx B B1 B2 B3 B4 w' := fun w' h => hall.out.below h
  have k50 : ∀ w', Below w16.heap.size w16 w' → w'.rangeAt g5 (o5 + 0 * 3) (T3.c ⟨sX, vA⟩).toList := fun w' h => range_below h50.out h (by exact l5)
  have k51 : ∀ w', Below w16.heap.size w16 w' → w'.rangeAt g5 (o5 + 1 * 3) (T3.c ⟨sY, vO⟩).toList := fun w' h => range_below h51.out h (by exact l5)
  have k91 : ∀ w', Below w16.heap.size w16 w' → w'.rangeAt g9 (o9 + 1 * 2) (V2.c vA).toList := fun w' h => range_below h91.out h (by exact l9)
  have kt0 : ∀ w', Below w16.heap.size w16 w' → w'.cell? ⟨gt, ot + 0 * 2 + 1, none⟩ = some (.slice (some ⟨gv, ov, none⟩) 3 c13) := fun w' h => by rw [h.cell (by exact lt)]; exact ht0'.out
  have kv0 : ∀ w', Below w16.heap.size w16 w' → w'.rangeAt gv (ov + 0 * 2) (V2.c vB).toList := fun w' h => range_below hv0'.out h (by exact lv)
  have k9 : ∀ w', Below w16.heap.size w16 w' → w'.cell? ⟨B9, 1, none⟩ = some (.slice (some ⟨g9, o9, none⟩) 3 c9) := fun w' h => by rw [cell_of_row _ _ _ _ _ _ (heap_kept h9.out h)]; rfl
  refine wp_region_quiet (C := Below w16.heap.size w16) (by kernel_rfl) (by kernel_rfl) (Below.refl _ _).drew ?_
  refine quiet_run rfl (.bool true) (fun w' h => (by kernel_rfl)) ?_
  simp only [Act.put, List.setIfInBounds_toArray, List.set_cons_zero, List.set_cons_succ]
  refine quiet_run rfl (.bool true) (fun w' h => (by kernel_rfl)) ?_
  simp only [Act.put, List.setIfInBounds_toArray, List.set_cons_zero, List.set_cons_succ]
  refine quiet_runG (by kernel_rfl) (.slice (some ⟨g5, o5, none⟩) 2 c5) (fun w' h => (by kernel_rfl)) ?_
  simp only [Act.put, List.setIfInBounds_toArray, List.set_cons_zero, List.set_cons_succ]
  refine quiet_runG (by kernel_rfl) (.int .i64 2) (fun w' h => (by kernel_rfl)) ?_
  simp only [Act.put, List.setIfInBounds_toArray, List.set_cons_zero, List.set_cons_succ]
  refine quiet_runG (by kernel_rfl) (.bool true) (fun w' h => (by kernel_rfl)) ?_
  simp only [Act.put, List.setIfInBounds_toArray, List.set_cons_zero, List.set_cons_succ]
  refine quiet_run rfl (.bool true) (fun w' h => (by kernel_rfl)) ?_
  simp only [Act.put, List.setIfInBounds_toArray, List.set_cons_zero, List.set_cons_succ]
  refine quiet_run rfl (.bool true) (fun w' h => (by kernel_rfl)) ?_
  simp only [Act.put, List.setIfInBounds_toArray, List.set_cons_zero, List.set_cons_succ]
  refine quiet_runG (by kernel_rfl) (.slice (some ⟨g5, o5, none⟩) 2 c5) (fun w' h => (by kernel_rfl)) ?_
  simp only [Act.put, List.setIfInBounds_toArray, List.set_cons_zero, List.set_cons_succ]
  refine quiet_runG (by kernel_rfl) (.pointer (some ⟨g5, o5 + 0 * 3, none⟩)) (fun w' h => (exec_index un28 sz28 _ _ rfl g5 o5 2 c5 0 (by kernel_rfl) (by kernel_rfl) (by decide) w')) ?_
  simp only [Act.put, List.setIfInBounds_toArray, List.set_cons_zero, List.set_cons_succ]
  refine quiet_runG (by kernel_rfl) (.agg (T3.c ⟨sX, vA⟩)) (fun w' h => (exec_load_mid 50 w' _ rfl g5 (o5 + 0 * 3) (by kernel_rfl) (T3.c ⟨sX, vA⟩).toList _ (k50 _ h) Try.underlying50 rfl (by kernel_rfl))) ?_
  simp only [Act.put, List.setIfInBounds_toArray, List.set_cons_zero, List.set_cons_succ]
  refine quiet_runG (by kernel_rfl) (.agg (V2.c vA)) (fun w' h => (exec_load_row 46 w' _ rfl B2 (by kernel_rfl) 46 _ (0, 0) _ (hw16 _ h).2.2.1 Try.underlying46 rfl (by kernel_rfl))) ?_
  simp only [Act.put, List.setIfInBounds_toArray, List.set_cons_zero, List.set_cons_succ]
  refine quiet_runG (by kernel_rfl) (.agg (T3.c ⟨sX, vA⟩)) (fun w' h => (by kernel_rfl)) ?_
  simp only [Act.put, List.setIfInBounds_toArray, List.set_cons_zero, List.set_cons_succ]
  refine quiet_runG (by kernel_rfl) (.bool true) (fun w' h => ((exec_eq50 _ _ rfl ⟨sX, vA⟩ ⟨sX, vA⟩ (by kernel_rfl) (by kernel_rfl) w').trans (by rw [eqT_self]))) ?_
  simp only [Act.put, List.setIfInBounds_toArray, List.set_cons_zero, List.set_cons_succ]
  refine quiet_run rfl (.bool true) (fun w' h => (by kernel_rfl)) ?_
  simp only [Act.put, List.setIfInBounds_toArray, List.set_cons_zero, List.set_cons_succ]
  refine quiet_run rfl (.bool true) (fun w' h => (by kernel_rfl)) ?_
  simp only [Act.put, List.setIfInBounds_toArray, List.set_cons_zero, List.set_cons_succ]
  refine quiet_runG (by kernel_rfl) (.slice (some ⟨g5, o5, none⟩) 2 c5) (fun w' h => (by kernel_rfl)) ?_
  simp only [Act.put, List.setIfInBounds_toArray, List.set_cons_zero, List.set_cons_succ]
  refine quiet_runG (by kernel_rfl) (.pointer (some ⟨g5, o5 + 1 * 3, none⟩)) (fun w' h => (exec_index un28 sz28 _ _ rfl g5 o5 2 c5 1 (by kernel_rfl) (by kernel_rfl) (by decide) w')) ?_
  simp only [Act.put, List.setIfInBounds_toArray, List.set_cons_zero, List.set_cons_succ]
  refine quiet_runG (by kernel_rfl) (.agg (T3.c ⟨sY, vO⟩)) (fun w' h => (exec_load_mid 50 w' _ rfl g5 (o5 + 1 * 3) (by kernel_rfl) (T3.c ⟨sY, vO⟩).toList _ (k51 _ h) Try.underlying50 rfl (by kernel_rfl))) ?_
  simp only [Act.put, List.setIfInBounds_toArray, List.set_cons_zero, List.set_cons_succ]
  refine quiet_runG (by kernel_rfl) (.agg (V2.c vO)) (fun w' h => (exec_load_row 46 w' _ rfl B4 (by kernel_rfl) 46 _ (0, 0) _ (hw16 _ h).2.2.2.2 Try.underlying46 rfl (by kernel_rfl))) ?_
  simp only [Act.put, List.setIfInBounds_toArray, List.set_cons_zero, List.set_cons_succ]
  refine quiet_runG (by kernel_rfl) (.agg (T3.c ⟨sY, vO⟩)) (fun w' h => (by kernel_rfl)) ?_
  simp only [Act.put, List.setIfInBounds_toArray, List.set_cons_zero, List.set_cons_succ]
  refine quiet_runG (by kernel_rfl) (.bool true) (fun w' h => ((exec_eq50 _ _ rfl ⟨sY, vO⟩ ⟨sY, vO⟩ (by kernel_rfl) (by kernel_rfl) w').trans (by rw [eqT_self]))) ?_
  simp only [Act.put, List.setIfInBounds_toArray, List.set_cons_zero, List.set_cons_succ]
  refine quiet_run rfl (.bool true) (fun w' h => (by kernel_rfl)) ?_
  simp only [Act.put, List.setIfInBounds_toArray, List.set_cons_zero, List.set_cons_succ]
  refine quiet_run rfl (.bool true) (fun w' h => (by kernel_rfl)) ?_
  simp only [Act.put, List.setIfInBounds_toArray, List.set_cons_zero, List.set_cons_succ]
  refine quiet_runG (by kernel_rfl) (.bool false) (fun w' h => (by kernel_rfl)) ?_
  simp only [Act.put, List.setIfInBounds_toArray, List.set_cons_zero, List.set_cons_succ]
  refine quiet_runG (by kernel_rfl) (.bool true) (fun w' h => (by kernel_rfl)) ?_
  simp only [Act.put, List.setIfInBounds_toArray, List.set_cons_zero, List.set_cons_succ]
  refine quiet_run rfl (.bool true) (fun w' h => (by kernel_rfl)) ?_
  simp only [Act.put, List.setIfInBounds_toArray, List.set_cons_zero, List.set_cons_succ]
  refine quiet_run rfl (.bool true) (fun w' h => (by kernel_rfl)) ?_
  simp only [Act.put, List.setIfInBounds_toArray, List.set_cons_zero, List.set_cons_succ]
  refine quiet_runG (by kernel_rfl) (.bool true) (fun w' h => (by kernel_rfl)) ?_
  simp only [Act.put, List.setIfInBounds_toArray, List.set_cons_zero, List.set_cons_succ]
  refine quiet_run rfl (.bool true) (fun w' h => (by kernel_rfl)) ?_
  simp only [Act.put, List.setIfInBounds_toArray, List.set_cons_zero, List.set_cons_succ]
  refine quiet_run rfl (.bool true) (fun w' h => (by kernel_rfl)) ?_
  simp only [Act.put, List.setIfInBounds_toArray, List.set_cons_zero, List.set_cons_succ]
  refine quiet_runG (by kernel_rfl) (.pointer (some ⟨B9, 1, none⟩)) (fun w' h => (by kernel_rfl)) ?_
  simp only [Act.put, List.setIfInBounds_toArray, List.set_cons_zero, List.set_cons_succ]
  refine quiet_runG (by kernel_rfl) (.slice (some ⟨g9, o9, none⟩) 3 c9) (fun w' h => (exec_load_cell 25 w' _ rfl ⟨B9, 1, none⟩ (by kernel_rfl) _ (k9 _ h) (fun _ => by kernel_rfl))) ?_
  simp only [Act.put, List.setIfInBounds_toArray, List.set_cons_zero, List.set_cons_succ]
  refine quiet_runG (by kernel_rfl) (.int .i64 3) (fun w' h => (by kernel_rfl)) ?_
  simp only [Act.put, List.setIfInBounds_toArray, List.set_cons_zero, List.set_cons_succ]
  refine quiet_runG (by kernel_rfl) (.bool true) (fun w' h => (by kernel_rfl)) ?_
  simp only [Act.put, List.setIfInBounds_toArray, List.set_cons_zero, List.set_cons_succ]
  refine quiet_run rfl (.bool true) (fun w' h => (by kernel_rfl)) ?_
  simp only [Act.put, List.setIfInBounds_toArray, List.set_cons_zero, List.set_cons_succ]
  refine quiet_run rfl (.bool true) (fun w' h => (by kernel_rfl)) ?_
  simp only [Act.put, List.setIfInBounds_toArray, List.set_cons_zero, List.set_cons_succ]
  refine quiet_runG (by kernel_rfl) (.pointer (some ⟨B9, 1, none⟩)) (fun w' h => (by kernel_rfl)) ?_
  simp only [Act.put, List.setIfInBounds_toArray, List.set_cons_zero, List.set_cons_succ]
  refine quiet_runG (by kernel_rfl) (.slice (some ⟨g9, o9, none⟩) 3 c9) (fun w' h => (exec_load_cell 25 w' _ rfl ⟨B9, 1, none⟩ (by kernel_rfl) _ (k9 _ h) (fun _ => by kernel_rfl))) ?_
  simp only [Act.put, List.setIfInBounds_toArray, List.set_cons_zero, List.set_cons_succ]
  refine quiet_runG (by kernel_rfl) (.pointer (some ⟨g9, o9 + 1 * 2, none⟩)) (fun w' h => (exec_index un25 sz25 _ _ rfl g9 o9 3 c9 1 (by kernel_rfl) (by kernel_rfl) (by decide) w')) ?_
  simp only [Act.put, List.setIfInBounds_toArray, List.set_cons_zero, List.set_cons_succ]
  refine quiet_runG (by kernel_rfl) (.agg (V2.c vA)) (fun w' h => (exec_load_mid 46 w' _ rfl g9 (o9 + 1 * 2) (by kernel_rfl) (V2.c vA).toList _ (k91 _ h) Try.underlying46 rfl (by kernel_rfl))) ?_
  simp only [Act.put, List.setIfInBounds_toArray, List.set_cons_zero, List.set_cons_succ]
  refine quiet_runG (by kernel_rfl) (.agg (V2.c vA)) (fun w' h => (exec_load_row 46 w' _ rfl B2 (by kernel_rfl) 46 _ (0, 0) _ (hw16 _ h).2.2.1 Try.underlying46 rfl (by kernel_rfl))) ?_
  simp only [Act.put, List.setIfInBounds_toArray, List.set_cons_zero, List.set_cons_succ]
  refine quiet_runG (by kernel_rfl) (.bool true) (fun w' h => ((exec_eq46 _ _ rfl vA vA (by kernel_rfl) (by kernel_rfl) w').trans (by rw [eqV_self]))) ?_
  simp only [Act.put, List.setIfInBounds_toArray, List.set_cons_zero, List.set_cons_succ]
  refine quiet_run rfl (.bool true) (fun w' h => (by kernel_rfl)) ?_
  simp only [Act.put, List.setIfInBounds_toArray, List.set_cons_zero, List.set_cons_succ]
  refine quiet_run rfl (.bool true) (fun w' h => (by kernel_rfl)) ?_
  simp only [Act.put, List.setIfInBounds_toArray, List.set_cons_zero, List.set_cons_succ]
  refine quiet_runG (by kernel_rfl) (.bool true) (fun w' h => (by kernel_rfl)) ?_
  simp only [Act.put, List.setIfInBounds_toArray, List.set_cons_zero, List.set_cons_succ]
  refine quiet_run rfl (.bool true) (fun w' h => (by kernel_rfl)) ?_
  simp only [Act.put, List.setIfInBounds_toArray, List.set_cons_zero, List.set_cons_succ]
  refine quiet_run rfl (.bool true) (fun w' h => (by kernel_rfl)) ?_
  simp only [Act.put, List.setIfInBounds_toArray, List.set_cons_zero, List.set_cons_succ]
  refine quiet_runG (by kernel_rfl) (.bool true) (fun w' h => (by kernel_rfl)) ?_
  simp only [Act.put, List.setIfInBounds_toArray, List.set_cons_zero, List.set_cons_succ]
  refine quiet_run rfl (.bool true) (fun w' h => (by kernel_rfl)) ?_
  simp only [Act.put, List.setIfInBounds_toArray, List.set_cons_zero, List.set_cons_succ]
  refine quiet_run rfl (.bool true) (fun w' h => (by kernel_rfl)) ?_
  simp only [Act.put, List.setIfInBounds_toArray, List.set_cons_zero, List.set_cons_succ]
  refine quiet_runG (by kernel_rfl) (.slice (some ⟨gt, ot, none⟩) 1 ct) (fun w' h => (by kernel_rfl)) ?_
  simp only [Act.put, List.setIfInBounds_toArray, List.set_cons_zero, List.set_cons_succ]
  refine quiet_runG (by kernel_rfl) (.int .i64 1) (fun w' h => (by kernel_rfl)) ?_
  simp only [Act.put, List.setIfInBounds_toArray, List.set_cons_zero, List.set_cons_succ]
  refine quiet_runG (by kernel_rfl) (.bool true) (fun w' h => (by kernel_rfl)) ?_
  simp only [Act.put, List.setIfInBounds_toArray, List.set_cons_zero, List.set_cons_succ]
  refine quiet_run rfl (.bool true) (fun w' h => (by kernel_rfl)) ?_
  simp only [Act.put, List.setIfInBounds_toArray, List.set_cons_zero, List.set_cons_succ]
  refine quiet_run rfl (.bool true) (fun w' h => (by kernel_rfl)) ?_
  simp only [Act.put, List.setIfInBounds_toArray, List.set_cons_zero, List.set_cons_succ]
  refine quiet_runG (by kernel_rfl) (.slice (some ⟨gt, ot, none⟩) 1 ct) (fun w' h => (by kernel_rfl)) ?_
  simp only [Act.put, List.setIfInBounds_toArray, List.set_cons_zero, List.set_cons_succ]
  refine quiet_runG (by kernel_rfl) (.pointer (some ⟨gt, ot + 0 * 2, none⟩)) (fun w' h => (exec_index un41 sz41 _ _ rfl gt ot 1 ct 0 (by kernel_rfl) (by kernel_rfl) (by decide) w')) ?_
  simp only [Act.put, List.setIfInBounds_toArray, List.set_cons_zero, List.set_cons_succ]
  refine quiet_runG (by kernel_rfl) (.pointer (some ⟨gt, ot + 0 * 2 + 1, none⟩)) (fun w' h => (by kernel_rfl)) ?_
  simp only [Act.put, List.setIfInBounds_toArray, List.set_cons_zero, List.set_cons_succ]
  refine quiet_runG (by kernel_rfl) (.slice (some ⟨gv, ov, none⟩) 3 c13) (fun w' h => (exec_load_cell 25 w' _ rfl ⟨gt, ot + 0 * 2 + 1, none⟩ (by kernel_rfl) _ (kt0 _ h) (fun _ => by kernel_rfl))) ?_
  simp only [Act.put, List.setIfInBounds_toArray, List.set_cons_zero, List.set_cons_succ]
  refine quiet_runG (by kernel_rfl) (.pointer (some ⟨gv, ov + 0 * 2, none⟩)) (fun w' h => (exec_index un25 sz25 _ _ rfl gv ov 3 c13 0 (by kernel_rfl) (by kernel_rfl) (by decide) w')) ?_
  simp only [Act.put, List.setIfInBounds_toArray, List.set_cons_zero, List.set_cons_succ]
  refine quiet_runG (by kernel_rfl) (.agg (V2.c vB)) (fun w' h => (exec_load_mid 46 w' _ rfl gv (ov + 0 * 2) (by kernel_rfl) (V2.c vB).toList _ (kv0 _ h) Try.underlying46 rfl (by kernel_rfl))) ?_
  simp only [Act.put, List.setIfInBounds_toArray, List.set_cons_zero, List.set_cons_succ]
  refine quiet_runG (by kernel_rfl) (.agg (V2.c vB)) (fun w' h => (exec_load_row 46 w' _ rfl B3 (by kernel_rfl) 46 _ (0, 0) _ (hw16 _ h).2.2.2.1 Try.underlying46 rfl (by kernel_rfl))) ?_
  simp only [Act.put, List.setIfInBounds_toArray, List.set_cons_zero, List.set_cons_succ]
  refine quiet_runG (by kernel_rfl) (.bool true) (fun w' h => ((exec_eq46 _ _ rfl vB vB (by kernel_rfl) (by kernel_rfl) w').trans (by rw [eqV_self]))) ?_
  simp only [Act.put, List.setIfInBounds_toArray, List.set_cons_zero, List.set_cons_succ]
  refine quiet_run rfl (.bool true) (fun w' h => (by kernel_rfl)) ?_
  simp only [Act.put, List.setIfInBounds_toArray, List.set_cons_zero, List.set_cons_succ]
  refine quiet_run rfl (.bool true) (fun w' h => (by kernel_rfl)) ?_
  simp only [Act.put, List.setIfInBounds_toArray, List.set_cons_zero, List.set_cons_succ]
  refine wpQuiet_nil ?_
  intro w17 hb_w17
  have hB_w17 : Hid (Below B w w17) := hB_w16.out.trans (hb_w17.mono (Nat.le_trans hBle hB_w16.out.size))
  clear h50 h51 h91 ht0' hv0' h9 hall hw16 k50 k51 k91 kt0 kv0 k9 hb_w17
  go_wp2_with fail
  go_ret
  exact ⟨rfl, by rw [← hBd]; exact hB_w17.out⟩
end Go.Proofs.Ytehgblnhhlgikaa.Bi
