/-
  A log and the lists beside it.
-/
import Derived.Test.YtadopkifpfmhcaaDoorMgC
import Derived.Laws.StructEq
import Derived.ChangeKeysEq
import Derived.Laws.IdiomCopy
import Derived.Laws.OwnMore
set_option linter.unusedVariables false
set_option linter.unusedSimpArgs false
namespace Go.Proofs.YtadopkifpfmhcaaDoor
open Go.RowKit
open Sha (vals Bytes Lies bytesC sumB)
section
variable {ty : TypeId} {k : Nat} {o : Oper} {a : Act}
end
end Go.Proofs.YtadopkifpfmhcaaDoor
namespace Go.Proofs.YtadopkifpfmhcaaDoor
open Go.RowKit
open Sha (vals Bytes Lies bytesC sumB)
open Go.Proofs.YtadopkifpfmhcaaDoorW.PrintWords Go.Proofs.YtadopkifpfmhcaaDoorW.PrintLast Go.Proofs.YtadopkifpfmhcaaDoorW.PrintMore
/-- What is summed for the k-th entry. -/
def textS (m : Nat) (l : List En) (k : Nat) : List Nat := headP m l k ++ (bytesS (k : Int) (l.getD k default)).1
instance : Inhabited Value := ⟨undef⟩
def encV (v : Value) : Array Value := #[v]
/-- A chain that is summed, and the row of its texts. -/
structure TI (w0 : World) (D m : Nat) (l : List En) (i : Nat) (ov : Value) (vs : List Value) (w : World) : Prop where
  row : ∃ hv : Value, w.heap[D]? = some (.cells #[.int .i64 (m : Int), hv, .int .i64 (i : Int)] 72 (0, 0)) ∧ w.ownsRow w0.heap.size 5 1 hv (headP m l i).length (vals (headP m l i))
  out : w.ownsRow w0.heap.size 25 1 ov i vs
  el : ∀ j, j < i → w.ownsRow w0.heap.size 5 1 (vs.getD j undef) (textS m l j).length (vals (textS m l j))
  bel : Below w0.heap.size w0 w
theorem TI.below {w0 w w' : World} {D m i : Nat} {l : List En} {ov : Value} {vs : List Value} (h : TI w0 D m l i ov vs w) (hb : Below w.heap.size w w') : TI w0 D m l i ov vs w' := by
  obtain ⟨⟨hv, h1, h2⟩, h3, h4, h5⟩ := h
  have k : ∀ {b n k e v xs}, w.ownsRow b e k v n xs → w'.ownsRow b e k v n xs := fun h => own_keep h (fun q hq => hb.block q (h.lt q hq).2)
  exact ⟨⟨hv, heap_kept h1 hb, k h2⟩, k h3, fun j hj => k (h4 j hj), h5.trans (hb.mono h5.size)⟩
def TIx (w0 : World) (D m : Nat) (l : List En) (i : Nat) (ov : Value) (w : World) : Prop := ∃ vs, TI w0 D m l i ov vs w
theorem TIx.below {w0 w w' : World} {D m i : Nat} {l : List En} {ov : Value} (h : TIx w0 D m l i ov w) (hb : Below w.heap.size w w') : TIx w0 D m l i ov w' := by
  obtain ⟨vs, h⟩ := h; exact ⟨vs, h.below hb⟩
/-- Between the append and the link. -/
structure TI4 (w0 : World) (D m : Nat) (l : List En) (i : Nat) (ov : Value) (vs : List Value) (w : World) : Prop where
  row : ∃ hv : Value, w.heap[D]? = some (.cells #[.int .i64 (m : Int), hv, .int .i64 (i : Int)] 72 (0, 0)) ∧ w.ownsRow w0.heap.size 5 1 hv (headP m l i).length (vals (headP m l i))
  out : w.ownsRow w0.heap.size 25 1 ov (i + 1) vs
  el : ∀ j, j < i + 1 → w.ownsRow w0.heap.size 5 1 (vs.getD j undef) (textS m l j).length (vals (textS m l j))
  bel : Below w0.heap.size w0 w
/-- What is handed back. -/
structure TxO (w0 : World) (m : Nat) (l : List En) (ov hv : Value) (w : World) : Prop where
  out : ∃ vs, w.ownsRow w0.heap.size 25 1 ov l.length vs ∧ ∀ j, j < l.length → Bytes w (vs.getD j undef) (textS m l j)
  head : Bytes w hv (headP m l l.length)
  bel : Below w0.heap.size w0 w
end Go.Proofs.YtadopkifpfmhcaaDoor
namespace Go.Proofs.YtadopkifpfmhcaaDoor
open Go.RowKit
open Sha (vals Bytes Lies bytesC sumB)
open Go.Proofs.YtadopkifpfmhcaaDoorW.PrintWords Go.Proofs.YtadopkifpfmhcaaDoorW.PrintLast Go.Proofs.YtadopkifpfmhcaaDoorW.PrintMore
def pairK (m : Nat) (a b : List En) (j : Nat) : Bool := decide (textS m a (a.length - 1 - j) = textS m b (b.length - 1 - j))
def clashK (m : Nat) (a b : List En) : Option Nat := (List.range (min a.length b.length)).find? fun j => !pairK m a b j
/-- Two texts that are summed, or none. -/
def clashR (cut : Int) (a b : List En) : List Nat × List Nat × Bool :=
  if rightS cut a = true ∧ rightS cut b = true ∧ headP cut.toNat a a.length = headP cut.toNat b b.length then
    match clashK cut.toNat a b with
    | some j => (textS cut.toNat a (a.length - 1 - j), textS cut.toNat b (b.length - 1 - j), true)
    | none => ([], [], false)
  else ([], [], false)
/-- An element of a row of texts. -/
theorem TxO.elem {w0 w : World} {m : Nat} {l : List En} {ov hv : Value} (h : TxO w0 m l ov hv w) (hl : 0 < l.length) : ∃ g c, ov = .slice (some ⟨g, 0, none⟩) l.length c ∧ l.length ≤ c ∧ ∀ j, j < l.length → ∃ u, w.cell? ⟨g, j, none⟩ = some u ∧ Bytes w u (textS m l j) := by
  obtain ⟨vs, h1, h2⟩ := h.out
  rcases h1.2 with ⟨_, h0⟩ | ⟨g, cap, cur, rfl, h3, h4, h5, h6, h7, h8⟩
  · omega
  · refine ⟨g, cap, rfl, h5, fun j hj => ⟨vs.getD j undef, ?_, h2 j hj⟩⟩
    have hlen : vs.length = l.length := by have := h1.1; omega
    have := h1.cells (g := g) rfl j (vs.getD j undef) (by simp [show j < vs.length by omega])
    rwa [Addr.add_mid, Nat.zero_add] at this
theorem TxO.below {w0 w w' : World} {m : Nat} {l : List En} {ov hv : Value} (h : TxO w0 m l ov hv w) (hb : Below w.heap.size w w') : TxO w0 m l ov hv w' := by
  obtain ⟨⟨vs, h1, h2⟩, h3, h4⟩ := h
  exact ⟨⟨vs, own_keep h1 (fun q hq => hb.block q (h1.lt q hq).2), fun j hj => (h2 j hj).below hb⟩, h3.below hb, h4.trans (hb.mono h4.size)⟩
def lenOf : Value → Nat
  | .slice _ n _ => n
  | _ => 0
end Go.Proofs.YtadopkifpfmhcaaDoor
namespace Go.Proofs.YtadopkifpfmhcaaDoor
open Go.RowKit
open Sha (vals Bytes Lies bytesC sumB)
open Go.Proofs.YtadopkifpfmhcaaDoorW.PrintWords Go.Proofs.YtadopkifpfmhcaaDoorW.PrintLast Go.Proofs.YtadopkifpfmhcaaDoorW.PrintMore
end Go.Proofs.YtadopkifpfmhcaaDoor
namespace Go.Proofs.YtadopkifpfmhcaaDoor
open Go.RowKit
open Sha (vals Bytes Lies bytesC sumB)
open Classical in
noncomputable instance : DecidableEq En := fun _ _ => propDecidable _
theorem eq_items2 (d e : List Nat) (hd : d.length = 32) (he : e.length = 32) (k : Nat) (w : World) : ∀ (is : List Nat), (∀ i ∈ is, i < 32) → (Op.eqItems (k + 1) 5 (Tryd.prog.cellsOf 5) (bytesC d) (bytesC e) is).run Tryd.prog w = .ok (is.all fun i => d.getD i 0 == e.getD i 0) w
  | [], _ => by simp [Op.eqItems]
  | i :: is, h => by
    have hc : Tryd.prog.cellsOf 5 = 1 := by kernel_rfl
    have ha : ∀ w, (isAgg 5).run Tryd.prog w = .ok false w := fun w => by kernel_rfl
    have hi : i < 32 := h i (by simp)
    have hp : ∀ (x : List Nat), x.length = 32 → (part 5 (bytesC x) (i * Tryd.prog.cellsOf 5)).run Tryd.prog w = .ok (.int .u8 (x.getD i 0 : Nat)) w := fun x hx => by
      rw [hc, Nat.mul_one]
      unfold part
      simp only [Sem.run_bind, ha, Result.andThen_ok, Sha.bytesC_get x i (by omega)]
      rfl
    have ih := eq_items2 d e hd he k w is (fun j hj => h j (by simp [hj]))
    have hb : (((d.getD i 0 : Nat) : Int) == ((e.getD i 0 : Nat) : Int)) = (d.getD i 0 == e.getD i 0) := by
      rw [Bool.eq_iff_iff, beq_iff_eq, beq_iff_eq]; omega
    simp only [Op.eqItems, Sem.run_bind, hp d hd, hp e he, Result.andThen_ok, run_equalIn_int w k 5 .u8 .u8 _ _ Tryd.underlying5, hb, List.all_cons]
    cases hq : (d.getD i 0 == e.getD i 0) with
    | true => simp [ih]
    | false => simp
theorem list_all32 {d e : List Nat} (hd : d.length = 32) (he : e.length = 32) : ((List.range 32).all fun i => d.getD i 0 == e.getD i 0) = decide (d = e) := by
  rw [Bool.eq_iff_iff, decide_eq_true_iff, List.all_eq_true]
  constructor
  · intro h
    refine List.ext_getElem (by omega) fun i h1 h2 => ?_
    have := h i (List.mem_range.2 (by omega))
    rw [beq_iff_eq] at this
    simpa [List.getD_eq_getElem?_getD, h1, h2] using this
  · rintro rfl i _; simp
theorem run_eq22 (d e : List Nat) (hd : d.length = 32) (he : e.length = 32) (k : Nat) (w : World) : (Op.equalIn (k + 2) 22 (.agg (bytesC d)) (.agg (bytesC e))).run Tryd.prog w = .ok (decide (d = e)) w := by
  obtain ⟨i5, hi5, _⟩ := info_parts inf5
  rw [run_equalIn_array w (k + 1) (bytesC d) (bytesC e) Tryd.underlying22 hi5, ← list_all32 hd he]
  exact eq_items2 d e hd he k w _ (fun i hi => List.mem_range.1 hi)
theorem bytes_eq (a b : ByteArray) : (a.toList == b.toList) = decide (a = b) := by
  rw [Bool.eq_iff_iff, beq_iff_eq, decide_eq_true_iff, ByteArray.toList_eq, ByteArray.toList_eq]
  constructor
  · intro h
    obtain ⟨⟨x⟩⟩ := a
    obtain ⟨⟨y⟩⟩ := b
    simpa using h
  · rintro rfl; rfl
theorem en_eq (x y : En) : decide (x = y) = (decide (x.u = y.u) && (decide (x.t = y.t) && (decide (x.x = y.x) && decide (x.d = y.d)))) := by
  rw [Bool.eq_iff_iff]
  simp only [Bool.and_eq_true, decide_eq_true_eq]
  constructor
  · rintro rfl; exact ⟨rfl, rfl, rfl, rfl⟩
  · rintro ⟨h1, h2, h3, h4⟩
    obtain ⟨_, _, _, _, _⟩ := x
    obtain ⟨_, _, _, _, _⟩ := y
    simp only at h1 h2 h3 h4
    subst h1 h2 h3 h4
    rfl
theorem ext3 (e : En) : (encE e).extract 3 35 = bytesC e.d := by
  obtain ⟨u, t, x, d, hd⟩ := e
  unfold encE
  simp only
  have : (Value.string u :: Value.int .i64 t :: Value.string x :: d.map fun (n : Nat) => Value.int .u8 (n : Int)).length = 35 := by simp [hd]
  rw [List.extract_toArray]
  unfold bytesC
  congr 1
  simp [List.extract, hd]
  exact List.take_of_length_le (by simp [hd])
theorem part_u (e : En) (w : World) : (part 9 (encE e) 0).run Tryd.prog w = .ok (.string e.u) w := by
  unfold part
  have ha : (isAgg 9).run Tryd.prog w = .ok false w := by kernel_rfl
  simp only [Sem.run_bind, ha, Result.andThen_ok]
  rfl
theorem part_t (e : En) (w : World) : (part 2 (encE e) 1).run Tryd.prog w = .ok (.int .i64 e.t) w := by
  unfold part
  have ha : (isAgg 2).run Tryd.prog w = .ok false w := by kernel_rfl
  simp only [Sem.run_bind, ha, Result.andThen_ok]
  rfl
theorem part_x (e : En) (w : World) : (part 9 (encE e) 2).run Tryd.prog w = .ok (.string e.x) w := by
  unfold part
  have ha : (isAgg 9).run Tryd.prog w = .ok false w := by kernel_rfl
  simp only [Sem.run_bind, ha, Result.andThen_ok]
  rfl
theorem part_d (e : En) (w : World) : (part 22 (encE e) 3).run Tryd.prog w = .ok (.agg (bytesC e.d)) w := by
  unfold part
  have ha : (isAgg 22).run Tryd.prog w = .ok true w := by kernel_rfl
  have hs : (sizeOf 22).run Tryd.prog w = .ok 32 w := by kernel_rfl
  simp only [Sem.run_bind, ha, Result.andThen_ok, if_true, hs, Sem.run_pure, ext3, Nat.reduceAdd]
theorem fields24 : (Tryd.prog.fieldsOf 24).toList.map (fun f => (f.name, f.type, f.offset)) = [("User", 9, 0), ("Tick", 2, 1), ("Text", 9, 2), ("Digest", 22, 3)] := by kernel_rfl
theorem run_eq24 (x y : En) (k : Nat) (w : World) : (Op.equalIn (k + 4) 24 (.agg (encE x)) (.agg (encE y))).run Tryd.prog w = .ok (decide (x = y)) w := by
  rw [run_equalIn_struct w (k + 3) 24 (encE x) (encE y) (by kernel_rfl) (by kernel_rfl), en_eq]
  have hf := fields24
  generalize (Tryd.prog.fieldsOf 24).toList = fs at hf ⊢
  have hl : fs.length = 4 := by have := congrArg List.length hf; simpa using this
  match fs, hl with
  | [f0, f1, f2, f3], _ =>
    simp only [List.map_cons, List.map_nil, List.cons.injEq, Prod.mk.injEq, and_true] at hf
    obtain ⟨⟨n0, t0, o0⟩, ⟨n1, t1, o1⟩, ⟨n2, t2, o2⟩, ⟨n3, t3, o3⟩⟩ := hf
    have hn0 : f0.name ≠ "_" := by rw [n0]; decide
    have hn1 : f1.name ≠ "_" := by rw [n1]; decide
    have hn2 : f2.name ≠ "_" := by rw [n2]; decide
    have hn3 : f3.name ≠ "_" := by rw [n3]; decide
    have ht : (x.t == y.t) = decide (x.t = y.t) := by rw [Bool.eq_iff_iff, beq_iff_eq, decide_eq_true_iff]
    simp only [Op.eqFields, if_pos hn0, if_pos hn1, if_pos hn2, if_pos hn3, t0, t1, t2, t3, o0, o1, o2, o3, Sem.run_bind, part_u, part_t, part_x, part_d, Result.andThen_ok, Sem.run_ite, Sem.run_pure,
      run_equalIn_string _ (k + 2) 9 _ _ Tryd.underlying9, run_equalIn_int _ (k + 2) 2 .i64 .i64 _ _ Tryd.underlying2, run_eq22 x.d y.d x.hd y.hd (k + 1), bytes_eq, ht]
    by_cases h0 : x.u = y.u <;> by_cases h1 : x.t = y.t <;> by_cases h2 : x.x = y.x <;> by_cases h3 : x.d = y.d <;> simp [h0, h1, h2, h3]
theorem partL_0 (p : L3) (w : World) : (part 3 (encL p) 0).run Tryd.prog w = .ok (.int .i64 p.1) w := by
  unfold part
  have ha : (isAgg 3).run Tryd.prog w = .ok false w := by kernel_rfl
  have h : (encL p)[0]? = some (.int .i64 p.1) := by unfold encL; rw [Array.getElem?_append_left (by simp)]; rfl
  simp only [Sem.run_bind, ha, Result.andThen_ok, h]
  rfl
theorem partL_1 (p : L3) (w : World) : (part 3 (encL p) 1).run Tryd.prog w = .ok (.int .i64 p.2.1) w := by
  unfold part
  have ha : (isAgg 3).run Tryd.prog w = .ok false w := by kernel_rfl
  have h : (encL p)[1]? = some (.int .i64 p.2.1) := by unfold encL; rw [Array.getElem?_append_left (by simp)]; rfl
  simp only [Sem.run_bind, ha, Result.andThen_ok, h]
  rfl
theorem partL_2 (p : L3) (w : World) : (part 24 (encL p) 2).run Tryd.prog w = .ok (.agg (encE p.2.2)) w := by
  unfold part
  have ha : (isAgg 24).run Tryd.prog w = .ok true w := by kernel_rfl
  have hs : (sizeOf 24).run Tryd.prog w = .ok 35 w := by kernel_rfl
  have h : (encL p).extract 2 37 = encE p.2.2 := by
    refine Array.toList_inj.1 ?_
    unfold encL
    rw [Array.toList_extract, Array.toList_append]
    simp only [List.extract, List.cons_append, List.nil_append, List.drop_succ_cons, List.drop_zero]
    exact List.take_of_length_le (by rw [Array.length_toList, encE_size']; decide)
  simp only [Sem.run_bind, ha, Result.andThen_ok, if_true, hs, Sem.run_pure, Nat.reduceAdd, h]
theorem fields55 : (Tryd.prog.fieldsOf 55).toList.map (fun f => (f.name, f.type, f.offset)) = [("Label", 3, 0), ("No", 3, 1), ("Entry", 24, 2)] := by kernel_rfl
theorem run_eq55 (p q : L3) (k : Nat) (w : World) : (Op.equalIn (k + 6) 55 (.agg (encL p)) (.agg (encL q))).run Tryd.prog w = .ok (decide (p = q)) w := by
  rw [run_equalIn_struct w (k + 5) 55 (encL p) (encL q) (by kernel_rfl) (by kernel_rfl)]
  have hf := fields55
  generalize (Tryd.prog.fieldsOf 55).toList = fs at hf ⊢
  have hl : fs.length = 3 := by have := congrArg List.length hf; simpa using this
  match fs, hl with
  | [f0, f1, f2], _ =>
    simp only [List.map_cons, List.map_nil, List.cons.injEq, Prod.mk.injEq, and_true] at hf
    obtain ⟨⟨n0, t0, o0⟩, ⟨n1, t1, o1⟩, ⟨n2, t2, o2⟩⟩ := hf
    have hn0 : f0.name ≠ "_" := by rw [n0]; decide
    have hn1 : f1.name ≠ "_" := by rw [n1]; decide
    have hn2 : f2.name ≠ "_" := by rw [n2]; decide
    have ht : ∀ a b : Int, (a == b) = decide (a = b) := fun a b => by rw [Bool.eq_iff_iff, beq_iff_eq, decide_eq_true_iff]
    simp only [Op.eqFields, if_pos hn0, if_pos hn1, if_pos hn2, t0, t1, t2, o0, o1, o2, Sem.run_bind, partL_0, partL_1, partL_2, Result.andThen_ok, Sem.run_ite, Sem.run_pure,
      run_equalIn_int _ (k + 4) 3 .i64 .i64 _ _ Tryd.underlying3, run_eq24 p.2.2 q.2.2 (k + 1), ht]
    obtain ⟨p0, p1, p2⟩ := p
    obtain ⟨q0, q1, q2⟩ := q
    by_cases h0 : p0 = q0 <;> by_cases h1 : p1 = q1 <;> by_cases h2 : p2 = q2 <;> simp [h0, h1, h2]
theorem guardL : Tryd.prog.eqGuardType Tryd.prog.depth 55 = false := by kernel_rfl
theorem exec_neL {o : Oper} {a : Act} (x y : Operand) (ho : o.op = .binOp .neq 55 x y 55) (u v : L3) (hx : a.eval x = .agg (encL u)) (hy : a.eval y = .agg (encL v)) (w : World) : (execOp a.eval o).run Tryd.prog w = .ok (.value (.bool (!decide (u = v)))) w := by
  unfold execOp
  simp only [ho, hx, hy, Sem.run_bind, run_eqGuard_agg w .neq 55 x y _ _ guardL, Result.andThen_ok, run_neq_struct, run_eq55 u v 9994 w, Sem.run_pure]
end Go.Proofs.YtadopkifpfmhcaaDoor
namespace Go.Proofs.YtadopkifpfmhcaaDoor
open Go.RowKit
open Sha (vals Bytes Lies bytesC sumB)
open Go.Proofs.YtadopkifpfmhcaaDoorW.PrintWords Go.Proofs.YtadopkifpfmhcaaDoorW.PrintLast Go.Proofs.YtadopkifpfmhcaaDoorW.PrintMore
end Go.Proofs.YtadopkifpfmhcaaDoor
namespace Go.Proofs.YtadopkifpfmhcaaDoor
open Go.RowKit
open Sha (vals Bytes Lies bytesC sumB)
end Go.Proofs.YtadopkifpfmhcaaDoor
namespace Go.Proofs.YtadopkifpfmhcaaDoor
open Go.RowKit
open Sha (vals Bytes Lies bytesC sumB)
open Go.Proofs.YtadopkifpfmhcaaDoorW.PrintWords Go.Proofs.YtadopkifpfmhcaaDoorW.PrintLast Go.Proofs.YtadopkifpfmhcaaDoorW.PrintMore
end Go.Proofs.YtadopkifpfmhcaaDoor
namespace Go.Proofs.YtadopkifpfmhcaaDoor
open Go.RowKit
open Sha (vals Bytes Lies bytesC sumB)
open Go.Proofs.YtadopkifpfmhcaaDoorW.PrintWords Go.Proofs.YtadopkifpfmhcaaDoorW.PrintLast Go.Proofs.YtadopkifpfmhcaaDoorW.PrintMore
end Go.Proofs.YtadopkifpfmhcaaDoor
namespace Go.Proofs.YtadopkifpfmhcaaDoor
open Go.RowKit
open Sha (vals Bytes Lies bytesC sumB)
open Go.Proofs.YtadopkifpfmhcaaDoorW.PrintWords Go.Proofs.YtadopkifpfmhcaaDoorW.PrintLast Go.Proofs.YtadopkifpfmhcaaDoorW.PrintMore
end Go.Proofs.YtadopkifpfmhcaaDoor
namespace Go.Proofs.YtadopkifpfmhcaaDoor
open Go.RowKit
open Sha (vals Bytes Lies bytesC sumB)
theorem setCells_kp (g : Nat) : ∀ (vs : List Value) (o : Nat) (w : World), Kp w g (w.setCells g o vs)
  | [], o, w => ⟨rfl, rfl, rfl, Nat.le_refl _, fun _ _ _ => rfl⟩
  | v :: vs, o, w => by
    have h1 : Kp w g (w.setCell ⟨g, o, none⟩ v) := Kp.set ⟨rfl, rfl, rfl, Nat.le_refl _, fun _ _ _ => rfl⟩ o v
    have h2 := setCells_kp g vs (o + 1) (w.setCell ⟨g, o, none⟩ v)
    show Kp w g ((w.setCell ⟨g, o, none⟩ v).setCells g (o + 1) vs)
    exact ⟨h2.os.trans h1.os, h2.tape.trans h1.tape, h2.output.trans h1.output, Nat.le_trans h1.size h2.size, fun k hk hne => (h2.block k (Nat.lt_of_lt_of_le hk h1.size) hne).trans (h1.block k hk hne)⟩
/-- Such a list. -/
structure Wr (w : World) (g n c : Nat) (l : List En) : Prop where
  len : n = l.length
  cap : n ≤ c
  lt : g < w.heap.size
  el : ∀ i, i < n → w.rangeAt g (i * 35) (encE (l.getD i default)).toList
  fr : ∀ o, w.frozen? ⟨g, o, none⟩ = false
theorem Wr.rw {w : World} {g n c : Nat} {l : List En} (h : Wr w g n c l) : Rw 35 encE w (.slice (some ⟨g, 0, none⟩) n c) l :=
  .inr ⟨g, 0, c, by rw [h.len], by rw [← h.len]; exact h.cap, h.lt, fun i hi => by rw [Nat.zero_add]; exact h.el i (by rw [h.len]; exact hi)⟩
theorem Wr.below {w w' : World} {g n c : Nat} {l : List En} (h : Wr w g n c l) (hb : Below w.heap.size w w') : Wr w' g n c l :=
  ⟨h.len, h.cap, Nat.lt_of_lt_of_le h.lt hb.size, fun i hi => range_below (h.el i hi) hb h.lt, fun o => by rw [World.frozen?_of_block (a := ⟨g, o, none⟩) (hb.block g h.lt)]; exact h.fr o⟩
theorem Wr.own {w : World} {base g n c : Nat} {l : List En} (hn : n = l.length) (h : w.ownsRow base 24 35 (.slice (some ⟨g, 0, none⟩) n c) n (flat encE l)) : Wr w g n c l := by
  rcases h.2 with ⟨h0, _⟩ | ⟨g', cap, cur, e, h1, h2, h3, h4, h5, h6⟩
  · cases h0
  · injection e with e1 e2 e3
    injection e1 with e1
    injection e1 with e1 e4
    subst e1 e3
    refine ⟨hn, h3, (Array.getElem?_eq_some_iff.1 h2).1, fun i hi j v hv => ?_, fun o => frozen_of_row _ _ _ _ _ h2⟩
    have hc := h.cells (g := g) rfl (i * 35 + j) v (by rw [flat_get encE_size' l i j (by omega) (by have := (List.getElem?_eq_some_iff.1 hv).1; rw [Array.length_toList, encE_size'] at this; exact this)]; exact hv)
    rwa [Addr.add_mid, Nat.zero_add] at hc
theorem Wr.there {w : World} {g n c : Nat} {l : List En} (h : Wr w g n c l) {k : Nat} (hk : k < n) (x : En) : w.there g (k * 35) (encE x).size := fun j hj => by
  rw [encE_size'] at hj
  refine ⟨?_, h.fr _⟩
  have := h.el k hk j ((encE (l.getD k default)).toList[j]'(by rw [Array.length_toList, encE_size']; exact hj)) (List.getElem?_eq_getElem _)
  rw [this]; rfl
theorem Wr.set {w : World} {g n c : Nat} {l : List En} (h : Wr w g n c l) {k : Nat} (hk : k < n) (x : En) : Wr (w.setCells g (k * 35) (encE x).toList) g n c (l.set k x) := by
  have hkp := setCells_kp g (encE x).toList (k * 35) w
  have hlen : (encE x).toList.length = 35 := by rw [Array.length_toList, encE_size']
  refine ⟨by rw [List.length_set]; exact h.len, h.cap, Nat.lt_of_lt_of_le h.lt hkp.size, fun i hi j v hv => ?_, fun o => by rw [World.frozen?_setCells]; exact h.fr o⟩
  have hl := h.len
  by_cases e : i = k
  · subst e
    have e2 : (l.set i x).getD i default = x := by simp [show i < l.length by omega]
    rw [e2] at hv
    have hj : j < (encE x).toList.length := (List.getElem?_eq_some_iff.1 hv).1
    rw [World.cell?_setCells_in g (encE x).toList (i * 35) w (fun r hr => (h.there hk x r (by rw [← Array.length_toList]; exact hr)).1) j hj, ← List.getElem?_eq_getElem hj]
    exact hv
  · have e2 : (l.set k x).getD i default = l.getD i default := by
      simp [List.getD_eq_getElem?_getD, List.getElem?_set, show ¬ k = i from fun q => e q.symm]
    rw [e2] at hv
    have hj : j < 35 := by have := (List.getElem?_eq_some_iff.1 hv).1; rw [Array.length_toList, encE_size'] at this; exact this
    rw [World.cell?_setCells_out g (encE x).toList (k * 35) w ⟨g, i * 35 + j, none⟩ (fun _ _ => by
      rw [hlen]
      show i * 35 + j < k * 35 ∨ k * 35 + 35 ≤ i * 35 + j
      omega)]
    exact h.el i hi j v hv
section
variable {P : Program} {ops : Array Oper} {rest : List Oper} {o : Oper} {a : Act} {w : World} {Q : Exit → Act → World → Prop}
theorem sl_skipped (hw : Region.wanted o (yielded ops a.tmps) = true) (w' : World) (he : (execOp a.eval o).run P w = .ok .skip w')
    (k : wpList P ops Q rest (a.put o.dst undef) w') : wpList P ops Q (o :: rest) a w := by
  rw [wpList, if_pos hw]
  unfold Oper.wp
  rw [he]
  exact .inl k
end
section
variable {P : Program} {ops : Array Oper} {Q : Exit → Act → World → Prop} {md : Region.Mode} {S : World → Prop} {fuel : Nat} {listed : Array Bool} {a : Act} {w : World}
theorem held_got (i : Nat) {oi : Oper} (hi : ops[i]? = some oi) (hr : Region.ready md ops listed = [i]) (hw : Region.wanted oi (yielded ops a.tmps) = true) {R : Value → World → Prop}
    (he : ∃ v w', (execOp a.eval oi).run P w = .ok (.value v) w' ∧ R v w') (h : ∀ v w', R v w' → S w' ∧ wpAnyH P md ops Q S fuel (listed.setIfInBounds i true) (a.put oi.dst v) w') : wpAnyH P md ops Q S (fuel + 1) listed a w := by
  obtain ⟨v, w', he, hR⟩ := he
  exact held_run i hi hr hw v w' he (h v w' hR).1 (h v w' hR).2
end
section
variable {α : Type} [Inhabited α] {k : Nat} {enc : α → Array Value}
end
end Go.Proofs.YtadopkifpfmhcaaDoor
namespace Go.Proofs.YtadopkifpfmhcaaDoor
open Go.RowKit
open Sha (vals Bytes Lies bytesC sumB)
open Go.Proofs.YtadopkifpfmhcaaDoorW.PrintWords Go.Proofs.YtadopkifpfmhcaaDoorW.PrintLast Go.Proofs.YtadopkifpfmhcaaDoorW.PrintMore
theorem held_did {P : Program} {ops : Array Oper} {Q : Exit → Act → World → Prop} {md : Region.Mode} {S : World → Prop} {fuel : Nat} {listed : Array Bool} {a : Act} {w : World} (i : Nat) {oi : Oper} (hi : ops[i]? = some oi) (hr : Region.ready md ops listed = [i]) (hw : Region.wanted oi (yielded ops a.tmps) = true) (w' : World)
    (he : (execOp a.eval oi).run P w = .ok .skip w') (hS : S w') (h : wpAnyH P md ops Q S fuel (listed.setIfInBounds i true) (a.put oi.dst undef) w') : wpAnyH P md ops Q S (fuel + 1) listed a w :=
  held_one i hi hr hw fun K hK => by
    unfold Oper.wp; rw [he]; exact hK _ _ hS h
theorem rw_one24 {w : World} {g : Nat} {e : En} {fr : Nat × Nat} (h : w.heap[g]? = some (.cells (encE e) 24 fr)) : Rw 35 encE w (.slice (some ⟨g, 0, none⟩) 1 1) [e] :=
  rw_new encE_size' (t := 24) (fr := fr) [e] (by rw [h]; simp [flat])
/-- Row 0 and row k change places. -/
def swapL (l : List En) (k : Nat) : List En := (l.set 0 (l.getD k default)).set k (l.getD 0 default)
end Go.Proofs.YtadopkifpfmhcaaDoor
namespace Go.Proofs.YtadopkifpfmhcaaDoor
open Go.RowKit
open Sha (vals Bytes Lies bytesC sumB)
/-- Blocks of other kinds stay. -/
def KK (w w' : World) : Prop := ∀ (b : Nat) (cs : Array Value) (t : TypeId), w.heap[b]? = some (.cells cs t (0, 0)) → t ≠ 82 → t ≠ 24 → w'.heap[b]? = some (.cells cs t (0, 0))
/-- The row of lists. -/
structure HaveI (w : World) (base HB labels : Nat) (V : Nat → Value) (l : Nat → List En) : Prop where
  hb : base ≤ HB
  row : w.heap[HB]? = some (.cells ((List.range labels).map V).toArray 34 (0, 0))
  own : ∀ k, k < labels → w.ownsRow base 24 35 (V k) (l k).length (flat encE (l k))
  inj : ∀ j k, j < labels → k < labels → j ≠ k → ∀ q, (V j).ownBlock = some q → (V k).ownBlock ≠ some q
theorem HaveI.keep {w w' : World} {base HB labels : Nat} {V : Nat → Value} {l : Nat → List En} (h : HaveI w base HB labels V l) {S : Nat → Prop} (hk : KpS S w w') (h1 : ¬ S HB) (h2 : ∀ k, k < labels → ∀ q, (V k).ownBlock = some q → ¬ S q) : HaveI w' base HB labels V l :=
  ⟨h.hb, hk.heap h.row h1, fun k hkk => hk.own (h.own k hkk) (h2 k hkk), h.inj⟩
theorem HaveI.cell {w : World} {base HB labels : Nat} {V : Nat → Value} {l : Nat → List En} (h : HaveI w base HB labels V l) {k : Nat} (hk : k < labels) : w.cell? ⟨HB, k, none⟩ = some (V k) := by
  rw [cell_of_row _ _ _ _ _ _ h.row]; simp [hk]
theorem LogI.keep2 {w w' : World} {base L cut labels : Nat} {pv : Value} {G : Nat → Nat} {H E : Nat → Value} {l : Nat → List En} (h : LogI w base L cut labels pv G H E l) {S : Nat → Prop} (hk : KpS S w w') (h1 : ¬ S L) (h2 : ∀ q, pv.ownBlock = some q → ¬ S q)
    (h3 : ∀ k, k < labels → ¬ S (G k)) (h4 : ∀ k, k < labels → ∀ q, (H k).ownBlock = some q → ¬ S q) (h5 : ∀ k, k < labels → ∀ q, (E k).ownBlock = some q → ¬ S q) : LogI w' base L cut labels pv G H E l :=
  ⟨hk.heap h.root h1, h.l0, hk.own h.ptrs h2, fun k hkk => (h.chain k hkk).keep hk (h3 k hkk) (h4 k hkk) (h5 k hkk), h.injG, h.injE⟩
/-- The log and the lists. -/
structure Lg (w0 : World) (cut labels L HB i : Nat) (l m : Nat → List En) (w : World) : Prop where
  ex : ∃ pv G H E V, LogI w w0.heap.size L cut labels pv G H E l ∧ HaveI w w0.heap.size HB labels V m ∧ ∀ j k, j < labels → k < labels → ∀ q, (V j).ownBlock = some q → (E k).ownBlock ≠ some q
  len : ∀ k, (m k).length ≤ i
  fine : ∀ k, ∀ x ∈ m k, x.ok ∧ goodE x = true
  bel : Below w0.heap.size w0 w
theorem Lg.below {w0 w w' : World} {cut labels L HB i : Nat} {l m : Nat → List En} (h : Lg w0 cut labels L HB i l m w) (hb : Below w.heap.size w w') : Lg w0 cut labels L HB i l m w' := by
  obtain ⟨⟨pv, G, H, E, V, h1, h2, h3⟩, h4, h5, h6⟩ := h
  exact ⟨⟨pv, G, H, E, V, h1.below hb, h2.keep (S := fun _ => False) (KpS.of hb) (fun h => h) (fun _ _ _ _ h => h), h3⟩, h4, h5, h6.trans (hb.mono h6.size)⟩
theorem Lg.more {w0 w : World} {cut labels L HB i j : Nat} {l m : Nat → List En} (h : Lg w0 cut labels L HB i l m w) (hj : i ≤ j) : Lg w0 cut labels L HB j l m w := ⟨h.ex, fun k => Nat.le_trans (h.len k) hj, h.fine, h.bel⟩
theorem Lg.put {w0 w : World} {cut labels L HB i : Nat} {l : Nat → List En} (h : Lg w0 cut labels L HB i l l w) (hc1 : 1 ≤ cut) (hc : cut ≤ 32) (k : Nat) (hk : k < labels) (e : En) (he : e.ok) (hgood : goodE e = true) (hi : i < 1000000) :
    Calls Tryd.prog 21 #[.pointer (some ⟨L, 0, none⟩), .int .i64 (k : Int), .agg (encE e)] w fun z w' => z = .returned (.int .i64 0) ∧ Lg w0 cut labels L HB i (upd l k (l k ++ [e])) l w' ∧ KK w w' := by
  obtain ⟨⟨pv, G, H, E, V, h1, h2, h3⟩, h4, h5, h6⟩ := h
  refine (Put_in h1 h6.size hc1 hc k hk e he hgood (Nat.lt_of_le_of_lt (h4 k) hi)).mono fun z w' h => ?_
  obtain ⟨hz, hv, ev, g1, g2, g3⟩ := h
  have hck := h1.chain k hk
  have hVt : ∀ j, j < labels → ∀ q, (V j).ownBlock = some q → ¬ touchL G E k q := fun j hj q hq hs => by
    rcases hs with rfl | hs
    · exact own_kind (h2.own j hj) hck.row (by decide) hq.symm
    · exact h3 j k hj hk q hq hs
  refine ⟨hz, ⟨⟨pv, G, upd H k hv, upd E k ev, V, h1.put hk g2 g1 g3, h2.keep g2 (fun hs => ?_) hVt, fun j j2 hj hj2 q hq => ?_⟩, h4, h5, h6.trans (g2.bel (fun q hq => ?_) h6.size)⟩, fun b cs t hb t1 t2 => g2.heap hb (fun hs => ?_)⟩
  · rcases hs with hs | hs
    · have := h2.row; rw [hs, hck.row] at this; simp at this
    · exact own_kind hck.ents h2.row (by decide) hs.symm
  · by_cases e2 : j2 = k
    · subst e2
      rw [upd_same]
      intro hq2
      rcases g3 with g | g
      · rw [g] at hq2; exact h3 j j2 hj hk q hq hq2
      · have := g q hq2; have := ((h2.own j hj).lt q hq).2; omega
    · rw [upd_other _ _ e2]; exact h3 j j2 hj hj2 q hq
  · rcases hq with rfl | hq
    · exact hck.g0
    · exact (hck.ents.lt q hq).1
  · rcases hs with rfl | hs
    · rw [hck.row] at hb; simp at hb; exact t1 hb.2.symm
    · exact own_kind hck.ents hb (fun e => t2 e.symm) hs.symm
/-- The list of a label behind an entry. -/
theorem Lg.had {w0 w w' : World} {cut labels L HB i : Nat} {l m : Nat → List En} {pv : Value} {G : Nat → Nat} {H E V : Nat → Value} (h1 : LogI w w0.heap.size L cut labels pv G H E l) (h2 : HaveI w w0.heap.size HB labels V m) (h3 : ∀ j k, j < labels → k < labels → ∀ q, (V j).ownBlock = some q → (E k).ownBlock ≠ some q)
    (h4 : ∀ k, (m k).length ≤ i) (h5 : ∀ k, ∀ x ∈ m k, x.ok ∧ goodE x = true) (h6 : Below w0.heap.size w0 w) {k : Nat} (hk : k < labels) {e : En} (he : e.ok) (hg : goodE e = true) {v : Value}
    (hK : KpS (fun q => q = HB ∨ (V k).ownBlock = some q) w w') (hown : w'.ownsRow w0.heap.size 24 35 v (m k ++ [e]).length (flat encE (m k ++ [e]))) (hrow : w'.heap[HB]? = some (.cells (((List.range labels).map V).toArray.setIfInBounds k v) 34 (0, 0)))
    (hv : v.ownBlock = (V k).ownBlock ∨ ∀ q, v.ownBlock = some q → w.heap.size ≤ q) : Lg w0 cut labels L HB (i + 1) l (upd m k (m k ++ [e])) w' := by
  have hlt : ∀ j, j < labels → ∀ q, (V j).ownBlock = some q → q < w.heap.size := fun j hj q hq => ((h2.own j hj).lt q hq).2
  have hoth : ∀ {base' n' k' : Nat} {e' : TypeId} {v' : Value} {xs' : List Value}, w.ownsRow base' e' k' v' n' xs' → e' ≠ 34 → (∀ q, v'.ownBlock = some q → (V k).ownBlock ≠ some q) → ∀ q, v'.ownBlock = some q → ¬ (q = HB ∨ (V k).ownBlock = some q) := fun ho hne hd q hq hs => by
    rcases hs with rfl | hs
    · exact own_kind ho h2.row hne hq.symm
    · exact hd q hq hs
  have hkind : ∀ {base' n' k' : Nat} {e' : TypeId} {v' : Value} {xs' : List Value}, w.ownsRow base' e' k' v' n' xs' → (24 : TypeId) ≠ e' → ∀ q, v'.ownBlock = some q → (V k).ownBlock ≠ some q := fun ho hne q hq hs => own_other (h2.own k hk) ho hne q hq hs.symm
  refine ⟨⟨pv, G, H, E, upd V k v, h1.keep2 hK (fun hs => ?_) (hoth h1.ptrs (by decide) (hkind h1.ptrs (by decide))) (fun j hj hs => ?_) (fun j hj => hoth (h1.chain j hj).head (by decide) (hkind (h1.chain j hj).head (by decide))) (fun j hj => hoth (h1.chain j hj).ents (by decide) (fun q hq hq2 => h3 k j hk hj q hq2 hq)),
    ⟨h2.hb, ?_, fun j hj => ?_, fun j j2 hj hj2 hne q => ?_⟩, fun j j2 hj hj2 q hq => ?_⟩, fun j => ?_, fun j x hx => ?_, h6.trans (hK.bel (fun q hq => ?_) h6.size)⟩
  · rcases hs with hs | hs
    · have := h2.row; rw [← hs, h1.root] at this; simp at this
    · exact own_kind (h2.own k hk) h1.root (by decide) hs.symm
  · rcases hs with hs | hs
    · have := h2.row; rw [← hs, (h1.chain j hj).row] at this; simp at this
    · exact own_kind (h2.own k hk) (h1.chain j hj).row (by decide) hs.symm
  · rw [hrow]
    congr 2
    rw [List.setIfInBounds_toArray]
    congr 1
    refine List.ext_getElem (by simp) fun j hj1 hj2 => ?_
    rw [List.getElem_set]
    by_cases e2 : k = j
    · subst e2; simp [upd]
    · rw [if_neg e2]; simp [upd, show ¬ j = k from fun q => e2 q.symm]
  · by_cases e2 : j = k
    · subst e2; rw [upd_same, upd_same]; exact hown
    · rw [upd_other _ _ e2, upd_other _ _ e2]
      refine hK.own (h2.own j hj) (fun q hq hs => ?_)
      rcases hs with rfl | hs
      · exact own_kind (h2.own j hj) h2.row (by decide) hq.symm
      · exact h2.inj j k hj hk e2 q hq hs
  · by_cases e2 : j = k
    · subst e2
      rw [upd_same, upd_other _ _ (fun e => hne e.symm)]
      intro hq hq2
      rcases hv with g | g
      · rw [g] at hq; exact h2.inj j j2 hj hj2 hne q hq hq2
      · have := g q hq; have := hlt j2 hj2 q hq2; omega
    · by_cases e3 : j2 = k
      · subst e3
        rw [upd_same, upd_other _ _ e2]
        intro hq hq2
        rcases hv with g | g
        · rw [g] at hq2; exact h2.inj j j2 hj hj2 hne q hq hq2
        · have := g q hq2; have := hlt j hj q hq; omega
      · rw [upd_other _ _ e2, upd_other _ _ e3]; exact h2.inj j j2 hj hj2 hne q
  · by_cases e2 : j = k
    · subst e2
      rw [upd_same] at hq
      rcases hv with g | g
      · rw [g] at hq; exact h3 j j2 hj hj2 q hq
      · intro hq2; have := g q hq; have := ((h1.chain j2 hj2).ents.lt q hq2).2; omega
    · rw [upd_other _ _ e2] at hq; exact h3 j j2 hj hj2 q hq
  · by_cases e2 : j = k
    · subst e2; rw [upd_same, List.length_append]; have := h4 j; simp; omega
    · rw [upd_other _ _ e2]; have := h4 j; omega
  · by_cases e2 : j = k
    · subst e2
      rw [upd_same] at hx
      rcases List.mem_append.1 hx with hx | hx
      · exact h5 j x hx
      · rw [List.mem_singleton.1 hx]; exact ⟨he, hg⟩
    · rw [upd_other _ _ e2] at hx; exact h5 j x hx
  · rcases hq with rfl | hq
    · exact h2.hb
    · exact ((h2.own k hk).lt q hq).1
theorem Lg.start {w0 w w' : World} {cut labels L : Nat} (h : NewI w0 L cut labels w) (hr : w' = w.alloc (.cells ((List.range labels).map fun _ => nilS).toArray 34)) : Lg w0 cut labels L w.heap.size 0 (fun _ => []) (fun _ => []) w' := by
  obtain ⟨⟨pv, G, H, h1⟩, h2⟩ := h
  have hb : Below w.heap.size w w' := by rw [hr]; exact (Below.refl _ _).alloc (Nat.le_refl _) _
  exact ⟨⟨pv, G, H, _, fun _ => nilS, h1.below hb, ⟨h2.size, by rw [hr]; exact heap_alloc_new _ _, fun k hk => World.ownsRow_nil w' w0.heap.size 24 35, fun _ _ _ _ _ q hq => by cases hq⟩, fun _ _ _ _ q hq => by cases hq⟩, fun k => Nat.le_refl _, fun k x hx => (by cases hx), h2.trans (hb.mono h2.size)⟩
theorem Lg.no {w0 w : World} {cut labels L HB i : Nat} {l m : Nat → List En} (h : Lg w0 cut labels L HB i l m w) (b : Int) (hb : b < 0 ∨ (labels : Int) ≤ b) : NoOf (.pointer (some ⟨L, 0, none⟩)) b w := by
  obtain ⟨⟨pv, G, H, E, V, h1, h2, h3⟩, h4, h5, h6⟩ := h
  exact NoOf.out h1 b hb
theorem Lg.bad {w0 w : World} {cut labels L HB i : Nat} {l m : Nat → List En} (h : Lg w0 cut labels L HB i l m w) (k : Nat) (hk : k < labels) (e : En) (hb : goodE e = false) :
    Calls Tryd.prog 21 #[.pointer (some ⟨L, 0, none⟩), .int .i64 (k : Int), .agg (encE e)] w fun z w' => z = .returned (.int .i64 1) ∧ Below w.heap.size w w' := by
  obtain ⟨⟨pv, G, H, E, V, h1, h2, h3⟩, h4, h5, h6⟩ := h
  exact Put_bad h1 k hk e hb
theorem Lg.hd {w0 w : World} {cut labels L HB i : Nat} {l m : Nat → List En} (h : Lg w0 cut labels L HB i l m w) (hc : cut ≤ 32) (k : Nat) (hk : k < labels) :
    Calls Tryd.prog 22 #[.pointer (some ⟨L, 0, none⟩), .int .i64 (k : Int)] w fun z w' => ∃ v, z = .returned (.tuple #[v, .int .i64 0]) ∧ Bytes w' v (headP cut (l k) (l k).length) ∧ Below w.heap.size w w' := by
  obtain ⟨⟨pv, G, H, E, V, h1, h2, h3⟩, h4, h5, h6⟩ := h
  exact LHead_in h1 hc k hk
theorem Lg.ln {w0 w : World} {cut labels L HB i : Nat} {l m : Nat → List En} (h : Lg w0 cut labels L HB i l m w) (k : Nat) (hk : k < labels) :
    Calls Tryd.prog 23 #[.pointer (some ⟨L, 0, none⟩), .int .i64 (k : Int)] w fun z w' => z = .returned (.int .i64 ((l k).length : Int)) ∧ w = w' := by
  obtain ⟨⟨pv, G, H, E, V, h1, h2, h3⟩, h4, h5, h6⟩ := h
  exact LLen_in h1 k hk
/-- What the lines are, label by label. -/
def linesTo (l : Nat → List En) (m k : Nat) : List L3 := outL l ((List.range k).filter fun j => m.testBit j)
theorem linesTo_succ (l : Nat → List En) (m k : Nat) : linesTo l m (k + 1) = linesTo l m k ++ if m.testBit k then linesK k (l k) else [] := by
  unfold linesTo
  rw [List.range_succ, List.filter_append]
  by_cases hb : m.testBit k <;> simp [hb, outL]
theorem linesTo_all (l : Nat → List En) (m labels : Nat) (hl : labels ≤ 64) : outL (fun k => if k < labels then l k else []) (bl m) = linesTo l m labels := by
  unfold linesTo bl
  obtain ⟨d, hd⟩ : ∃ d, (64 : Nat) = labels + d := ⟨64 - labels, by omega⟩
  rw [hd, List.range_add, List.filter_append]
  have h1 : ∀ pre : List Nat, (∀ k ∈ pre, k < labels) → outL (fun k => if k < labels then l k else []) pre = outL l pre := fun pre hp => by
    unfold outL
    rw [List.flatMap_def, List.flatMap_def]
    congr 1
    exact List.map_congr_left fun k hk => by simp only [if_pos (hp k hk)]
  have h2 : ∀ pre : List Nat, (∀ k ∈ pre, labels ≤ k) → outL (fun k => if k < labels then l k else []) pre = [] := fun pre hp => by
    unfold outL
    rw [List.flatMap_eq_nil_iff]
    intro k hk
    have hq := hp k hk
    simp only [if_neg (show ¬ k < labels by omega)]
    simp [linesK, numT]
  unfold outL at h1 h2 ⊢
  rw [List.flatMap_append, h1 _ (fun k hk => by simp at hk; exact hk.1), h2 _ (fun k hk => by
    simp only [List.mem_filter, List.mem_map] at hk
    obtain ⟨⟨j, _, rfl⟩, _⟩ := hk
    omega), List.append_nil]
theorem Lg.lines {w0 w : World} {cut labels L HB i : Nat} {l : Nat → List En} (h : Lg w0 cut labels L HB i l l w) (hi : i ≤ 1000000) (hl : labels ≤ 64) (b : Nat) (hb : b < 18446744073709551616) (ht : Tab w) (hw : 0 < w.heap.size) :
    Calls Tryd.prog 24 #[.pointer (some ⟨L, 0, none⟩), .int .u64 (b : Int)] w fun e w' => ∃ v, e = .returned v ∧ Rw 37 encL w' v (linesTo l b labels) ∧ Below w.heap.size w w' := by
  obtain ⟨⟨pv, G, H, E, V, h1, h2, h3⟩, h4, h5, h6⟩ := h
  rw [← linesTo_all l b labels hl]
  exact Lines_calls (some ⟨L, 0, none⟩) b hb _ (fun k hk => by
    show (if k < labels then l k else []).length ≤ _
    split
    · have := h4 k; omega
    · simp) w hw ht h1.lk
theorem linesTo_len (l : Nat → List En) (m : Nat) {i : Nat} (h : ∀ k, (l k).length ≤ i) : ∀ k, (linesTo l m k).length ≤ k * i
  | 0 => by simp [linesTo, outL]
  | k + 1 => by
    rw [linesTo_succ, List.length_append]
    have h1 := linesTo_len l m h k
    have h2 : (if m.testBit k then linesK k (l k) else []).length ≤ i := by
      split
      · simp [linesK, numT_len]; exact h k
      · simp
    rw [Nat.add_mul]; omega
/-- The lines of a label, from its first. -/
theorem linesK_get (k : Nat) (l : List En) {j : Nat} (hj : j < l.length) : (linesK k l)[j]? = some ((k : Int), (j : Int) + 1, l.getD j default) := by
  simp [linesK, numT, lineT, hj]
theorem linesTo_pre (l : Nat → List En) (m k : Nat) : ∀ d, ∃ r, linesTo l m (k + d) = linesTo l m k ++ r
  | 0 => ⟨[], by simp⟩
  | d + 1 => by
    obtain ⟨r, hr⟩ := linesTo_pre l m k d
    exact ⟨_, by rw [← Nat.add_assoc, linesTo_succ, hr, List.append_assoc]⟩
theorem linesTo_get {l : Nat → List En} {m k labels j : Nat} (hk : k < labels) (hb : m.testBit k = true) (hj : j < (l k).length) :
    (linesTo l m k).length + j < (linesTo l m labels).length ∧ (linesTo l m labels).getD ((linesTo l m k).length + j) default = ((k : Int), (j : Int) + 1, (l k).getD j default) := by
  obtain ⟨d, rfl⟩ : ∃ d, labels = k + 1 + d := ⟨labels - (k + 1), by omega⟩
  obtain ⟨r, hr⟩ := linesTo_pre l m (k + 1) d
  rw [linesTo_succ, if_pos hb] at hr
  have h1 : (linesTo l m (k + 1 + d))[(linesTo l m k).length + j]? = some ((k : Int), (j : Int) + 1, (l k).getD j default) := by
    rw [hr, List.append_assoc, List.getElem?_append_right (by omega), Nat.add_sub_cancel_left, List.getElem?_append_left (by simp [linesK, numT_len]; exact hj), linesK_get k (l k) hj]
  obtain ⟨h2, h3⟩ := List.getElem?_eq_some_iff.1 h1
  exact ⟨h2, by simp [h1]⟩
theorem Lg.at {w0 w : World} {cut labels L HB i : Nat} {l m : Nat → List En} (h : Lg w0 cut labels L HB i l m w) {k : Nat} (hk : k < labels) :
    ∃ A c, w.cell? ⟨HB, k, none⟩ = some (.slice A (m k).length c) ∧ Rw 35 encE w (.slice A (m k).length c) (m k) := by
  obtain ⟨⟨pv, G, H, E, V, h1, h2, h3⟩, h4, h5, h6⟩ := h
  have ho := h2.own k hk
  obtain ⟨A, c, hA⟩ := own_form ho
  have hc := h2.cell hk
  rw [hA] at hc ho
  exact ⟨A, c, hc, Rw.own encE_size' (by decide) ho⟩
theorem cellO0 {w : World} {B : Nat} {x : OpT} (h : w.heap[B]? = some (.cells (encO x) 47 (0, 0))) : w.cell? ⟨B, 0, none⟩ = some (.int .i64 x.kd) := by
  rw [cell_of_row _ _ _ _ _ _ h]; simp [encO, Array.getElem?_append]
theorem cellO1 {w : World} {B : Nat} {x : OpT} (h : w.heap[B]? = some (.cells (encO x) 47 (0, 0))) : w.cell? ⟨B, 1, none⟩ = some (.int .i64 x.lb) := by
  rw [cell_of_row _ _ _ _ _ _ h]; simp [encO, Array.getElem?_append]
theorem cellO37 {w : World} {B : Nat} {x : OpT} (h : w.heap[B]? = some (.cells (encO x) 47 (0, 0))) : w.cell? ⟨B, 37, none⟩ = some (.int .u64 (x.m : Int)) := by
  rw [cell_of_row _ _ _ _ _ _ h]
  simp [encO, encE_size', Array.getElem?_append]
  rw [Array.getElem_push]; simp [encE_size']
theorem rangeO {w : World} {B : Nat} {x : OpT} (h : w.heap[B]? = some (.cells (encO x) 47 (0, 0))) : w.rangeAt B 2 (encE x.e).toList := fun j v hv => by
  have hj : j < 35 := by have := (List.getElem?_eq_some_iff.1 hv).1; rw [Array.length_toList, encE_size'] at this; exact this
  rw [cell_of_row _ _ _ _ _ _ h]
  unfold encO
  rw [Array.getElem?_append_left (by simp [encE_size']; omega), Array.getElem?_append_right (by simp)]
  simpa using hv
theorem load_op {o : Oper} {a : Act} (w : World) (x : Operand) (ho : o.op = .load 47 x) (b k : Nat) (hx : a.eval x = .pointer (some ⟨b, k, none⟩)) (e : OpT) (hc : w.rangeAt b k (encO e).toList) : (execOp a.eval o).run Tryd.prog w = .ok (.value (.agg (encO e))) w :=
  (exec_load_mid 47 w x ho b k hx (encO e).toList _ hc Tryd.underlying47 rfl (by rw [Array.length_toList, encO_size]; kernel_rfl)).trans (by rw [Array.toArray_toList])
theorem encO_all (e : OpT) : (encO e).all (·.oneCell') = true := by
  have h := encE_all e.e
  simp only [encO, Array.all_append, h]
  simp [Value.oneCell']
theorem exec_store_op {o : Oper} {a : Act} {w : World} (x y : Operand) (ho : o.op = .store 47 x y) (g : Nat) (hx : a.eval x = .pointer (some ⟨g, 0, none⟩)) (e : OpT) (hy : a.eval y = .agg (encO e)) (cs : Array Value) (hg : w.heap[g]? = some (.cells cs 47 (0, 0))) (hs : cs.size = 38) :
    (execOp a.eval o).run Tryd.prog w = .ok .skip (w.setRow g (encO e)) := by
  unfold execOp
  simp only [ho, hx, hy, Instr.storeAt, Instr.sureAddr, Sem.run_bind, Sem.run_pure, Result.andThen_ok, run_storeVar_row (P := Tryd.prog) w g 47 47 cs (encO e) hg (by rw [encO_size]; kernel_rfl) (by rw [hs, encO_size]) (encO_all e)]
theorem un40 : Tryd.prog.underlying 40 = some (.slice (Tryd.prog.elem 40)) := by kernel_rfl
theorem sz40 (w : World) : (sizeOf (Tryd.prog.elem 40)).run Tryd.prog w = .ok 38 w := by kernel_rfl
theorem un44 : Tryd.prog.underlying 44 = some (.slice (Tryd.prog.elem 44)) := by kernel_rfl
theorem sz44 (w : World) : (sizeOf (Tryd.prog.elem 44)).run Tryd.prog w = .ok 1 w := by kernel_rfl
theorem un44' : Tryd.prog.underlying 44 = some (.slice 34) := by kernel_rfl
theorem inf34 : (Tryd.prog.info? 34).map (fun i => (i.zero, i.size, i.bytes)) = some (some (.slice none 0 0), 1, 24) := by kernel_rfl
theorem inf34p : ∃ i, Tryd.prog.info? 34 = some i ∧ i.zero = some (.slice none 0 0) ∧ i.size = 1 ∧ i.bytes = 24 := by
  have h := inf34
  cases hi : Tryd.prog.info? 34 with
  | none => rw [hi] at h; simp at h
  | some i =>
    rw [hi] at h
    simp only [Option.map_some, Option.some.injEq, Prod.mk.injEq] at h
    exact ⟨i, rfl, h.1, h.2.1, h.2.2⟩
theorem made_nil (n : Nat) : madeCells (Value.slice none 0 0).cells (n * 1) = ((List.range n).map fun _ => nilS).toArray := by
  rw [Nat.mul_one]
  apply Array.ext'
  show (madeCells #[.slice none 0 0] n).toList = _
  rw [toList_madeCells_one, List.map_const', List.length_range]
  rfl
theorem exec_remI {o : Oper} {a : Act} (x y : Operand) (ho : o.op = .binOp .rem 3 x y 3) (u : Int) (hx : a.eval x = .int .i64 u) (hy : a.eval y = .int .i64 4) (w : World) : (execOp a.eval o).run Tryd.prog w = .ok (.value (.int .i64 (Int.tmod u 4))) w := by
  have h1 := Int.tmod_lt_of_pos u (b := 4) (by decide)
  have h2 := Int.lt_tmod_of_pos u (b := 4) (by decide)
  have hw : IntKind.i64.wrap (Int.tmod u 4) = Int.tmod u 4 := by rw [IntKind.wrap_i64]; omega
  unfold execOp
  simp [ho, hx, hy, eqGuard, binOp_rem, Op.intDiv, hw]
theorem kind_of (u : Int) : ∃ q : Nat, q < 4 ∧ Int.tmod (Int.tmod u 4 + 4) 4 = (q : Int) ∧ 0 ≤ Int.tmod u 4 + 4 ∧ Int.tmod u 4 + 4 ≤ 9223372036854775807 := by
  have h1 := Int.tmod_lt_of_pos u (b := 4) (by decide)
  have h2 := Int.lt_tmod_of_pos u (b := 4) (by decide)
  have h3 := Int.tmod_lt_of_pos (Int.tmod u 4 + 4) (b := 4) (by decide)
  have h4 := Int.tmod_nonneg (a := Int.tmod u 4 + 4) 4 (by omega)
  exact ⟨(Int.tmod (Int.tmod u 4 + 4) 4).toNat, by omega, by omega, by omega, by omega⟩
theorem head_all {cut : Nat} (hc1 : 1 ≤ cut) (hc : cut ≤ 32) {l : List En} (hg : ∀ x ∈ l, goodE x = true) : headS (cut : Int) l = (headP cut l l.length, 0) := by
  have h : rightS (cut : Int) l = true := by
    simp only [rightS, badsB, Bool.and_eq_true, decide_eq_true_eq, Bool.not_eq_true']
    refine ⟨by omega, by omega, List.any_eq_false.2 fun x hx => ?_⟩
    rw [hg x hx]; decide
  unfold headS
  rw [h]
  simp
end Go.Proofs.YtadopkifpfmhcaaDoor
