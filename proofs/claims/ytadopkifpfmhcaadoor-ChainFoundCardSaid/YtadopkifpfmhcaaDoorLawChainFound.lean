/-
  The law ChainFound holds: for every input it answers true, and what came in reads as it did; its card.
-/
import Derived.Test.YtadopkifpfmhcaaDoorMgC
import Derived.Laws.StructEq
import Derived.ChangeKeysEq
import Derived.Test.YtadopkifpfmhcaaDoorMgB
import Derived.Test.YtadopkifpfmhcaaDoorRows
import Derived.Test.YtadopkifpfmhcaaDoorCards
import Derived.Test.YtadopkifpfmhcaaDoorTie
import Derived.WalkKit
import Derived.ProofKit
import Derived.OpenShut
import Derived.ShutString
import Derived.ChangeOld
import Derived.Below
import Derived.SevenTiedAt
import Derived.LaidHandle
set_option linter.unusedVariables false
set_option linter.unusedSimpArgs false
namespace Go.Proofs.YtadopkifpfmhcaaDoor
open Go.RowKit
open Sha (vals Bytes Lies bytesC sumB)
section
variable {ty : TypeId} {k : Nat} {o : Oper} {a : Act}
theorem exec_takeS (hu : Tryd.prog.underlying ty = some (.slice (Tryd.prog.elem ty))) (hsz : ∀ w, (sizeOf (Tryd.prog.elem ty)).run Tryd.prog w = .ok k w) (x hi : Operand) (ho : o.op = .slice ty x none (some hi) none) (A : Option Addr) (n c q : Nat) (hx : a.eval x = .slice A n c)
    (hh : a.eval hi = .int .i64 (q : Int)) (hc : q ≤ c) (w : World) : (execOp a.eval o).run Tryd.prog w = .ok (.value (.slice (if c = 0 then A else A.map (·.add 0)) q c)) w := by
  unfold execOp
  simp only [ho, Option.map_some, Option.map_none, hx, hh, Sem.run_bind, run_sliceAt_slice w ty _ _ _ _ hu, run_slice_h w ty _ n c hu .i64 (q : Int) (by omega) (by omega), hsz, Result.andThen_ok, Sem.run_pure, sliced, Int.toNat_natCast, Nat.zero_mul, Nat.sub_zero]
end
theorem subI {o : Oper} {a : Act} (x : Operand) (ho : o.op = .binOp .sub 3 x (.const (.int .i64 1)) 3) (n : Nat) (hx : a.eval x = .int .i64 (n : Int)) (h1 : 1 ≤ n) (h2 : n ≤ 9223372036854775807) (w : World) : (execOp a.eval o).run Tryd.prog w = .ok (.value (.int .i64 ((n - 1 : Nat) : Int))) w := by
  unfold execOp
  have hw : IntKind.i64.wrap ((n : Int) - 1) = ((n - 1 : Nat) : Int) := by rw [IntKind.wrap_i64]; omega
  have hc : a.eval (.const (.int .i64 1)) = .int .i64 1 := rfl
  simp [ho, hx, hc, eqGuard, binOp_sub, Op.intArith, hw]
end Go.Proofs.YtadopkifpfmhcaaDoor
namespace Go.Proofs.YtadopkifpfmhcaaDoor
open Go.RowKit
open Sha (vals Bytes Lies bytesC sumB)
open Go.Proofs.YtadopkifpfmhcaaDoorW.PrintWords Go.Proofs.YtadopkifpfmhcaaDoorW.PrintLast Go.Proofs.YtadopkifpfmhcaaDoorW.PrintMore
/-- What is summed for the k-th entry. -/
def textS (m : Nat) (l : List En) (k : Nat) : List Nat := headP m l k ++ (bytesS (k : Int) (l.getD k default)).1
theorem inf25 : (Tryd.prog.info? 25).map (fun i => (i.zero, i.size, i.bytes)) = some (some (.slice none 0 0), 1, 24) := by kernel_rfl
theorem un92 : Tryd.prog.underlying 92 = some (.slice (Tryd.prog.elem 92)) := by kernel_rfl
theorem sz92 : ∀ w, (sizeOf (Tryd.prog.elem 92)).run Tryd.prog w = .ok 1 w := fun w => by kernel_rfl
instance : Inhabited Value := ⟨undef⟩
def encV (v : Value) : Array Value := #[v]
/-- A chain that is summed, and the row of its texts. -/
structure TI (w0 : World) (D m : Nat) (l : List En) (i : Nat) (ov : Value) (vs : List Value) (w : World) : Prop where
  row : ∃ hv : Value, w.heap[D]? = some (.cells #[.int .i64 (m : Int), hv, .int .i64 (i : Int)] 72 (0, 0)) ∧ w.ownsRow w0.heap.size 5 1 hv (headP m l i).length (vals (headP m l i))
  out : w.ownsRow w0.heap.size 25 1 ov i vs
  el : ∀ j, j < i → w.ownsRow w0.heap.size 5 1 (vs.getD j undef) (textS m l j).length (vals (textS m l j))
  bel : Below w0.heap.size w0 w
theorem TI.below {w0 w w' : World} {D m i : Nat} {l : List En} {ov : Value} {vs : List Value} (h : TI w0 D m l i ov vs w) (hb : Below w.heap.size w w') : TI w0 D m l i ov vs w' := by
  obtain ⟨⟨hv, h1, h2⟩, h3, h4, h5⟩ := h
  have k : ∀ {b n k e v xs}, w.ownsRow b e k v n xs → w'.ownsRow b e k v n xs := fun h => own_keep h (fun q hq => hb.block q (h.lt q hq).2)
  exact ⟨⟨hv, heap_kept h1 hb, k h2⟩, k h3, fun j hj => k (h4 j hj), h5.trans (hb.mono h5.size)⟩
def TIx (w0 : World) (D m : Nat) (l : List En) (i : Nat) (ov : Value) (w : World) : Prop := ∃ vs, TI w0 D m l i ov vs w
theorem TIx.below {w0 w w' : World} {D m i : Nat} {l : List En} {ov : Value} (h : TIx w0 D m l i ov w) (hb : Below w.heap.size w w') : TIx w0 D m l i ov w' := by
  obtain ⟨vs, h⟩ := h; exact ⟨vs, h.below hb⟩
/-- Between the append and the link. -/
structure TI4 (w0 : World) (D m : Nat) (l : List En) (i : Nat) (ov : Value) (vs : List Value) (w : World) : Prop where
  row : ∃ hv : Value, w.heap[D]? = some (.cells #[.int .i64 (m : Int), hv, .int .i64 (i : Int)] 72 (0, 0)) ∧ w.ownsRow w0.heap.size 5 1 hv (headP m l i).length (vals (headP m l i))
  out : w.ownsRow w0.heap.size 25 1 ov (i + 1) vs
  el : ∀ j, j < i + 1 → w.ownsRow w0.heap.size 5 1 (vs.getD j undef) (textS m l j).length (vals (textS m l j))
  bel : Below w0.heap.size w0 w
/-- One value of one cell behind a list of such. -/
theorem appendRw1 {w : World} {ops : Array Oper} {rest : List Oper} {o : Oper} {a : Act} {Q : Exit → Act → World → Prop} {V : Value} (ty e : TypeId) (bytes : Nat) (i : TypeInfo) (z : Value) (ht : Tryd.prog.underlying ty = some (.slice e)) (hi : Tryd.prog.info? e = some i) (hz : i.zero = some z) (hsize : i.size = 1) (hby : i.bytes = bytes) (hzs : z.cells.size = 1) (hV : V.oneCell' = true)
    (hgd : o.guard = none) (s x : Operand) (ho : o.op = .call { callee := .builtin .append, args := #[s, x], argTypes := #[ty, ty] })
    (base : Nat) (v : Value) (l0 : List Value) (hs : a.eval s = v) (hown : w.ownsRow base e 1 v l0.length l0)
    (y : Value) (hx : a.eval x = y) (hy : Rw 1 encV w y [V]) (hlen : l0.length + 1 ≤ 140737488355327) (hlen2 : (l0.length + 1) * bytes ≤ 140737488355328) (hbase : base ≤ w.heap.size)
    (h : ∀ v' w', w'.ownsRow base e 1 v' (l0 ++ [V]).length (l0 ++ [V]) → w.grownBy w' v.ownBlock → wpList Tryd.prog ops Q rest (a.put o.dst v') w') : wpList Tryd.prog ops Q (o :: rest) a w := by
  rcases hy with ⟨A, c, rfl, h0, _⟩ | ⟨g, off, c, rfl, hc, hg, hl⟩
  · cases h0
  · refine wpList_append_own w hgd s x ty ho base e i z 1 bytes ht hi hz hsize hby hzs (by decide) v l0.length l0 hs hown ⟨g, off, none⟩ 1 c [V] hx rfl ?_ (by simpa using hV) (by unfold maxLen; omega) hlen2 hbase ?_
    · intro j u hu
      have hj : j = 0 := by
        have : j < 1 := (List.getElem?_eq_some_iff.1 hu).1
        omega
      subst hj
      have := hl 0 (by simp) 0 V rfl
      rw [Addr.add_mid]
      simp at hu
      subst hu
      simpa using this
    · intro v' w' h1 h2 h3
      exact h v' w' (by rw [List.length_append]; exact h1) h2
/-- What is handed back. -/
structure TxO (w0 : World) (m : Nat) (l : List En) (ov hv : Value) (w : World) : Prop where
  out : ∃ vs, w.ownsRow w0.heap.size 25 1 ov l.length vs ∧ ∀ j, j < l.length → Bytes w (vs.getD j undef) (textS m l j)
  head : Bytes w hv (headP m l l.length)
  bel : Below w0.heap.size w0 w
set_option maxRecDepth 100000 in
set_option maxHeartbeats 16000000 in
theorem texts_calls (m : Nat) (hm1 : 1 ≤ m) (hm32 : m ≤ 32) (l : List En) (hok : ∀ x ∈ l, x.ok) (A : Option Addr) (n c : Nat) (hn : n = l.length) (hn9 : n ≤ 1000000) (w : World) (hy : Rw 35 encE w (.slice A n c) l) :
    Calls Tryd.prog 51 #[.int .i64 (m : Int), .slice A n c] w fun e w' => ∃ ov hv, e = .returned (.tuple #[ov, hv]) ∧ TxO w m l ov hv w' := by
  have hn' : Hid (n = l.length) := hn
  have hyw : Hid (Rw 35 encE w (.slice A n c) l) := hy
  have hBw : Hid (Below w.heap.size w w) := Below.refl _ _
  have hokH : Hid (∀ x ∈ l, x.ok) := hok
  clear hn hy hok
  go_enter Tryd.func51, Tryd.ntmps51
  go_upto_region 1 with fail
  refine wp_region_lit ?_
  refine sl_run rfl (.int .i64 (m : Int)) w (by kernel_rfl) ?_
  simp only [Act.put, fl1, fl2, fl3]
  refine sg_call (by kernel_rfl) 38 #[.int .i64 (m : Int)] (by kernel_rfl) (R := fun v w' => ∃ hv, v = .agg #[.int .i64 (m : Int), hv, .int .i64 0] ∧ w'.ownsRow w.heap.size 5 1 hv (List.replicate m 0).length (vals (List.replicate m 0)) ∧ Below w.heap.size w w') ((begun_own m hm32 w).mono fun e w' h => by
    obtain ⟨v, h1, h2, h3⟩ := h
    exact ⟨_, h1, v, rfl, h2, h3⟩) ?_
  rintro _ w2 ⟨hv, rfl, hby, hb⟩
  simp only [Act.put, fl1, fl2, fl3]
  have hBw2 : Hid (Below w.heap.size w w2) := hBw.out.trans ((hb).mono (hBw.out).size)
  clear hBw
  clear hb
  obtain ⟨A0, c0, rfl⟩ := own_form hby
  refine sg_run (by kernel_rfl) (.pointer (some ⟨w2.heap.size, 0, none⟩)) (w2.alloc (.cells #[.int .i64 0, .slice none 0 0, .int .i64 0] 72)) (by kernel_rfl) ?_
  simp only [Act.put, fl1, fl2, fl3]
  refine wpList_store_row rfl 72 _ _ rfl w2.heap.size #[.int .i64 (m : Int), .slice A0 (List.replicate m 0).length c0, .int .i64 0] (by kernel_rfl) (by kernel_rfl) 72 _ (heap_alloc_new _ _) (by kernel_rfl) (by kernel_rfl) (by simp [Value.oneCell']) ?_
  simp only [Act.put, fl1, fl2, fl3]
  refine wpList_nil ?_
  have hD0 : ((w2.alloc (.cells #[.int .i64 0, .slice none 0 0, .int .i64 0] 72)).setRow w2.heap.size #[.int .i64 (m : Int), .slice A0 (List.replicate m 0).length c0, .int .i64 0]).heap[w2.heap.size]? = some (.cells #[.int .i64 (m : Int), .slice A0 (List.replicate m 0).length c0, .int .i64 0] 72 (0, 0)) := setRow_heap _ _ _ _ _ _ (heap_alloc_new _ _)
  have hDB : Below w2.heap.size w2 ((w2.alloc (.cells #[.int .i64 0, .slice none 0 0, .int .i64 0] 72)).setRow w2.heap.size #[.int .i64 (m : Int), .slice A0 (List.replicate m 0).length c0, .int .i64 0]) := below_setRow ((Below.refl _ _).alloc (Nat.le_refl _) _) (Nat.le_refl _) _
  obtain ⟨D, hDd⟩ : ∃ D, D = w2.heap.size := ⟨_, rfl⟩
  have hDw : Hid (w.heap.size ≤ D) := by show _ ≤ _; rw [hDd]; exact hBw2.out.size
  have hDB2 : Below w2.heap.size w2 ((w2.alloc (.cells #[.int .i64 0, .slice none 0 0, .int .i64 0] 72)).setRow D #[.int .i64 (m : Int), .slice A0 (List.replicate m 0).length c0, .int .i64 0]) := by rw [hDd]; exact hDB
  rw [← hDd] at hD0 ⊢
  clear hDd hDB
  generalize World.setRow _ _ _ = w3 at hD0 hDB2 ⊢
  have hTw3 : Hid (TIx w D m l 0 (.slice none 0 0) w3) := ⟨[], ⟨_, hD0, own_keep hby (fun q hq => hDB2.block q (hby.lt q hq).2)⟩, World.ownsRow_nil _ _ _ _, fun j hj => by omega, hBw2.out.trans (hDB2.mono hBw2.out.size)⟩
  clear hD0 hDB2 hby hBw2
  go_wp2_with fail
  go_loopw [7, 14] (fun o9 u wr => ∃ (i : Nat) (ov : Value), i ≤ n ∧ ov = o9 ∧ u = .int .i64 (i : Int) ∧ Hid (TIx w D m l i ov wr)) (fun _ u _ => n - (intOf u).toNat)
  case atStart => exact ⟨0, _, by omega, rfl, rfl, hTw3⟩
  case round =>
    obtain ⟨i, ov, hin, rfl, rfl, hT⟩ := hrel
    obtain ⟨wo, rfl⟩ : ∃ v : World, v = wr := ⟨_, rfl⟩
    clear hTw3
    by_cases hi : i < n
    · have hI : (i : Int) < (n : Int) := by omega
      obtain ⟨vs, hT⟩ := hT
      obtain ⟨g, o, rfl, hnc, hg, hel⟩ := (hyw.out.below hT.bel).elem i (by rw [← hn'.out]; exact hi)
      obtain ⟨x, hx⟩ : ∃ x, x = l.getD i default := ⟨_, rfl⟩
      rw [← hx] at hel
      have hxH : Hid (x = l.getD i default) := hx
      have hxok : Hid x.ok := hokH.out x (by rw [hx]; have := hn'.out; simp [show i < l.length by omega])
      have helH : Hid (wo.rangeAt g (o + i * 35) (encE x).toList) := hel
      have hTwo : Hid (TI w D m l i ov vs wo) := hT
      obtain ⟨Ao, co, hAo⟩ := own_form hT.out
      subst hAo
      clear hx hel hg hT
      go_upto_region 5 with fail
      refine wp_region_lit ?_
      refine sl_run rfl (.pointer (some ⟨g, o + i * 35, none⟩)) wo (exec_index un34 sz34 _ _ rfl g o n c i (by kernel_rfl) (by kernel_rfl) hi _) ?_
      simp only [Act.put, fl1, fl2, fl3]
      refine sl_run rfl (.agg (encE x)) wo (load_en _ _ rfl g (o + i * 35) (by kernel_rfl) x helH.out) ?_
      simp only [Act.put, fl1, fl2, fl3]
      refine sg_run (by kernel_rfl) (.pointer (some ⟨wo.heap.size, 0, none⟩)) (wo.alloc (.cells (encE default) 24)) (by kernel_rfl) ?_
      simp only [Act.put, fl1, fl2, fl3]
      refine wpList_store_row rfl 24 _ _ rfl wo.heap.size (encE x) (by kernel_rfl) (by kernel_rfl) 24 _ (heap_alloc_new _ _) (by rw [encE_size']; kernel_rfl) (by rw [encE_size', encE_size']) (encE_all x) ?_
      simp only [Act.put, fl1, fl2, fl3]
      refine wpList_nil ?_
      have hE0 : ((wo.alloc (.cells (encE default) 24)).setRow wo.heap.size (encE x)).heap[wo.heap.size]? = some (.cells (encE x) 24 (0, 0)) := setRow_heap _ _ _ _ _ _ (heap_alloc_new _ _)
      have hb : Below wo.heap.size wo ((wo.alloc (.cells (encE default) 24)).setRow wo.heap.size (encE x)) := below_setRow ((Below.refl _ _).alloc (Nat.le_refl _) _) (Nat.le_refl _) _
      obtain ⟨E, hE⟩ : ∃ E, E = wo.heap.size := ⟨_, rfl⟩
      have hb2 : Below wo.heap.size wo ((wo.alloc (.cells (encE default) 24)).setRow E (encE x)) := by rw [hE]; exact hb
      rw [← hE] at hE0 ⊢
      clear hE hb helH
      generalize World.setRow _ _ _ = z1 at hE0 hb2 ⊢
      have hTz1 : Hid (TI w D m l i (.slice Ao i co) vs z1) := hTwo.out.below hb2
      have hEz1 : Hid (z1.heap[E]? = some (.cells (encE x) 24 (0, 0))) := hE0
      clear hE0 hb2 hTwo
      go_upto_region 6 with fail
      refine wp_region_lit ?_
      have hZ : Hid (w.heap.size ≤ z1.heap.size) := hTz1.out.bel.size
      refine sl_run rfl (.slice Ao i co) z1 (by kernel_rfl) ?_
      simp only [Act.put, fl1, fl2, fl3]
      refine sg_run (by kernel_rfl) (.agg (encE x)) z1 (exec_load_row 24 z1 _ rfl E (by kernel_rfl) 24 (encE x) (0, 0) _ hEz1.out Tryd.underlying24 rfl (by rw [encE_size']; kernel_rfl)) ?_
      simp only [Act.put, fl1, fl2, fl3]
      obtain ⟨hv, hrow, hhead⟩ := hTz1.out.row
      obtain ⟨A1, c1, rfl⟩ := own_form hhead
      have hlen := @headP_len m hm32 l i
      refine sg_call (by kernel_rfl) 55 #[.pointer (some ⟨D, 0, none⟩), .agg (encE x)] (by kernel_rfl) (R := fun v w' => w'.ownsRow z1.heap.size 5 1 v (textS m l i).length (vals (textS m l i)) ∧ Below z1.heap.size z1 w') ((text_calls D 0 (m : Int) (i : Int) A1 _ c1 (headP m l i) rfl (by omega) x hxok.out (by omega) z1 ⟨cell_row hrow rfl, cell_row hrow rfl, cell_row hrow rfl, (Array.getElem?_eq_some_iff.1 hrow).1⟩ (own_bytes hhead)).mono fun e w' h => by
        obtain ⟨v, h1, h2, h3⟩ := h
        rw [hxH.out] at h2
        exact ⟨_, h1, h2, h3⟩) ?_
      rintro tv z2 ⟨hown, hb⟩
      obtain ⟨At, ct, rfl⟩ := own_form hown
      simp only [Act.put, fl1, fl2, fl3]
      have hTz2 : Hid (TI w D m l i (.slice Ao i co) vs z2) := (hTz1.out).below hb
      have hEz2 : Hid (z2.heap[E]? = some (.cells (encE x) 24 (0, 0))) := heap_kept hEz1.out hb
      clear hTz1 hEz1
      have htz2 : Hid (z2.ownsRow z1.heap.size 5 1 (.slice At (textS m l i).length ct) (textS m l i).length (vals (textS m l i))) := hown
      have hz12 : Hid (w.heap.size ≤ z1.heap.size) := by
        have := hTz2.out.bel.size; have h9 := hb.size
        exact hZ.out
      clear hb hown hrow hhead hlen hZ
      refine sg_run (by kernel_rfl) (.slice (some ⟨z2.heap.size, 0, none⟩) 1 1) (z2.alloc (.cells (encV (.slice At (textS m l i).length ct)) 25)) (by kernel_rfl) ?_
      simp only [Act.put, fl1, fl2, fl3]
      have hn0 : (z2.alloc (.cells (encV (.slice At (textS m l i).length ct)) 25)).heap[z2.heap.size]? = some (.cells (encV (.slice At (textS m l i).length ct)) 25 (0, 0)) := heap_alloc_new _ _
      have hb : Below z2.heap.size z2 (z2.alloc (.cells (encV (.slice At (textS m l i).length ct)) 25)) := (Below.refl _ _).alloc (Nat.le_refl _) _
      generalize z2.heap.size = R9 at hn0 ⊢
      generalize z2.alloc _ = z3 at hn0 hb ⊢
      have hTz3 : Hid (TI w D m l i (.slice Ao i co) vs z3) := (hTz2.out).below hb
      have hEz3 : Hid (z3.heap[E]? = some (.cells (encE x) 24 (0, 0))) := heap_kept hEz2.out hb
      clear hTz2 hEz2
      have htz3 : Hid (z3.ownsRow z1.heap.size 5 1 (.slice At (textS m l i).length ct) (textS m l i).length (vals (textS m l i))) := own_keep htz2.out (fun q hq => hb.block q (htz2.out.lt q hq).2)
      clear hb htz2
      obtain ⟨i25, hi25, hz25, hs25, hb25⟩ := info_parts inf25
      have hrg : ∀ j, j < [Value.slice At (textS m l i).length ct].length → z3.rangeAt R9 (0 + j * 1) (encV ([Value.slice At (textS m l i).length ct].getD j default)).toList := fun j hj => by
        have : j = 0 := by simpa using hj
        subst this
        intro r u hu
        simp only [Nat.zero_add, Nat.zero_mul]
        rw [cell_of_row _ _ _ _ _ _ hn0]
        simpa using hu
      have hlvs : vs.length = i := by have := hTz3.out.out.1; omega
      have hrw1 : Rw 1 encV z3 (.slice (some ⟨R9, 0, none⟩) 1 1) [Value.slice At (textS m l i).length ct] := .inr ⟨R9, 0, 1, rfl, Nat.le_refl _, (Array.getElem?_eq_some_iff.1 hn0).1, hrg⟩
      refine appendRw1 (V := .slice At (textS m l i).length ct) 92 25 24 i25 (.slice none 0 0) un92 hi25 hz25 hs25 hb25 rfl rfl rfl _ _ rfl w.heap.size (.slice Ao i co) vs (by kernel_rfl) (by rw [hlvs]; exact hTz3.out.out) (.slice (some ⟨R9, 0, none⟩) 1 1) (by kernel_rfl) hrw1 (by rw [hlvs]; omega) (by rw [hlvs]; omega) hTz3.out.bel.size (fun v9 z4 hown9 hgr9 => ?_)
      clear hi25 hz25 hs25 hb25 hrw1 hrg
      simp only [Act.put, fl1, fl2, fl3]
      have hEz4 : Hid (z4.heap[E]? = some (.cells (encE x) 24 (0, 0))) := (hgr9.block E (Array.getElem?_eq_some_iff.1 hEz3.out).1 (own_kind hTz3.out.out hEz3.out (by decide))).trans hEz3.out
      obtain ⟨hv, hrow, hhead⟩ := hTz3.out.row
      have hk5 : ∀ {b n k v xs}, z3.ownsRow b 5 k v n xs → z4.ownsRow b 5 k v n xs := fun h => h.kept hgr9 (by
        rename_i v _
        cases e : v.ownBlock with
        | none => exact .inl rfl
        | some q => exact .inr (own_other hTz3.out.out h (by decide) q e))
      have hTz4 : Hid (TI4 w D m l i v9 (vs ++ [Value.slice At (textS m l i).length ct]) z4) := by
        refine ⟨⟨hv, (hgr9.block D (Array.getElem?_eq_some_iff.1 hrow).1 (own_kind hTz3.out.out hrow (by decide))).trans hrow, hk5 hhead⟩, ?_, fun j hj => ?_, hTz3.out.bel.grown hgr9 hTz3.out.bel.size (fun q hq => (hTz3.out.out.lt q hq).1)⟩
        · rw [List.length_append, hlvs] at hown9
          exact hown9
        · by_cases e : j < i
          · rw [List.getD_eq_getElem?_getD, List.getElem?_append_left (by omega), ← List.getD_eq_getElem?_getD]
            exact hk5 (hTz3.out.el j e)
          · obtain rfl : j = i := by omega
            rw [List.getD_eq_getElem?_getD, List.getElem?_append_right (by omega), hlvs, Nat.sub_self]
            exact own_mono (hk5 htz3.out) hz12.out
      obtain ⟨A5, c5, rfl⟩ := own_form hown9
      rw [List.length_append, hlvs, List.length_singleton] at hTz4 ⊢
      clear hgr9 hown9 hn0 hlvs hrow hhead hTz3 hEz3 htz3 hz12 hk5
      refine sl_run rfl (.slice A5 (i + 1) c5) z4 (by kernel_rfl) ?_
      simp only [Act.put, fl1, fl2, fl3]
      refine wpList_nil ?_
      go_upto_region 7 with fail
      refine wp_region_lit ?_
      refine sg_run (by kernel_rfl) (.agg (encE x)) z4 (exec_load_row 24 z4 _ rfl E (by kernel_rfl) 24 (encE x) (0, 0) _ hEz4.out Tryd.underlying24 rfl (by rw [encE_size']; kernel_rfl)) ?_
      simp only [Act.put, fl1, fl2, fl3]
      obtain ⟨⟨hv, hrow, hhead⟩, hout, hels, hbel⟩ := hTz4.out
      obtain ⟨A1, c1, rfl⟩ := own_form hhead
      refine sg_call (by kernel_rfl) 39 #[.pointer (some ⟨D, 0, none⟩), .agg (encE x)] (by kernel_rfl) (R := fun v w' => v = .tuple #[] ∧ TIx w D m l (i + 1) (.slice A5 (i + 1) c5) w') ((link_calls D 0 _ 72 m i hm1 hm32 (by omega) A1 _ c1 (headP m l i) rfl (by rw [headP_len hm32]; omega) (headP_lt m l i) x hxok.out z4 hrow rfl rfl rfl (own_bytes hhead)).mono fun e w' h => by
        obtain ⟨q1, hv2, q2, q3, q4⟩ := h
        have hk5 : ∀ {b n k t v xs}, z4.ownsRow b t k v n xs → t ≠ 72 → w'.ownsRow b t k v n xs := fun h ht => own_keep h (fun q hq => q4.block q (h.lt q hq).2 (fun e => by subst e; exact own_kind h hrow ht hq.symm))
        refine ⟨_, q1, rfl, _, ⟨hv2, q2, ?_⟩, hk5 hout (by decide), fun j hj => hk5 (hels j hj) (by decide), q4.bel hbel hDw.out hbel.size⟩
        rw [headP, ← hxH.out]
        exact own_mono q3 hbel.size) ?_
      rintro _ z5 ⟨rfl, hTn⟩
      simp only [Act.put, fl1, fl2, fl3]
      have hTz5 : Hid (TIx w D m l (i + 1) (.slice A5 (i + 1) c5) z5) := hTn
      clear hTn hrow hhead hout hels hbel hTz4 hEz4
      refine wpList_nil ?_
      clear hxH hxok
      go_wp2_with fail
      go_roundw
      case rel => exact ⟨i + 1, _, by omega, rfl, by go_num, hTz5⟩
      case measure => simp [intOf]; omega
    · have hI : ¬ (i : Int) < (n : Int) := by omega
      obtain rfl : i = n := by omega
      obtain ⟨vs, hT⟩ := hT
      obtain ⟨Ao, co, hAo⟩ := own_form hT.out
      subst hAo
      obtain ⟨⟨hv, hrow, hhead⟩, hout, hels, hbel⟩ := hT
      have hF : Hid (TxO w m l (.slice Ao i co) hv wo.drew) := by
        have k : ∀ {b n k e v xs}, wo.ownsRow b e k v n xs → wo.drew.ownsRow b e k v n xs := fun h => own_keep h (fun q hq => rfl)
        have hil := hn'.out
        refine ⟨⟨vs, by rw [← hil]; exact k hout, fun j hj => own_bytes (k (hels j (by omega)))⟩, ?_, hbel.drew⟩
        rw [← hil]; exact own_bytes (k hhead)
      obtain ⟨A1, c1, rfl⟩ := own_form hhead
      have hc1 : wo.drew.cell? ⟨D, 1, none⟩ = some (.slice A1 (headP m l i).length c1) := cell_row (w := wo.drew) hrow rfl
      clear hrow hhead hout hels hbel
      go_upto_region 9 with fail
      refine wp_region_still_tail 4 (by kernel_rfl) (by kernel_rfl) ?_
      change wpStill _ _ wo.drew (fun a' => wpList _ _ _ _ a' wo.drew) _ _
      generalize wo.drew = y at hF hc1 ⊢
      simp only [List.take_succ_cons, List.take_zero, List.drop_succ_cons, List.drop_zero]
      refine still_run rfl (.slice Ao i co) (by kernel_rfl) ?_
      simp only [Act.put, fl1, fl2, fl3]
      refine still_run rfl (.pointer (some ⟨D, 1, none⟩)) (by kernel_rfl) ?_
      simp only [Act.put, fl1, fl2, fl3]
      refine still_run rfl (.slice A1 (headP m l i).length c1) (exec_load_cell 25 y _ rfl ⟨D, 1, none⟩ (by kernel_rfl) _ hc1 (fun _ => by kernel_rfl)) ?_
      simp only [Act.put, fl1, fl2, fl3]
      refine still_run rfl (.slice Ao i co) (by kernel_rfl) ?_
      simp only [Act.put, fl1, fl2, fl3]
      refine wpStill_nil ?_
      refine sl_run rfl (.slice A1 (headP m l i).length c1) y (by kernel_rfl) ?_
      simp only [Act.put, fl1, fl2, fl3]
      refine wpList_nil ?_
      clear hc1
      go_wp2_with fail
      go_ret2
      exact ⟨_, _, rfl, hF.out⟩
end Go.Proofs.YtadopkifpfmhcaaDoor
namespace Go.Proofs.YtadopkifpfmhcaaDoor
open Go.RowKit
open Sha (vals Bytes Lies bytesC sumB)
open Go.Proofs.YtadopkifpfmhcaaDoorW.PrintWords Go.Proofs.YtadopkifpfmhcaaDoorW.PrintLast Go.Proofs.YtadopkifpfmhcaaDoorW.PrintMore
def pairK (m : Nat) (a b : List En) (j : Nat) : Bool := decide (textS m a (a.length - 1 - j) = textS m b (b.length - 1 - j))
def clashK (m : Nat) (a b : List En) : Option Nat := (List.range (min a.length b.length)).find? fun j => !pairK m a b j
/-- Two texts that are summed, or none. -/
def clashR (cut : Int) (a b : List En) : List Nat × List Nat × Bool :=
  if rightS cut a = true ∧ rightS cut b = true ∧ headP cut.toNat a a.length = headP cut.toNat b b.length then
    match clashK cut.toNat a b with
    | some j => (textS cut.toNat a (a.length - 1 - j), textS cut.toNat b (b.length - 1 - j), true)
    | none => ([], [], false)
  else ([], [], false)
theorem clashK_some {m : Nat} {a b : List En} {j : Nat} (h1 : j < a.length) (h2 : j < b.length) (hall : ∀ i, i < j → pairK m a b i = true) (hj : pairK m a b j = false) : clashK m a b = some j := by
  unfold clashK
  rw [List.find?_range_eq_some]
  exact ⟨by rw [hj]; rfl, List.mem_range.2 (by omega), fun i hi => by rw [hall i hi]; rfl⟩
theorem clashK_none {m : Nat} {a b : List En} (hall : ∀ i, i < min a.length b.length → pairK m a b i = true) : clashK m a b = none := by
  unfold clashK
  rw [List.find?_eq_none]
  intro i hi
  rw [hall i (List.mem_range.1 hi)]; decide
theorem textS_lt {m : Nat} {l : List En} (hok : ∀ x ∈ l, x.ok) (k : Nat) (hk : k < l.length) : ∀ y ∈ textS m l k, y < 256 := fun y hy => by
  unfold textS at hy
  rcases List.mem_append.1 hy with h | h
  · exact headP_lt _ _ _ y h
  · exact bytesS_lt (hok _ (by simp [hk])) _ y h
theorem textS_len {m : Nat} (hm : m ≤ 32) (l : List En) (k : Nat) : (textS m l k).length ≤ 1000000 := by
  unfold textS
  rw [List.length_append, headP_len hm]
  have := @bytesS_len (l.getD k default) (k : Int)
  omega
/-- An element of a row of texts. -/
theorem TxO.elem {w0 w : World} {m : Nat} {l : List En} {ov hv : Value} (h : TxO w0 m l ov hv w) (hl : 0 < l.length) : ∃ g c, ov = .slice (some ⟨g, 0, none⟩) l.length c ∧ l.length ≤ c ∧ ∀ j, j < l.length → ∃ u, w.cell? ⟨g, j, none⟩ = some u ∧ Bytes w u (textS m l j) := by
  obtain ⟨vs, h1, h2⟩ := h.out
  rcases h1.2 with ⟨_, h0⟩ | ⟨g, cap, cur, rfl, h3, h4, h5, h6, h7, h8⟩
  · omega
  · refine ⟨g, cap, rfl, h5, fun j hj => ⟨vs.getD j undef, ?_, h2 j hj⟩⟩
    have hlen : vs.length = l.length := by have := h1.1; omega
    have := h1.cells (g := g) rfl j (vs.getD j undef) (by simp [show j < vs.length by omega])
    rwa [Addr.add_mid, Nat.zero_add] at this
theorem TxO.below {w0 w w' : World} {m : Nat} {l : List En} {ov hv : Value} (h : TxO w0 m l ov hv w) (hb : Below w.heap.size w w') : TxO w0 m l ov hv w' := by
  obtain ⟨⟨vs, h1, h2⟩, h3, h4⟩ := h
  exact ⟨⟨vs, own_keep h1 (fun q hq => hb.block q (h1.lt q hq).2), fun j hj => (h2 j hj).below hb⟩, h3.below hb, h4.trans (hb.mono h4.size)⟩
def lenOf : Value → Nat
  | .slice _ n _ => n
  | _ => 0
set_option maxRecDepth 100000 in
set_option maxHeartbeats 16000000 in
theorem Clash_calls (cut : Int) (a b : List En) (hoka : ∀ x ∈ a, x.ok) (hokb : ∀ x ∈ b, x.ok) (A : Option Addr) (na ca : Nat) (hna : na = a.length) (hna9 : na ≤ 1000000) (B : Option Addr) (nb cb : Nat) (hnb : nb = b.length) (hnb9 : nb ≤ 1000000) (w : World) (hya : Rw 35 encE w (.slice A na ca) a) (hyb : Rw 35 encE w (.slice B nb cb) b) :
    Calls Tryd.prog 27 #[.int .i64 cut, .slice A na ca, .slice B nb cb] w fun e w' => ∃ u v, e = .returned (.tuple #[u, v, .bool (clashR cut a b).2.2]) ∧ Bytes w' u (clashR cut a b).1 ∧ Bytes w' v (clashR cut a b).2.1 ∧ Below w.heap.size w w' := by
  have hna' : Hid (na = a.length) := hna
  have hnb' : Hid (nb = b.length) := hnb
  have hyaw : Hid (Rw 35 encE w (.slice A na ca) a) := hya
  have hybw : Hid (Rw 35 encE w (.slice B nb cb) b) := hyb
  have hBw : Hid (Below w.heap.size w w) := Below.refl _ _
  have hokaH : Hid (∀ x ∈ a, x.ok) := hoka
  have hokbH : Hid (∀ x ∈ b, x.ok) := hokb
  obtain ⟨R, hR⟩ : ∃ R, R = clashR cut a b := ⟨_, rfl⟩
  rw [← hR]
  have hRH : Hid (R = clashR cut a b) := hR
  clear hna hnb hya hyb hoka hokb hR
  obtain ⟨ra, hra⟩ : ∃ r, r = rightS cut a := ⟨_, rfl⟩
  obtain ⟨rb, hrb⟩ : ∃ r, r = rightS cut b := ⟨_, rfl⟩
  have hraH : Hid (ra = rightS cut a) := hra
  have hrbH : Hid (rb = rightS cut b) := hrb
  clear hra hrb
  go_enter Tryd.func27, Tryd.ntmps27
  go_upto_region 1 with fail
  refine wp_region_lit ?_
  refine sl_run rfl (.int .i64 cut) w (by kernel_rfl) ?_
  simp only [Act.put, fl1, fl2, fl3]
  refine sl_run rfl (.slice A na ca) w (by kernel_rfl) ?_
  simp only [Act.put, fl1, fl2, fl3]
  refine sg_call (by kernel_rfl) 37 #[.int .i64 cut, .slice A na ca] (by kernel_rfl) (R := fun v w' => v = .bool ra ∧ Below w.heap.size w w') ((hraH.out.symm ▸ right_calls cut a A na ca hna'.out (by omega) w hyaw.out).mono fun e w' h => ⟨_, h.1, rfl, h.2⟩) ?_
  rintro _ w1 ⟨rfl, hb⟩
  simp only [Act.put, fl1, fl2, fl3]
  have hBw1 : Hid (Below w.heap.size w w1) := hBw.out.trans ((hb).mono (hBw.out).size)
  have hyaw1 : Hid (Rw 35 encE w1 (.slice A na ca) a) := (hyaw.out).below hb
  have hybw1 : Hid (Rw 35 encE w1 (.slice B nb cb) b) := (hybw.out).below hb
  clear hBw hyaw hybw
  clear hb
  refine sl_run rfl (.bool (!ra)) w1 (by kernel_rfl) ?_
  simp only [Act.put, fl1, fl2, fl3]
  cases ra with
  | false =>
    refine sl_run rfl (.bool true) w1 (by kernel_rfl) ?_
    simp only [Act.put, fl1, fl2, fl3]
    refine wpList_skip ?hw ?_
    case hw => kernel_rfl
    simp only [Act.put, fl1, fl2, fl3]
    refine wpList_skip ?hw ?_
    case hw => kernel_rfl
    simp only [Act.put, fl1, fl2, fl3]
    refine wpList_skip ?hw ?_
    case hw => kernel_rfl
    simp only [Act.put, fl1, fl2, fl3]
    refine wpList_skip ?hw ?_
    case hw => kernel_rfl
    simp only [Act.put, fl1, fl2, fl3]
    refine sl_run rfl (.bool true) w1 (by kernel_rfl) ?_
    simp only [Act.put, fl1, fl2, fl3]
    refine wpList_nil ?_
    have hs : clashR cut a b = ([], [], false) := by unfold clashR; rw [if_neg (by rw [← hraH.out]; simp)]
    have hq := hRH.out
    rw [hs] at hq
    subst hq
    have hF := hBw1
    clear hRH hs hyaw1 hybw1 hBw1 hraH hrbH
    go_wp2_with fail
    refine bodyPost_ret (v := .tuple #[.slice none 0 0, .slice none 0 0, .bool false]) (by kernel_rfl) rfl ?_
    exact ⟨_, _, rfl, .inl ⟨none, 0, rfl, rfl, fun _ => rfl⟩, .inl ⟨none, 0, rfl, rfl, fun _ => rfl⟩, hF.out⟩
  | true =>
    refine sl_run rfl (.bool false) w1 (by kernel_rfl) ?_
    simp only [Act.put, fl1, fl2, fl3]
    refine sg_run (by kernel_rfl) (.int .i64 cut) w1 (by kernel_rfl) ?_
    simp only [Act.put, fl1, fl2, fl3]
    refine sg_run (by kernel_rfl) (.slice B nb cb) w1 (by kernel_rfl) ?_
    simp only [Act.put, fl1, fl2, fl3]
    refine sg_call (by kernel_rfl) 37 #[.int .i64 cut, .slice B nb cb] (by kernel_rfl) (R := fun v w' => v = .bool rb ∧ Below w1.heap.size w1 w') ((hrbH.out.symm ▸ right_calls cut b B nb cb hnb'.out (by omega) w1 hybw1.out).mono fun e w' h => ⟨_, h.1, rfl, h.2⟩) ?_
    rintro _ w2 ⟨rfl, hb⟩
    simp only [Act.put, fl1, fl2, fl3]
    have hBw2 : Hid (Below w.heap.size w w2) := hBw1.out.trans ((hb).mono (hBw1.out).size)
    have hyaw2 : Hid (Rw 35 encE w2 (.slice A na ca) a) := (hyaw1.out).below hb
    have hybw2 : Hid (Rw 35 encE w2 (.slice B nb cb) b) := (hybw1.out).below hb
    clear hBw1 hyaw1 hybw1
    clear hb
    refine sg_run (by kernel_rfl) (.bool (!rb)) w2 (by kernel_rfl) ?_
    simp only [Act.put, fl1, fl2, fl3]
    cases rb with
    | false =>
      refine sl_run rfl (.bool true) w2 (by kernel_rfl) ?_
      simp only [Act.put, fl1, fl2, fl3]
      refine wpList_nil ?_
      have hs : clashR cut a b = ([], [], false) := by unfold clashR; rw [if_neg (by rw [← hrbH.out]; simp)]
      have hq := hRH.out
      rw [hs] at hq
      subst hq
      have hF := hBw2
      clear hRH hs hyaw2 hybw2 hBw2 hraH hrbH
      go_wp2_with fail
      refine bodyPost_ret (v := .tuple #[.slice none 0 0, .slice none 0 0, .bool false]) (by kernel_rfl) rfl ?_
      exact ⟨_, _, rfl, .inl ⟨none, 0, rfl, rfl, fun _ => rfl⟩, .inl ⟨none, 0, rfl, rfl, fun _ => rfl⟩, hF.out⟩
    | true =>
      refine sl_run rfl (.bool false) w2 (by kernel_rfl) ?_
      simp only [Act.put, fl1, fl2, fl3]
      refine wpList_nil ?_
      obtain ⟨hc1, hc2⟩ := right_cut hraH.out.symm
      obtain ⟨m, rfl⟩ : ∃ m : Nat, cut = (m : Int) := ⟨cut.toNat, by omega⟩
      have hm1 : 1 ≤ m := by omega
      have hm32 : m ≤ 32 := by omega
      have hR2 : Hid (R = if headP m a na = headP m b nb then match clashK m a b with | some j => (textS m a (a.length - 1 - j), textS m b (b.length - 1 - j), true) | none => ([], [], false) else ([], [], false)) := by
        have h := hRH.out
        unfold clashR at h
        rw [← hraH.out, ← hrbH.out, Int.toNat_natCast, ← hna'.out, ← hnb'.out] at h
        simp only [true_and] at h
        rw [hna'.out, hnb'.out] at h ⊢
        exact h
      clear hRH hraH hrbH hc1 hc2
      go_upto_region 3 with fail
      refine wp_region_lit ?_
      refine sl_run rfl (.int .i64 (m : Int)) w2 (by kernel_rfl) ?_
      simp only [Act.put, fl1, fl2, fl3]
      refine sl_run rfl (.slice A na ca) w2 (by kernel_rfl) ?_
      simp only [Act.put, fl1, fl2, fl3]
      refine sg_call (by kernel_rfl) 51 #[.int .i64 (m : Int), .slice A na ca] (by kernel_rfl) (R := fun v w' => ∃ ov hv, v = .tuple #[ov, hv] ∧ TxO w2 m a ov hv w') ((texts_calls m hm1 hm32 a hokaH.out _ na ca hna'.out (by omega) w2 hyaw2.out).mono fun e w' h => by
        obtain ⟨ov, hv, h1, h2⟩ := h
        exact ⟨_, h1, ov, hv, rfl, h2⟩) ?_
      rintro _ w3 ⟨oa, ha, rfl, htx⟩
      have hb := htx.bel
      simp only [Act.put, fl1, fl2, fl3]
      have hBw3 : Hid (Below w.heap.size w w3) := hBw2.out.trans ((hb).mono (hBw2.out).size)
      have hyaw3 : Hid (Rw 35 encE w3 (.slice A na ca) a) := (hyaw2.out).below hb
      have hybw3 : Hid (Rw 35 encE w3 (.slice B nb cb) b) := (hybw2.out).below hb
      clear hBw2 hyaw2 hybw2
      have hoaw3 : Hid (TxO w2 m a oa ha w3) := htx
      clear hb htx
      refine sl_run rfl (.tuple #[oa, ha]) w3 (by kernel_rfl) ?_
      simp only [Act.put, fl1, fl2, fl3]
      refine sl_run rfl (oa) w3 (by kernel_rfl) ?_
      simp only [Act.put, fl1, fl2, fl3]
      refine sl_run rfl (ha) w3 (by kernel_rfl) ?_
      simp only [Act.put, fl1, fl2, fl3]
      refine sl_run rfl (oa) w3 (by kernel_rfl) ?_
      simp only [Act.put, fl1, fl2, fl3]
      refine sl_run rfl (ha) w3 (by kernel_rfl) ?_
      simp only [Act.put, fl1, fl2, fl3]
      refine wpList_nil ?_
      go_upto_region 4 with fail
      refine wp_region_lit ?_
      refine sl_run rfl (.int .i64 (m : Int)) w3 (by kernel_rfl) ?_
      simp only [Act.put, fl1, fl2, fl3]
      refine sl_run rfl (.slice B nb cb) w3 (by kernel_rfl) ?_
      simp only [Act.put, fl1, fl2, fl3]
      refine sg_call (by kernel_rfl) 51 #[.int .i64 (m : Int), .slice B nb cb] (by kernel_rfl) (R := fun v w' => ∃ ov hv, v = .tuple #[ov, hv] ∧ TxO w3 m b ov hv w') ((texts_calls m hm1 hm32 b hokbH.out _ nb cb hnb'.out (by omega) w3 hybw3.out).mono fun e w' h => by
        obtain ⟨ov, hv, h1, h2⟩ := h
        exact ⟨_, h1, ov, hv, rfl, h2⟩) ?_
      rintro _ w4 ⟨ob, hb9, rfl, htx⟩
      have hb := htx.bel
      simp only [Act.put, fl1, fl2, fl3]
      have hBw4 : Hid (Below w.heap.size w w4) := hBw3.out.trans ((hb).mono (hBw3.out).size)
      have hyaw4 : Hid (Rw 35 encE w4 (.slice A na ca) a) := (hyaw3.out).below hb
      have hybw4 : Hid (Rw 35 encE w4 (.slice B nb cb) b) := (hybw3.out).below hb
      have hoaw4 : Hid (TxO w2 m a oa ha w4) := (hoaw3.out).below hb
      clear hBw3 hyaw3 hybw3 hoaw3
      have hobw4 : Hid (TxO w3 m b ob hb9 w4) := htx
      clear hb htx
      refine sl_run rfl (.tuple #[ob, hb9]) w4 (by kernel_rfl) ?_
      simp only [Act.put, fl1, fl2, fl3]
      refine sl_run rfl (ob) w4 (by kernel_rfl) ?_
      simp only [Act.put, fl1, fl2, fl3]
      refine sl_run rfl (hb9) w4 (by kernel_rfl) ?_
      simp only [Act.put, fl1, fl2, fl3]
      refine sl_run rfl (ob) w4 (by kernel_rfl) ?_
      simp only [Act.put, fl1, fl2, fl3]
      refine sl_run rfl (hb9) w4 (by kernel_rfl) ?_
      simp only [Act.put, fl1, fl2, fl3]
      refine wpList_nil ?_
      obtain ⟨sm, hsm⟩ : ∃ s, s = decide (headP m a na = headP m b nb) := ⟨_, rfl⟩
      go_upto_region 5 with fail
      refine wp_region_lit ?_
      refine sl_run rfl (ha) w4 (by kernel_rfl) ?_
      simp only [Act.put, fl1, fl2, fl3]
      refine sl_run rfl (hb9) w4 (by kernel_rfl) ?_
      simp only [Act.put, fl1, fl2, fl3]
      refine sg_call (by kernel_rfl) 42 #[ha, hb9] (by kernel_rfl) (R := fun v w' => v = .bool sm ∧ Below w4.heap.size w4 w') (((show decide (headP m a a.length = headP m b b.length) = sm by rw [hsm, hna'.out, hnb'.out]) ▸ equal_calls (headP m a a.length) (headP m b b.length) (headP_lt m a _) (headP_lt m b _) (by rw [headP_len hm32]; omega) (by rw [headP_len hm32]; omega) ha hb9 w4 hoaw4.out.head hobw4.out.head).mono fun e w' h => ⟨_, h.1, rfl, h.2⟩) ?_
      rintro _ w5 ⟨rfl, hb⟩
      simp only [Act.put, fl1, fl2, fl3]
      have hBw5 : Hid (Below w.heap.size w w5) := hBw4.out.trans ((hb).mono (hBw4.out).size)
      have hyaw5 : Hid (Rw 35 encE w5 (.slice A na ca) a) := (hyaw4.out).below hb
      have hybw5 : Hid (Rw 35 encE w5 (.slice B nb cb) b) := (hybw4.out).below hb
      have hoaw5 : Hid (TxO w2 m a oa ha w5) := (hoaw4.out).below hb
      have hobw5 : Hid (TxO w3 m b ob hb9 w5) := (hobw4.out).below hb
      clear hBw4 hyaw4 hybw4 hoaw4 hobw4
      clear hb
      refine sl_run rfl (.bool (!sm)) w5 (by kernel_rfl) ?_
      simp only [Act.put, fl1, fl2, fl3]
      refine wpList_nil ?_
      clear hyaw5 hybw5
      cases sm with
      | false =>
        have hq := hR2.out
        rw [if_neg (of_decide_eq_false hsm.symm)] at hq
        subst hq
        have hF := hBw5
        clear hR2 hBw5 hoaw5 hobw5 hsm
        go_wp2_with fail
        refine bodyPost_ret (v := .tuple #[.slice none 0 0, .slice none 0 0, .bool false]) (by kernel_rfl) rfl ?_
        exact ⟨_, _, rfl, .inl ⟨none, 0, rfl, rfl, fun _ => rfl⟩, .inl ⟨none, 0, rfl, rfl, fun _ => rfl⟩, hF.out⟩
      | true =>
        have hR3 : Hid (R = match clashK m a b with | some j => (textS m a (a.length - 1 - j), textS m b (b.length - 1 - j), true) | none => ([], [], false)) := by
          have hq := hR2.out
          rw [if_pos (of_decide_eq_true hsm.symm)] at hq
          exact hq
        clear hR2 hsm
        obtain ⟨vsa, hva, _⟩ := hoaw5.out.out
        obtain ⟨vsb, hvb, _⟩ := hobw5.out.out
        obtain ⟨Pa, pa, hPa⟩ := own_formq hva hna'.out
        obtain ⟨Pb, pb, hPb⟩ := own_formq hvb hnb'.out
        subst hPa hPb
        clear hva hvb
        simp only [Bool.not_true]
        go_wp2_with fail
        go_loopw [9, 11] (fun p q wr => ∃ j : Nat, j ≤ na ∧ j ≤ nb ∧ p = .slice Pa (na - j) pa ∧ q = .slice Pb (nb - j) pb ∧ Hid (∀ i, i < j → pairK m a b i = true) ∧ Hid (Below w5.heap.size w5 wr)) (fun p _ _ => lenOf p)
        case atStart => exact ⟨0, by omega, by omega, rfl, rfl, fun i h => by omega, Below.refl _ _⟩
        case round =>
          obtain ⟨j, hj1, hj2, rfl, rfl, hall, hbw⟩ := hrel
          obtain ⟨wo, rfl⟩ : ∃ v : World, v = wr := ⟨_, rfl⟩
          have hallH : Hid (∀ i, i < j → pairK m a b i = true) := hall
          have hBwo : Hid (Below w.heap.size w wo) := hBw5.out.trans (hbw.out.mono hBw5.out.size)
          have hoawo : Hid (TxO w2 m a (.slice Pa na pa) ha wo) := hoaw5.out.below hbw.out
          have hobwo : Hid (TxO w3 m b (.slice Pb nb pb) hb9 wo) := hobw5.out.below hbw.out
          clear hall
          obtain ⟨ia, hia⟩ : ∃ x, x = na - j := ⟨_, rfl⟩
          obtain ⟨ib, hib⟩ : ∃ x, x = nb - j := ⟨_, rfl⟩
          rw [← hia, ← hib]
          by_cases h1 : j < na
          case neg =>
            have hI : ¬ (ia : Int) > 0 := by omega
            have hn : clashK m a b = none := clashK_none (fun i hi => hallH.out i (by have := hna'.out; omega))
            have hq := hR3.out
            rw [hn] at hq
            subst hq
            have hF := hBwo
            clear hR3 hn hallH hBwo hoawo hobwo hbw hBw5 hoaw5 hobw5 hia hib hj1 hj2 h1
            go_wp2_with fail
            refine bodyPost_ret (v := .tuple #[.slice none 0 0, .slice none 0 0, .bool false]) (by kernel_rfl) rfl ?_
            exact ⟨_, _, rfl, .inl ⟨none, 0, rfl, rfl, fun _ => rfl⟩, .inl ⟨none, 0, rfl, rfl, fun _ => rfl⟩, hF.out⟩
          case pos =>
          by_cases h2 : j < nb
          case neg =>
            have hI : (ia : Int) > 0 := by omega
            have hI2 : ¬ (ib : Int) > 0 := by omega
            have hn : clashK m a b = none := clashK_none (fun i hi => hallH.out i (by have := hnb'.out; omega))
            have hq := hR3.out
            rw [hn] at hq
            subst hq
            have hF := hBwo
            clear hR3 hn hallH hBwo hoawo hobwo hbw hBw5 hoaw5 hobw5 hia hib hj1 hj2 h1 h2
            go_wp2_with fail
            refine bodyPost_ret (v := .tuple #[.slice none 0 0, .slice none 0 0, .bool false]) (by kernel_rfl) rfl ?_
            exact ⟨_, _, rfl, .inl ⟨none, 0, rfl, rfl, fun _ => rfl⟩, .inl ⟨none, 0, rfl, rfl, fun _ => rfl⟩, hF.out⟩
          case pos =>
          have hI : (ia : Int) > 0 := by omega
          have hI2 : (ib : Int) > 0 := by omega
          obtain ⟨ga, c1, e1, hca, hea⟩ := hoawo.out.elem (by rw [← hna'.out]; omega)
          obtain ⟨gb, c2, e2, hcb, heb⟩ := hobwo.out.elem (by rw [← hnb'.out]; omega)
          injection e1 with q1 q2 q3
          injection e2 with q4 q5 q6
          subst q1 q3 q4 q6
          obtain ⟨ua, hca1, hua⟩ := hea (ia - 1) (by rw [← hna'.out]; omega)
          obtain ⟨ub, hcb1, hub⟩ := heb (ib - 1) (by rw [← hnb'.out]; omega)
          obtain ⟨Ta, hTa⟩ : ∃ t, t = textS m a (ia - 1) := ⟨_, rfl⟩
          obtain ⟨Tb, hTb⟩ : ∃ t, t = textS m b (ib - 1) := ⟨_, rfl⟩
          rw [← hTa] at hua
          rw [← hTb] at hub
          have hTa2 : Hid (Ta = textS m a (a.length - 1 - j)) := by show _ = _; rw [hTa, ← hna'.out]; congr 1; omega
          have hTb2 : Hid (Tb = textS m b (b.length - 1 - j)) := by show _ = _; rw [hTb, ← hnb'.out]; congr 1; omega
          have hTalt : Hid (∀ y ∈ Ta, y < 256) := by rw [hTa]; exact textS_lt hokaH.out _ (by rw [← hna'.out]; omega)
          have hTblt : Hid (∀ y ∈ Tb, y < 256) := by rw [hTb]; exact textS_lt hokbH.out _ (by rw [← hnb'.out]; omega)
          have hTal : Ta.length ≤ 1000000 := by rw [hTa]; exact textS_len hm32 _ _
          have hTbl : Tb.length ≤ 1000000 := by rw [hTb]; exact textS_len hm32 _ _
          have hia1 : 1 ≤ ia := by omega
          have hib1 : 1 ≤ ib := by omega
          have hiac : ia ≤ pa := by have := hna'.out; omega
          have hibc : ib ≤ pb := by have := hnb'.out; omega
          have hiaN : Hid (ia - 1 = na - (j + 1)) := by show _ = _; omega
          have hibN : Hid (ib - 1 = nb - (j + 1)) := by show _ = _; omega
          have hia9 : ia ≤ 1000000 := by omega
          have hib9 : ib ≤ 1000000 := by omega
          have hj1' : j + 1 ≤ na := by omega
          have hj2' : j + 1 ≤ nb := by omega
          have hca1H : Hid (wo.cell? ⟨ga, ia - 1, none⟩ = some ua) := hca1
          have hcb1H : Hid (wo.cell? ⟨gb, ib - 1, none⟩ = some ub) := hcb1
          have hyuawo : Hid (Bytes wo ua Ta) := hua
          have hyubwo : Hid (Bytes wo ub Tb) := hub
          have hxwo : Hid (Below w5.heap.size w5 wo) := hbw.out
          obtain ⟨Aua, cua, rfl⟩ := hua.form
          obtain ⟨Aub, cub, rfl⟩ := hub.form
          clear q2 q5 hea heb hua hub hca1 hcb1 hTa hTb hia hib hca hcb hoawo hobwo hbw h1 h2 hj1 hj2
          go_upto_region 8 with fail
          refine wp_region_still_tail 13 (by kernel_rfl) (by kernel_rfl) ?_
          change wpStill _ _ wo.drew (fun a' => wpList _ _ _ _ a' wo.drew) _ _
          have hBy : Hid (Below w.heap.size w wo.drew) := hBwo.out.drew
          have hxy : Hid (Below w5.heap.size w5 wo.drew) := hxwo.out.drew
          have hyuay : Hid (Bytes wo.drew (.slice Aua Ta.length cua) Ta) := hyuawo.out.below (Below.refl _ _).drew
          have hyuby : Hid (Bytes wo.drew (.slice Aub Tb.length cub) Tb) := hyubwo.out.below (Below.refl _ _).drew
          have hca1y : Hid (wo.drew.cell? ⟨ga, ia - 1, none⟩ = some (.slice Aua Ta.length cua)) := hca1H.out
          have hcb1y : Hid (wo.drew.cell? ⟨gb, ib - 1, none⟩ = some (.slice Aub Tb.length cub)) := hcb1H.out
          clear hBwo hxwo hyuawo hyubwo hca1H hcb1H
          generalize hx : wo.drew = y at hBy hxy hyuay hyuby hca1y hcb1y ⊢
          clear hx
          simp only [List.take_succ_cons, List.take_zero, List.drop_succ_cons, List.drop_zero]
          refine still_run rfl (.slice (some ⟨ga, 0, none⟩) ia pa) (by kernel_rfl) ?_
          simp only [Act.put, fl1, fl2, fl3]
          refine still_run rfl (.slice (some ⟨ga, 0, none⟩) ia pa) (by kernel_rfl) ?_
          simp only [Act.put, fl1, fl2, fl3]
          refine still_run rfl (.int .i64 (ia : Int)) (by kernel_rfl) ?_
          simp only [Act.put, fl1, fl2, fl3]
          refine still_run rfl (.int .i64 ((ia - 1 : Nat) : Int)) (subI _ rfl ia (by kernel_rfl) hia1 (by omega) _) ?_
          simp only [Act.put, fl1, fl2, fl3]
          refine still_run rfl (.pointer (some ⟨ga, 0 + (ia - 1) * 1, none⟩)) (exec_index un92 sz92 _ _ rfl ga 0 ia pa (ia - 1) (by kernel_rfl) (by kernel_rfl) (by omega) _) ?_
          simp only [Act.put, fl1, fl2, fl3]
          refine still_run rfl (.slice Aua Ta.length cua) (exec_load_cell 25 y _ rfl ⟨ga, 0 + (ia - 1) * 1, none⟩ (by kernel_rfl) _ (by rw [Nat.zero_add, Nat.mul_one]; exact hca1y.out) (fun _ => by kernel_rfl)) ?_
          simp only [Act.put, fl1, fl2, fl3]
          refine still_run rfl (.slice (some ⟨gb, 0, none⟩) ib pb) (by kernel_rfl) ?_
          simp only [Act.put, fl1, fl2, fl3]
          refine still_run rfl (.slice (some ⟨gb, 0, none⟩) ib pb) (by kernel_rfl) ?_
          simp only [Act.put, fl1, fl2, fl3]
          refine still_run rfl (.int .i64 (ib : Int)) (by kernel_rfl) ?_
          simp only [Act.put, fl1, fl2, fl3]
          refine still_run rfl (.int .i64 ((ib - 1 : Nat) : Int)) (subI _ rfl ib (by kernel_rfl) hib1 (by omega) _) ?_
          simp only [Act.put, fl1, fl2, fl3]
          refine still_run rfl (.pointer (some ⟨gb, 0 + (ib - 1) * 1, none⟩)) (exec_index un92 sz92 _ _ rfl gb 0 ib pb (ib - 1) (by kernel_rfl) (by kernel_rfl) (by omega) _) ?_
          simp only [Act.put, fl1, fl2, fl3]
          refine still_run rfl (.slice Aub Tb.length cub) (exec_load_cell 25 y _ rfl ⟨gb, 0 + (ib - 1) * 1, none⟩ (by kernel_rfl) _ (by rw [Nat.zero_add, Nat.mul_one]; exact hcb1y.out) (fun _ => by kernel_rfl)) ?_
          simp only [Act.put, fl1, fl2, fl3]
          refine still_run rfl (.slice Aua Ta.length cua) (by kernel_rfl) ?_
          simp only [Act.put, fl1, fl2, fl3]
          refine wpStill_nil ?_
          refine sl_run rfl (.slice Aub Tb.length cub) y (by kernel_rfl) ?_
          simp only [Act.put, fl1, fl2, fl3]
          refine wpList_nil ?_
          clear hca1y hcb1y
          obtain ⟨same, hsame⟩ : ∃ s, s = decide (Ta = Tb) := ⟨_, rfl⟩
          go_upto_region 9 with fail
          refine wp_region_lit ?_
          refine sl_run rfl (.slice Aua Ta.length cua) y (by kernel_rfl) ?_
          simp only [Act.put, fl1, fl2, fl3]
          refine sl_run rfl (.slice Aub Tb.length cub) y (by kernel_rfl) ?_
          simp only [Act.put, fl1, fl2, fl3]
          refine sg_call (by kernel_rfl) 42 #[.slice Aua Ta.length cua, .slice Aub Tb.length cub] (by kernel_rfl) (R := fun v w' => v = .bool same ∧ Below y.heap.size y w') ((hsame ▸ equal_calls Ta Tb hTalt.out hTblt.out (by omega) (by omega) (.slice Aua Ta.length cua) (.slice Aub Tb.length cub) y hyuay.out hyuby.out).mono fun e w' h => ⟨_, h.1, rfl, h.2⟩) ?_
          rintro _ z ⟨rfl, hb⟩
          simp only [Act.put, fl1, fl2, fl3]
          have hBz : Hid (Below w.heap.size w z) := hBy.out.trans ((hb).mono (hBy.out).size)
          have hxz : Hid (Below w5.heap.size w5 z) := hxy.out.trans ((hb).mono (hxy.out).size)
          have hyuaz : Hid (Bytes z (.slice Aua Ta.length cua) Ta) := (hyuay.out).below hb
          have hyubz : Hid (Bytes z (.slice Aub Tb.length cub) Tb) := (hyuby.out).below hb
          clear hBy hxy hyuay hyuby
          clear hb
          refine sl_run rfl (.bool (!same)) z (by kernel_rfl) ?_
          simp only [Act.put, fl1, fl2, fl3]
          refine wpList_nil ?_
          cases same with
          | false =>
            have hk : clashK m a b = some j := clashK_some (by rw [← hna'.out]; omega) (by rw [← hnb'.out]; omega) hallH.out (by unfold pairK; rw [← hTa2.out, ← hTb2.out]; exact hsame.symm)
            have hq := hR3.out
            rw [hk] at hq
            simp only [← hTa2.out, ← hTb2.out] at hq
            subst hq
            have hF : Hid (Bytes z (.slice Aua Ta.length cua) Ta ∧ Bytes z (.slice Aub Tb.length cub) Tb ∧ Below w.heap.size w z) := ⟨hyuaz.out, hyubz.out, hBz.out⟩
            clear hR3 hk hallH hBz hxz hyuaz hyubz hsame
            go_wp2_with fail
            refine bodyPost_ret (v := .tuple #[.slice Aua Ta.length cua, .slice Aub Tb.length cub, .bool true]) (by kernel_rfl) rfl ?_
            exact ⟨_, _, rfl, hF.out⟩
          | true =>
            have hall2 : Hid (∀ i, i < j + 1 → pairK m a b i = true) := fun i hi => by
              by_cases e : i < j
              · exact hallH.out i e
              · obtain rfl : i = j := by omega
                unfold pairK; rw [← hTa2.out, ← hTb2.out]; exact hsame.symm
            clear hsame hallH hTa2 hTb2 hyuaz hyubz hTalt hTblt
            go_upto_region 11 with fail
            refine wp_region_still_tail 11 (by kernel_rfl) (by kernel_rfl) ?_
            change wpStill _ _ z.drew (fun a' => wpList _ _ _ _ a' z.drew) _ _
            have hxy2 : Hid (Below w5.heap.size w5 z.drew) := hxz.out.drew
            clear hxz hBz
            generalize hx : z.drew = y2 at hxy2 ⊢
            clear hx
            simp only [List.take_succ_cons, List.take_zero, List.drop_succ_cons, List.drop_zero]
            refine still_run rfl (.slice (some ⟨ga, 0, none⟩) ia pa) (by kernel_rfl) ?_
            simp only [Act.put, fl1, fl2, fl3]
            refine still_run rfl (.slice (some ⟨ga, 0, none⟩) ia pa) (by kernel_rfl) ?_
            simp only [Act.put, fl1, fl2, fl3]
            refine still_run rfl (.int .i64 (ia : Int)) (by kernel_rfl) ?_
            simp only [Act.put, fl1, fl2, fl3]
            refine still_run rfl (.int .i64 ((ia - 1 : Nat) : Int)) (subI _ rfl ia (by kernel_rfl) hia1 (by omega) _) ?_
            simp only [Act.put, fl1, fl2, fl3]
            refine still_run rfl (.slice (some ⟨ga, 0, none⟩) (ia - 1) pa) ((exec_takeS un92 sz92 _ _ rfl (some ⟨ga, 0, none⟩) ia pa (ia - 1) (by kernel_rfl) (by kernel_rfl) (by omega) _).trans (by rw [if_neg (by omega), Option.map_some, Addr.add_mid, Nat.add_zero])) ?_
            simp only [Act.put, fl1, fl2, fl3]
            refine still_run rfl (.slice (some ⟨gb, 0, none⟩) ib pb) (by kernel_rfl) ?_
            simp only [Act.put, fl1, fl2, fl3]
            refine still_run rfl (.slice (some ⟨gb, 0, none⟩) ib pb) (by kernel_rfl) ?_
            simp only [Act.put, fl1, fl2, fl3]
            refine still_run rfl (.int .i64 (ib : Int)) (by kernel_rfl) ?_
            simp only [Act.put, fl1, fl2, fl3]
            refine still_run rfl (.int .i64 ((ib - 1 : Nat) : Int)) (subI _ rfl ib (by kernel_rfl) hib1 (by omega) _) ?_
            simp only [Act.put, fl1, fl2, fl3]
            refine still_run rfl (.slice (some ⟨gb, 0, none⟩) (ib - 1) pb) ((exec_takeS un92 sz92 _ _ rfl (some ⟨gb, 0, none⟩) ib pb (ib - 1) (by kernel_rfl) (by kernel_rfl) (by omega) _).trans (by rw [if_neg (by omega), Option.map_some, Addr.add_mid, Nat.add_zero])) ?_
            simp only [Act.put, fl1, fl2, fl3]
            refine still_run rfl (.slice (some ⟨ga, 0, none⟩) (ia - 1) pa) (by kernel_rfl) ?_
            simp only [Act.put, fl1, fl2, fl3]
            refine wpStill_nil ?_
            refine sl_run rfl (.slice (some ⟨gb, 0, none⟩) (ib - 1) pb) y2 (by kernel_rfl) ?_
            simp only [Act.put, fl1, fl2, fl3]
            refine wpList_nil ?_
            go_wp2_with fail
            go_roundw
            case rel => exact ⟨j + 1, hj1', hj2', by rw [hiaN.out], by rw [hibN.out], hall2, hxy2⟩
            case measure => simp [lenOf]; omega
end Go.Proofs.YtadopkifpfmhcaaDoor
namespace Go.Proofs.YtadopkifpfmhcaaDoor
open Go.RowKit
open Sha (vals Bytes Lies bytesC sumB)
open Go.Proofs.YtadopkifpfmhcaaDoorW.PrintWords Go.Proofs.YtadopkifpfmhcaaDoorW.PrintLast Go.Proofs.YtadopkifpfmhcaaDoorW.PrintMore
end Go.Proofs.YtadopkifpfmhcaaDoor
namespace Go.Proofs.YtadopkifpfmhcaaDoor
open Go.RowKit
open Sha (vals Bytes Lies bytesC sumB)
open Classical in
noncomputable instance : DecidableEq En := fun _ _ => propDecidable _
theorem eq_items2 (d e : List Nat) (hd : d.length = 32) (he : e.length = 32) (k : Nat) (w : World) : ∀ (is : List Nat), (∀ i ∈ is, i < 32) → (Op.eqItems (k + 1) 5 (Tryd.prog.cellsOf 5) (bytesC d) (bytesC e) is).run Tryd.prog w = .ok (is.all fun i => d.getD i 0 == e.getD i 0) w
  | [], _ => by simp [Op.eqItems]
  | i :: is, h => by
    have hc : Tryd.prog.cellsOf 5 = 1 := by kernel_rfl
    have ha : ∀ w, (isAgg 5).run Tryd.prog w = .ok false w := fun w => by kernel_rfl
    have hi : i < 32 := h i (by simp)
    have hp : ∀ (x : List Nat), x.length = 32 → (part 5 (bytesC x) (i * Tryd.prog.cellsOf 5)).run Tryd.prog w = .ok (.int .u8 (x.getD i 0 : Nat)) w := fun x hx => by
      rw [hc, Nat.mul_one]
      unfold part
      simp only [Sem.run_bind, ha, Result.andThen_ok, Sha.bytesC_get x i (by omega)]
      rfl
    have ih := eq_items2 d e hd he k w is (fun j hj => h j (by simp [hj]))
    have hb : (((d.getD i 0 : Nat) : Int) == ((e.getD i 0 : Nat) : Int)) = (d.getD i 0 == e.getD i 0) := by
      rw [Bool.eq_iff_iff, beq_iff_eq, beq_iff_eq]; omega
    simp only [Op.eqItems, Sem.run_bind, hp d hd, hp e he, Result.andThen_ok, run_equalIn_int w k 5 .u8 .u8 _ _ Tryd.underlying5, hb, List.all_cons]
    cases hq : (d.getD i 0 == e.getD i 0) with
    | true => simp [ih]
    | false => simp
theorem list_all32 {d e : List Nat} (hd : d.length = 32) (he : e.length = 32) : ((List.range 32).all fun i => d.getD i 0 == e.getD i 0) = decide (d = e) := by
  rw [Bool.eq_iff_iff, decide_eq_true_iff, List.all_eq_true]
  constructor
  · intro h
    refine List.ext_getElem (by omega) fun i h1 h2 => ?_
    have := h i (List.mem_range.2 (by omega))
    rw [beq_iff_eq] at this
    simpa [List.getD_eq_getElem?_getD, h1, h2] using this
  · rintro rfl i _; simp
theorem run_eq22 (d e : List Nat) (hd : d.length = 32) (he : e.length = 32) (k : Nat) (w : World) : (Op.equalIn (k + 2) 22 (.agg (bytesC d)) (.agg (bytesC e))).run Tryd.prog w = .ok (decide (d = e)) w := by
  obtain ⟨i5, hi5, _⟩ := info_parts inf5
  rw [run_equalIn_array w (k + 1) (bytesC d) (bytesC e) Tryd.underlying22 hi5, ← list_all32 hd he]
  exact eq_items2 d e hd he k w _ (fun i hi => List.mem_range.1 hi)
theorem bytes_eq (a b : ByteArray) : (a.toList == b.toList) = decide (a = b) := by
  rw [Bool.eq_iff_iff, beq_iff_eq, decide_eq_true_iff, ByteArray.toList_eq, ByteArray.toList_eq]
  constructor
  · intro h
    obtain ⟨⟨x⟩⟩ := a
    obtain ⟨⟨y⟩⟩ := b
    simpa using h
  · rintro rfl; rfl
theorem en_eq (x y : En) : decide (x = y) = (decide (x.u = y.u) && (decide (x.t = y.t) && (decide (x.x = y.x) && decide (x.d = y.d)))) := by
  rw [Bool.eq_iff_iff]
  simp only [Bool.and_eq_true, decide_eq_true_eq]
  constructor
  · rintro rfl; exact ⟨rfl, rfl, rfl, rfl⟩
  · rintro ⟨h1, h2, h3, h4⟩
    obtain ⟨_, _, _, _, _⟩ := x
    obtain ⟨_, _, _, _, _⟩ := y
    simp only at h1 h2 h3 h4
    subst h1 h2 h3 h4
    rfl
theorem ext3 (e : En) : (encE e).extract 3 35 = bytesC e.d := by
  obtain ⟨u, t, x, d, hd⟩ := e
  unfold encE
  simp only
  have : (Value.string u :: Value.int .i64 t :: Value.string x :: d.map fun (n : Nat) => Value.int .u8 (n : Int)).length = 35 := by simp [hd]
  rw [List.extract_toArray]
  unfold bytesC
  congr 1
  simp [List.extract, hd]
  exact List.take_of_length_le (by simp [hd])
theorem part_u (e : En) (w : World) : (part 9 (encE e) 0).run Tryd.prog w = .ok (.string e.u) w := by
  unfold part
  have ha : (isAgg 9).run Tryd.prog w = .ok false w := by kernel_rfl
  simp only [Sem.run_bind, ha, Result.andThen_ok]
  rfl
theorem part_t (e : En) (w : World) : (part 2 (encE e) 1).run Tryd.prog w = .ok (.int .i64 e.t) w := by
  unfold part
  have ha : (isAgg 2).run Tryd.prog w = .ok false w := by kernel_rfl
  simp only [Sem.run_bind, ha, Result.andThen_ok]
  rfl
theorem part_x (e : En) (w : World) : (part 9 (encE e) 2).run Tryd.prog w = .ok (.string e.x) w := by
  unfold part
  have ha : (isAgg 9).run Tryd.prog w = .ok false w := by kernel_rfl
  simp only [Sem.run_bind, ha, Result.andThen_ok]
  rfl
theorem part_d (e : En) (w : World) : (part 22 (encE e) 3).run Tryd.prog w = .ok (.agg (bytesC e.d)) w := by
  unfold part
  have ha : (isAgg 22).run Tryd.prog w = .ok true w := by kernel_rfl
  have hs : (sizeOf 22).run Tryd.prog w = .ok 32 w := by kernel_rfl
  simp only [Sem.run_bind, ha, Result.andThen_ok, if_true, hs, Sem.run_pure, ext3, Nat.reduceAdd]
theorem fields24 : (Tryd.prog.fieldsOf 24).toList.map (fun f => (f.name, f.type, f.offset)) = [("User", 9, 0), ("Tick", 2, 1), ("Text", 9, 2), ("Digest", 22, 3)] := by kernel_rfl
theorem run_eq24 (x y : En) (k : Nat) (w : World) : (Op.equalIn (k + 4) 24 (.agg (encE x)) (.agg (encE y))).run Tryd.prog w = .ok (decide (x = y)) w := by
  rw [run_equalIn_struct w (k + 3) 24 (encE x) (encE y) (by kernel_rfl) (by kernel_rfl), en_eq]
  have hf := fields24
  generalize (Tryd.prog.fieldsOf 24).toList = fs at hf ⊢
  have hl : fs.length = 4 := by have := congrArg List.length hf; simpa using this
  match fs, hl with
  | [f0, f1, f2, f3], _ =>
    simp only [List.map_cons, List.map_nil, List.cons.injEq, Prod.mk.injEq, and_true] at hf
    obtain ⟨⟨n0, t0, o0⟩, ⟨n1, t1, o1⟩, ⟨n2, t2, o2⟩, ⟨n3, t3, o3⟩⟩ := hf
    have hn0 : f0.name ≠ "_" := by rw [n0]; decide
    have hn1 : f1.name ≠ "_" := by rw [n1]; decide
    have hn2 : f2.name ≠ "_" := by rw [n2]; decide
    have hn3 : f3.name ≠ "_" := by rw [n3]; decide
    have ht : (x.t == y.t) = decide (x.t = y.t) := by rw [Bool.eq_iff_iff, beq_iff_eq, decide_eq_true_iff]
    simp only [Op.eqFields, if_pos hn0, if_pos hn1, if_pos hn2, if_pos hn3, t0, t1, t2, t3, o0, o1, o2, o3, Sem.run_bind, part_u, part_t, part_x, part_d, Result.andThen_ok, Sem.run_ite, Sem.run_pure,
      run_equalIn_string _ (k + 2) 9 _ _ Tryd.underlying9, run_equalIn_int _ (k + 2) 2 .i64 .i64 _ _ Tryd.underlying2, run_eq22 x.d y.d x.hd y.hd (k + 1), bytes_eq, ht]
    by_cases h0 : x.u = y.u <;> by_cases h1 : x.t = y.t <;> by_cases h2 : x.x = y.x <;> by_cases h3 : x.d = y.d <;> simp [h0, h1, h2, h3]
theorem guardE : Tryd.prog.eqGuardType Tryd.prog.depth 24 = false := by kernel_rfl
theorem exec_neE {o : Oper} {a : Act} (x y : Operand) (ho : o.op = .binOp .neq 24 x y 24) (u v : En) (hx : a.eval x = .agg (encE u)) (hy : a.eval y = .agg (encE v)) (w : World) : (execOp a.eval o).run Tryd.prog w = .ok (.value (.bool (!decide (u = v)))) w := by
  unfold execOp
  simp only [ho, hx, hy, Sem.run_bind, run_eqGuard_agg w .neq 24 x y _ _ guardE, Result.andThen_ok, run_neq_struct, run_eq24 u v 9996 w, Sem.run_pure]
end Go.Proofs.YtadopkifpfmhcaaDoor
namespace Go.Proofs.YtadopkifpfmhcaaDoor
open Go.RowKit
open Sha (vals Bytes Lies bytesC sumB)
open Go.Proofs.YtadopkifpfmhcaaDoorW.PrintWords Go.Proofs.YtadopkifpfmhcaaDoorW.PrintLast Go.Proofs.YtadopkifpfmhcaaDoorW.PrintMore
theorem ens_ext {a b : List En} (hl : a.length = b.length) (h : ∀ j, j < a.length → a.getD j default = b.getD j default) : a = b := by
  refine List.ext_getElem hl fun i h1 h2 => ?_
  have := h i h1
  simpa [List.getD_eq_getElem?_getD, h1, h2] using this
set_option maxRecDepth 100000 in
set_option maxHeartbeats 8000000 in
theorem Same_calls (a b : List En) (A : Option Addr) (na ca : Nat) (hna : na = a.length) (hna9 : na ≤ 1000000000) (B : Option Addr) (nb cb : Nat) (hnb : nb = b.length) (hnb9 : nb ≤ 1000000000) (w : World) (hya : Rw 35 encE w (.slice A na ca) a) (hyb : Rw 35 encE w (.slice B nb cb) b) :
    Calls Tryd.prog 29 #[.slice A na ca, .slice B nb cb] w fun e w' => e = .returned (.bool (decide (a = b))) ∧ Below w.heap.size w w' := by
  have hna' : Hid (na = a.length) := hna
  have hnb' : Hid (nb = b.length) := hnb
  have hyaw : Hid (Rw 35 encE w (.slice A na ca) a) := hya
  have hybw : Hid (Rw 35 encE w (.slice B nb cb) b) := hyb
  have hBw : Hid (Below w.heap.size w w) := Below.refl _ _
  obtain ⟨R, hR⟩ : ∃ R, R = decide (a = b) := ⟨_, rfl⟩
  rw [← hR]
  have hRH : Hid (R = decide (a = b)) := hR
  clear hna hnb hya hyb hR
  by_cases hl : na = nb
  case neg =>
    have hn : R = false := by rw [hRH.out]; exact decide_eq_false (fun e => hl (by rw [hna'.out, hnb'.out, e]))
    subst hn
    have hI : ((na : Int) != (nb : Int)) = true := by rw [bne_iff_ne]; omega
    have hI2 : ¬ (na : Int) = (nb : Int) := by omega
    clear hRH hna' hnb'
    go_enter Tryd.func29, Tryd.ntmps29
    go_wp2_with fail
    go_ret
    exact ⟨rfl, hBw.out⟩
  case pos =>
  have hnbH : Hid (na = b.length) := by show _ = _; rw [hl]; exact hnb'.out
  subst hl
  clear hnb'
  go_enter Tryd.func29, Tryd.ntmps29
  go_wp2_with fail
  go_loopw [5] (fun p wr => ∃ j : Nat, j ≤ na ∧ p = .int .i64 (j : Int) ∧ Hid (∀ i, i < j → a.getD i default = b.getD i default) ∧ Hid (Below w.heap.size w wr)) (fun p _ => na - (intOf p).toNat)
  case atStart => exact ⟨0, by omega, rfl, fun i h => by omega, hBw⟩
  case round =>
    obtain ⟨j, hj, rfl, hall, hbw⟩ := hrel
    obtain ⟨wo, rfl⟩ : ∃ v : World, v = wr := ⟨_, rfl⟩
    by_cases h1 : j < na
    case neg =>
      have hI : ¬ (j : Int) < (na : Int) := by omega
      have hn : R = true := by
        rw [hRH.out]
        refine decide_eq_true (ens_ext (by rw [← hna'.out, ← hnbH.out]) (fun i hi => hall.out i (by have := hna'.out; omega)))
      subst hn
      have hF := hbw
      clear hRH hall hbw hBw
      go_wp2_with fail
      go_ret
      exact ⟨rfl, hF.out⟩
    case pos =>
    have hI : (j : Int) < (na : Int) := by omega
    obtain ⟨g, o, rfl, hnc, hg, hel⟩ := hyaw.out.elem j (by rw [← hna'.out]; exact h1)
    obtain ⟨g2, o2, rfl, hnc2, hg2, hel2⟩ := hybw.out.elem j (by rw [← hnbH.out]; exact h1)
    obtain ⟨x, hx⟩ : ∃ x, x = a.getD j default := ⟨_, rfl⟩
    obtain ⟨y, hy⟩ : ∃ y, y = b.getD j default := ⟨_, rfl⟩
    rw [← hx] at hel
    rw [← hy] at hel2
    have hxH : Hid (x = a.getD j default) := hx
    have hyH : Hid (y = b.getD j default) := hy
    have helH : Hid (∀ w', Below w.heap.size w w' → w'.rangeAt g (o + j * 35) (encE x).toList) := fun w' h => range_below hel h hg
    have hel2H : Hid (∀ w', Below w.heap.size w w' → w'.rangeAt g2 (o2 + j * 35) (encE y).toList) := fun w' h => range_below hel2 h hg2
    have hallH : Hid (∀ i, i < j → a.getD i default = b.getD i default) := hall
    have hBwo : Hid (Below w.heap.size w wo) := hbw.out
    clear hx hy hel hel2 hall hbw hg hg2
    obtain ⟨same, hsame⟩ : ∃ s, s = decide (x = y) := ⟨_, rfl⟩
    go_upto_region 6 with fail
    refine wp_normalG ?_
    refine wp_region_held_drew (S := fun w' => Below wo.heap.size wo w') (by kernel_rfl) (Below.refl _ _).drew (fun hS => ?_)
    change wpAnyH _ _ _ _ _ 9 (Array.replicate 9 false) _ _
    generalize hx : wo.drew = y0 at hS ⊢
    clear hx
    refine held_take 0 rfl (by kernel_rfl) (by kernel_rfl) (by kernel_rfl) (.slice (some ⟨g, o, none⟩) na ca) (fun _ _ _ h => nomatch h.1) (by kernel_rfl) (fun w' h => (by kernel_rfl)) hS ?_
    simp only [Act.put, fl1, fl2, fl3, fl4, fl5, fl6]
    refine held_take 1 rfl (by kernel_rfl) (by kernel_rfl) (by kernel_rfl) (.int .i64 (j : Int)) (fun _ _ _ h => nomatch h.1) (by kernel_rfl) (fun w' h => (by kernel_rfl)) hS ?_
    simp only [Act.put, fl1, fl2, fl3, fl4, fl5, fl6]
    refine held_take 2 rfl (by kernel_rfl) (by kernel_rfl) (by kernel_rfl) (.pointer (some ⟨g, o + j * 35, none⟩)) (fun _ _ _ h => nomatch h.1) (by kernel_rfl) (fun w' h => exec_index un34 sz34 _ _ rfl g o na ca j (by kernel_rfl) (by kernel_rfl) h1 w') hS ?_
    simp only [Act.put, fl1, fl2, fl3, fl4, fl5, fl6]
    refine held_take 3 rfl (by kernel_rfl) (by kernel_rfl) (by kernel_rfl) (.agg (encE x)) (fun _ _ _ h => nomatch h.1) (by kernel_rfl) (fun w' h => load_en w' _ rfl g (o + j * 35) (by kernel_rfl) x (helH.out w' (hBwo.out.trans (h.mono hBwo.out.size)))) hS ?_
    simp only [Act.put, fl1, fl2, fl3, fl4, fl5, fl6]
    refine held_take 4 rfl (by kernel_rfl) (by kernel_rfl) (by kernel_rfl) (.slice (some ⟨g2, o2, none⟩) na cb) (fun _ _ _ h => nomatch h.1) (by kernel_rfl) (fun w' h => (by kernel_rfl)) hS ?_
    simp only [Act.put, fl1, fl2, fl3, fl4, fl5, fl6]
    refine held_take 5 rfl (by kernel_rfl) (by kernel_rfl) (by kernel_rfl) (.int .i64 (j : Int)) (fun _ _ _ h => nomatch h.1) (by kernel_rfl) (fun w' h => (by kernel_rfl)) hS ?_
    simp only [Act.put, fl1, fl2, fl3, fl4, fl5, fl6]
    refine held_take 6 rfl (by kernel_rfl) (by kernel_rfl) (by kernel_rfl) (.pointer (some ⟨g2, o2 + j * 35, none⟩)) (fun _ _ _ h => nomatch h.1) (by kernel_rfl) (fun w' h => exec_index un34 sz34 _ _ rfl g2 o2 na cb j (by kernel_rfl) (by kernel_rfl) h1 w') hS ?_
    simp only [Act.put, fl1, fl2, fl3, fl4, fl5, fl6]
    refine held_take 7 rfl (by kernel_rfl) (by kernel_rfl) (by kernel_rfl) (.agg (encE y)) (fun _ _ _ h => nomatch h.1) (by kernel_rfl) (fun w' h => load_en w' _ rfl g2 (o2 + j * 35) (by kernel_rfl) y (hel2H.out w' (hBwo.out.trans (h.mono hBwo.out.size)))) hS ?_
    simp only [Act.put, fl1, fl2, fl3, fl4, fl5, fl6]
    refine held_take 8 rfl (by kernel_rfl) (by kernel_rfl) (by kernel_rfl) (.bool (!same)) (fun _ _ _ h => nomatch h.1) (by kernel_rfl) (fun w' h => (exec_neE _ _ rfl x y (by kernel_rfl) (by kernel_rfl) w').trans (by rw [hsame])) hS ?_
    simp only [Act.put, fl1, fl2, fl3, fl4, fl5, fl6]
    have hBy0 : Hid (Below w.heap.size w y0) := hBwo.out.trans (hS.mono hBwo.out.size)
    clear hS hBwo helH hel2H
    refine wpAnyH_done (by kernel_rfl) ?_ _
    refine ⟨rfl, ?_⟩
    rename_i hK
    refine hK _ _ ?_
    clear hK
    cases same with
    | false =>
      have hn : R = false := by
        rw [hRH.out]
        refine decide_eq_false (fun e => of_decide_eq_false hsame.symm (by rw [hxH.out, hyH.out, e]))
      subst hn
      clear hRH hallH hsame hBw hyaw hybw
      go_wp2_with fail
      go_ret
      exact ⟨rfl, hBy0.out⟩
    | true =>
      have hall2 : Hid (∀ i, i < j + 1 → a.getD i default = b.getD i default) := fun i hi => by
        by_cases e : i < j
        · exact hallH.out i e
        · obtain rfl : i = j := by omega
          rw [← hxH.out, ← hyH.out]; exact of_decide_eq_true hsame.symm
      clear hallH hsame hxH hyH
      go_wp2_with fail
      go_roundw
      case rel => exact ⟨j + 1, by omega, by go_num, hall2, hBy0⟩
      case measure => simp [intOf]; omega
end Go.Proofs.YtadopkifpfmhcaaDoor
namespace Go.Proofs.YtadopkifpfmhcaaDoor
open Go.RowKit
open Sha (vals Bytes Lies bytesC sumB)
theorem numB_succ (sz n : Nat) : numB (sz + 1) n = numB sz (n / 256) ++ [n % 256] := by
  unfold numB
  rw [List.range_succ, List.map_append]
  congr 1
  · refine List.map_congr_left fun i hi => ?_
    have h := List.mem_range.1 hi
    have e : 8 * (sz + 1 - 1 - i) = 8 + 8 * (sz - 1 - i) := by omega
    rw [e, Nat.pow_add, ← Nat.div_div_eq_div_mul]
  · simp
theorem numB_inj : ∀ (sz n m : Nat), n < 256 ^ sz → m < 256 ^ sz → numB sz n = numB sz m → n = m
  | 0, n, m, h1, h2, _ => by simp at h1 h2; omega
  | sz + 1, n, m, h1, h2, h => by
    rw [numB_succ, numB_succ] at h
    have h3 := List.append_inj' h rfl
    have e1 := numB_inj sz (n / 256) (m / 256) (by rw [Nat.pow_succ] at h1; omega) (by rw [Nat.pow_succ] at h2; omega) h3.1
    have e2 : n % 256 = m % 256 := by have := h3.2; simpa using this
    omega
theorem bytesN_inj {a b : ByteArray} (h : bytesN a = bytesN b) : a = b := by
  unfold bytesN at h
  have h2 : a.data.toList = b.data.toList := by
    have h3 := congrArg (List.map UInt8.ofNat) h
    have e : ∀ l : List UInt8, (l.map UInt8.toNat).map UInt8.ofNat = l := fun l => by
      rw [List.map_map]
      exact (List.map_congr_left (g := id) fun x _ => by simp [Function.comp]).trans (List.map_id _)
    rwa [e, e] at h3
  obtain ⟨⟨x⟩⟩ := a
  obtain ⟨⟨y⟩⟩ := b
  simpa using h2
theorem good_parts {e : En} (h : goodE e = true) : e.u.size ≤ 16 ∧ 0 ≤ e.t ∧ e.t ≤ 1099511627776 ∧ e.x.size ≤ 4096 := by
  simp only [goodE, Pure.nameB, Bool.and_eq_true, decide_eq_true_eq] at h
  exact ⟨h.1.2.2.2.1, h.2⟩
theorem entB_inj {i j : Nat} {e f : En} (he : goodE e = true) (hf : goodE f = true) (hi : i < 1000000) (hj : j < 1000000) (h : entB i e = entB j f) : i = j ∧ e = f := by
  obtain ⟨he1, he2, he3, he4⟩ := good_parts he
  obtain ⟨hf1, hf2, hf3, hf4⟩ := good_parts hf
  unfold entB at h
  simp only [List.append_assoc] at h
  have h1 := List.append_inj h (by rw [numB_len, numB_len])
  have hij := numB_inj 8 i j (by omega) (by omega) h1.1
  have h2 := List.append_inj h1.2 rfl
  have hu : e.u.size = f.u.size := by have := h2.1; simp at this; omega
  have h3 := List.append_inj h2.2 (by rw [bytesN_len, bytesN_len, hu])
  have h4 := List.append_inj h3.2 (by rw [numB_len, numB_len])
  have ht := numB_inj 8 e.t.toNat f.t.toNat (by omega) (by omega) h4.1
  have h5 := List.append_inj h4.2 (by rw [numB_len, numB_len])
  have hx := numB_inj 4 e.x.size f.x.size (by omega) (by omega) h5.1
  have h6 := List.append_inj h5.2 (by rw [bytesN_len, bytesN_len, hx])
  refine ⟨hij, ?_⟩
  have e1 := bytesN_inj h3.1
  have e2 : e.t = f.t := by omega
  have e3 := bytesN_inj h6.1
  have e4 := h6.2
  obtain ⟨_, _, _, _, _⟩ := e
  obtain ⟨_, _, _, _, _⟩ := f
  simp only at e1 e2 e3 e4
  subst e1 e2 e3 e4
  rfl
theorem right_good {cut : Int} {l : List En} (h : rightS cut l = true) : ∀ x ∈ l, goodE x = true := fun x hx => by
  simp only [rightS, badsB, Bool.and_eq_true, decide_eq_true_eq, Bool.not_eq_true'] at h
  have := List.any_eq_false.1 h.2.2 x hx
  simpa using this
theorem bytesS_good {i : Nat} {e : En} (h : goodE e = true) : (bytesS (i : Int) e).1 = entB i e := by
  unfold bytesS
  rw [if_neg (by rw [h]; simp), Int.toNat_natCast]
theorem textS_parts {m : Nat} (hm : m ≤ 32) {a b : List En} (ha : ∀ x ∈ a, goodE x = true) (hb : ∀ x ∈ b, goodE x = true) {i j : Nat} (hi : i < a.length) (hj : j < b.length) (hla : a.length ≤ 1000000) (hlb : b.length ≤ 1000000)
    (h : textS m a i = textS m b j) : headP m a i = headP m b j ∧ i = j ∧ a.getD i default = b.getD j default := by
  unfold textS at h
  have h1 := List.append_inj h (by rw [headP_len hm, headP_len hm])
  have ga : goodE (a.getD i default) = true := ha _ (by simp [hi])
  have gb : goodE (b.getD j default) = true := hb _ (by simp [hj])
  rw [bytesS_good ga, bytesS_good gb] at h1
  obtain ⟨h2, h3⟩ := entB_inj ga gb (by omega) (by omega) h1.2
  exact ⟨h1.1, h2, h3⟩
theorem headP_next (m : Nat) (l : List En) (k : Nat) : headP m l (k + 1) = (sumB (textS m l k)).take m := rfl
/-- The same lists show none. -/
theorem clashK_same (m : Nat) (a : List En) : clashK m a a = none := clashK_none fun i hi => by unfold pairK; exact decide_eq_true rfl
theorem clashK_nil {m : Nat} {a b : List En} (h : a = [] ∨ b = []) : clashK m a b = none := clashK_none fun i hi => by
  rcases h with rfl | rfl <;> simp at hi
theorem clashK_get {m : Nat} {a b : List En} {j : Nat} (h : clashK m a b = some j) : j < a.length ∧ j < b.length ∧ pairK m a b j = false ∧ ∀ i, i < j → pairK m a b i = true := by
  unfold clashK at h
  rw [List.find?_range_eq_some] at h
  obtain ⟨h1, h2, h3⟩ := h
  have := List.mem_range.1 h2
  exact ⟨by omega, by omega, by simpa using h1, fun i hi => by simpa using h3 i hi⟩
/-- Unlike lists with one head show two. -/
theorem clash_found {m : Nat} (hm : m ≤ 32) {a b : List En} (ha : ∀ x ∈ a, goodE x = true) (hb : ∀ x ∈ b, goodE x = true) (hla : a.length ≤ 1000000) (hlb : b.length ≤ 1000000) (hh : headP m a a.length = headP m b b.length) (hne : a ≠ b) (h0 : a ≠ []) (h1 : b ≠ []) :
    ∃ j, clashK m a b = some j ∧ textS m a (a.length - 1 - j) ≠ textS m b (b.length - 1 - j) ∧ (sumB (textS m a (a.length - 1 - j))).take m = (sumB (textS m b (b.length - 1 - j))).take m := by
  have la : 0 < a.length := List.length_pos_iff.2 h0
  have lb : 0 < b.length := List.length_pos_iff.2 h1
  cases hk : clashK m a b with
  | none =>
    exfalso
    have hall : ∀ i, i < min a.length b.length → pairK m a b i = true := fun i hi => by
      unfold clashK at hk
      rw [List.find?_eq_none] at hk
      have := hk i (List.mem_range.2 hi)
      simpa using this
    have p0 := of_decide_eq_true (hall 0 (by omega))
    have q0 := (textS_parts hm ha hb (by omega) (by omega) hla hlb p0).2.1
    have hl : a.length = b.length := by omega
    refine hne (ens_ext hl fun j hj => ?_)
    have p := of_decide_eq_true (hall (a.length - 1 - j) (by omega))
    have e1 : a.length - 1 - (a.length - 1 - j) = j := by omega
    have e2 : b.length - 1 - (a.length - 1 - j) = j := by omega
    rw [e1, e2] at p
    exact (textS_parts hm ha hb hj (by omega) hla hlb p).2.2
  | some j =>
    obtain ⟨g1, g2, g3, g4⟩ := clashK_get hk
    refine ⟨j, rfl, of_decide_eq_false g3, ?_⟩
    rw [← headP_next, ← headP_next]
    by_cases hj : j = 0
    · subst hj
      have e1 : a.length - 1 - 0 + 1 = a.length := by omega
      have e2 : b.length - 1 - 0 + 1 = b.length := by omega
      rw [e1, e2]; exact hh
    · have p := of_decide_eq_true (g4 (j - 1) (by omega))
      have e1 : a.length - 1 - (j - 1) = a.length - 1 - j + 1 := by omega
      have e2 : b.length - 1 - (j - 1) = b.length - 1 - j + 1 := by omega
      rw [e1, e2] at p
      exact (textS_parts hm ha hb (by omega) (by omega) hla hlb p).1
end Go.Proofs.YtadopkifpfmhcaaDoor
namespace Go.Proofs.YtadopkifpfmhcaaDoor
open Go.RowKit
open Sha (vals Bytes Lies bytesC sumB)
open Go.Proofs.YtadopkifpfmhcaaDoorW.PrintWords Go.Proofs.YtadopkifpfmhcaaDoorW.PrintLast Go.Proofs.YtadopkifpfmhcaaDoorW.PrintMore
end Go.Proofs.YtadopkifpfmhcaaDoor
namespace Go.Proofs.YtadopkifpfmhcaaDoor
open Go.RowKit
open Sha (vals Bytes Lies bytesC sumB)
open Go.Proofs.YtadopkifpfmhcaaDoorW.PrintWords Go.Proofs.YtadopkifpfmhcaaDoorW.PrintLast Go.Proofs.YtadopkifpfmhcaaDoorW.PrintMore
theorem exec_ne8 {o : Oper} {a : Act} {w : World} (x y : Operand) (ho : o.op = .binOp .neq 5 x y 5) (u v : Int) (hx : a.eval x = .int .u8 u) (hy : a.eval y = .int .u8 v) (b : Bool) (hb : (u != v) = b) : (execOp a.eval o).run Tryd.prog w = .ok (.value (.bool b)) w := by
  subst hb; unfold execOp
  simp [ho, hx, hy, eqGuard, binOp_neq]
theorem headS_ok {cut : Int} {l : List En} {h : List Nat} {e : Nat} (hh : headS cut l = (h, e)) : (e = 0 ∧ rightS cut l = true ∧ h = headP cut.toNat l l.length) ∨ (e ≠ 0 ∧ rightS cut l = false) := by
  unfold headS at hh
  split at hh
  · rename_i hr
    injection hh with h1 h2
    exact .inl ⟨h2.symm, hr, h1.symm⟩
  · rename_i hr
    injection hh with h1 h2
    exact .inr ⟨by omega, by simpa using hr⟩
theorem clashR_no {cut : Int} {a b : List En} {g h : List Nat} {e f : Nat} (ha : headS cut a = (g, e)) (hb : headS cut b = (h, f)) (hn : ¬ (e = 0 ∧ f = 0 ∧ g = h)) : clashR cut a b = ([], [], false) := by
  unfold clashR
  rw [if_neg]
  rintro ⟨h1, h2, h3⟩
  rcases headS_ok ha with ⟨x1, _, x3⟩ | ⟨_, x2⟩
  · rcases headS_ok hb with ⟨y1, _, y3⟩ | ⟨_, y2⟩
    · exact hn ⟨x1, y1, by rw [x3, y3, h3]⟩
    · rw [y2] at h2; cases h2
  · rw [x2] at h1; cases h1
theorem clashR_yes {m : Nat} {a b : List En} {g h : List Nat} (ha : headS (m : Int) a = (g, 0)) (hb : headS (m : Int) b = (h, 0)) (hg : g = h) : clashR (m : Int) a b = (match clashK m a b with | some j => (textS m a (a.length - 1 - j), textS m b (b.length - 1 - j), true) | none => ([], [], false)) ∧ rightS (m : Int) a = true ∧ rightS (m : Int) b = true ∧ headP m a a.length = headP m b b.length := by
  rcases headS_ok ha with ⟨_, x2, x3⟩ | ⟨x1, _⟩
  · rcases headS_ok hb with ⟨_, y2, y3⟩ | ⟨y1, _⟩
    · rw [Int.toNat_natCast] at x3 y3
      have h3 : headP m a a.length = headP m b b.length := by rw [← x3, ← y3, hg]
      refine ⟨?_, x2, y2, h3⟩
      unfold clashR
      rw [if_pos ⟨x2, y2, by rw [Int.toNat_natCast]; exact h3⟩, Int.toNat_natCast]
      first | done | (cases clashK m a b <;> rfl)
    · exact absurd rfl y1
  · exact absurd rfl x1
set_option maxRecDepth 100000 in
set_option maxHeartbeats 32000000 in
theorem lfound_calls (cut : Int) (a b : List En) (hoka : ∀ x ∈ a, x.ok) (hokb : ∀ x ∈ b, x.ok) (A : Option Addr) (na ca : Nat) (hna : na = a.length) (B : Option Addr) (nb cb : Nat) (hnb : nb = b.length) (w : World) (ht : Tab w) (hya : Rw 35 encE w (.slice A na ca) a) (hyb : Rw 35 encE w (.slice B nb cb) b) :
    Calls Tryd.prog 9 #[.int .i64 cut, .slice A na ca, .slice B nb cb] w fun z w' => z = .returned (.bool true) ∧ Below w.heap.size w w' := by
  have htH : Hid (Tab w) := ht
  have hyaw : Hid (Rw 35 encE w (.slice A na ca) a) := hya
  have hybw : Hid (Rw 35 encE w (.slice B nb cb) b) := hyb
  have hBw : Hid (Below w.heap.size w w) := Below.refl _ _
  have hokaH : Hid (∀ x ∈ a, x.ok) := hoka
  have hokbH : Hid (∀ x ∈ b, x.ok) := hokb
  have hna' : Hid (na = a.length) := hna
  have hnb' : Hid (nb = b.length) := hnb
  obtain ⟨p, q, r, hR⟩ : ∃ p q r, clashR cut a b = (p, q, r) := ⟨_, _, _, rfl⟩
  have hRH : Hid (clashR cut a b = (p, q, r)) := hR
  obtain ⟨ga, ea, hGa⟩ : ∃ p q, headS cut a = (p, q) := ⟨_, _, rfl⟩
  have hGaH : Hid (headS cut a = (ga, ea)) := hGa
  obtain ⟨gb, eb, hGb⟩ : ∃ p q, headS cut b = (p, q) := ⟨_, _, rfl⟩
  have hGbH : Hid (headS cut b = (gb, eb)) := hGb
  have hla : Hid (∀ x ∈ ga, x < 256) := by have := (headS_fine cut a).1; rw [hGa] at this; exact this
  have hlb : Hid (∀ x ∈ gb, x < 256) := by have := (headS_fine cut b).1; rw [hGb] at this; exact this
  clear hya hyb hoka hokb hR ht hna hnb hGa hGb
  go_enter Tryd.func9, Tryd.ntmps9
  go_upto_region 1 with fail
  refine wp_region_lit ?_
  refine sg_call (by kernel_rfl) 13 #[] (by kernel_rfl) (R := fun v w' => v = .bool true ∧ Below w.heap.size w w') ((fixed_calls w htH.out.1 htH.out).mono fun e w' h => ⟨_, h.1, rfl, h.2⟩) ?_
  rintro _ w1 ⟨rfl, hb⟩
  simp only [Act.put, fl1, fl2, fl3]
  have hBw1 : Hid (Below w.heap.size w w1) := hBw.out.trans ((hb).mono (hBw.out).size)
  have hyaw1 : Hid (Rw 35 encE w1 (.slice A na ca) a) := (hyaw.out).below hb
  have hybw1 : Hid (Rw 35 encE w1 (.slice B nb cb) b) := (hybw.out).below hb
  clear hBw hyaw hybw
  clear hb
  refine sl_run rfl (.bool false) w1 (by kernel_rfl) ?_
  simp only [Act.put, fl1, fl2, fl3]
  refine wpList_nil ?_
  by_cases h20 : 20 < na
  · have hI : (na : Int) > 20 := by omega
    have hF := hBw1
    clear hBw1 hyaw1 hybw1
    go_wp2_with fail
    go_ret
    exact ⟨rfl, hF.out⟩
  have hI : ¬ (na : Int) > 20 := by omega
  by_cases h21 : 20 < nb
  · have hI2 : (nb : Int) > 20 := by omega
    have hF := hBw1
    clear hBw1 hyaw1 hybw1
    go_wp2_with fail
    go_ret
    exact ⟨rfl, hF.out⟩
  have hI2 : ¬ (nb : Int) > 20 := by omega
  have hna9 : na ≤ 20 := by omega
  have hnb9 : nb ≤ 20 := by omega
  clear h20 h21
  go_upto_region 5 with fail
  refine wp_region_lit ?_
  refine sl_run rfl (.int .i64 cut) w1 (by kernel_rfl) ?_
  simp only [Act.put, fl1, fl2, fl3]
  refine sl_run rfl (.slice A na ca) w1 (by kernel_rfl) ?_
  simp only [Act.put, fl1, fl2, fl3]
  refine sg_call (by kernel_rfl) 16 #[.int .i64 cut, .slice A na ca] (by kernel_rfl) (R := fun v w' => ∃ u, v = .tuple #[u, .int .i64 (ea : Int)] ∧ Bytes w' u ga ∧ Below w1.heap.size w1 w') ((Head_calls cut a hokaH.out _ na ca hna'.out (by omega) w1 hyaw1.out).mono fun e w' h => by
    obtain ⟨v, h1, h2, h3⟩ := h
    rw [hGaH.out] at h1 h2
    exact ⟨_, h1, v, rfl, h2, h3⟩) ?_
  rintro _ w2 ⟨ua, rfl, hby, hb⟩
  simp only [Act.put, fl1, fl2, fl3]
  have hBw2 : Hid (Below w.heap.size w w2) := hBw1.out.trans ((hb).mono (hBw1.out).size)
  have hyaw2 : Hid (Rw 35 encE w2 (.slice A na ca) a) := (hyaw1.out).below hb
  have hybw2 : Hid (Rw 35 encE w2 (.slice B nb cb) b) := (hybw1.out).below hb
  clear hBw1 hyaw1 hybw1
  have huaw2 : Hid (Bytes w2 ua ga) := hby
  clear hb hby
  refine sl_run rfl (.tuple #[ua, .int .i64 (ea : Int)]) w2 (by kernel_rfl) ?_
  simp only [Act.put, fl1, fl2, fl3]
  refine sl_run rfl (ua) w2 (by kernel_rfl) ?_
  simp only [Act.put, fl1, fl2, fl3]
  refine sl_run rfl (.int .i64 (ea : Int)) w2 (by kernel_rfl) ?_
  simp only [Act.put, fl1, fl2, fl3]
  refine sl_run rfl (ua) w2 (by kernel_rfl) ?_
  simp only [Act.put, fl1, fl2, fl3]
  refine sl_run rfl (.int .i64 (ea : Int)) w2 (by kernel_rfl) ?_
  simp only [Act.put, fl1, fl2, fl3]
  refine wpList_nil ?_
  go_upto_region 6 with fail
  refine wp_region_lit ?_
  refine sl_run rfl (.int .i64 cut) w2 (by kernel_rfl) ?_
  simp only [Act.put, fl1, fl2, fl3]
  refine sl_run rfl (.slice B nb cb) w2 (by kernel_rfl) ?_
  simp only [Act.put, fl1, fl2, fl3]
  refine sg_call (by kernel_rfl) 16 #[.int .i64 cut, .slice B nb cb] (by kernel_rfl) (R := fun v w' => ∃ u, v = .tuple #[u, .int .i64 (eb : Int)] ∧ Bytes w' u gb ∧ Below w2.heap.size w2 w') ((Head_calls cut b hokbH.out _ nb cb hnb'.out (by omega) w2 hybw2.out).mono fun e w' h => by
    obtain ⟨v, h1, h2, h3⟩ := h
    rw [hGbH.out] at h1 h2
    exact ⟨_, h1, v, rfl, h2, h3⟩) ?_
  rintro _ w3 ⟨ub, rfl, hby, hb⟩
  simp only [Act.put, fl1, fl2, fl3]
  have hBw3 : Hid (Below w.heap.size w w3) := hBw2.out.trans ((hb).mono (hBw2.out).size)
  have hyaw3 : Hid (Rw 35 encE w3 (.slice A na ca) a) := (hyaw2.out).below hb
  have hybw3 : Hid (Rw 35 encE w3 (.slice B nb cb) b) := (hybw2.out).below hb
  have huaw3 : Hid (Bytes w3 ua ga) := (huaw2.out).below hb
  clear hBw2 hyaw2 hybw2 huaw2
  have hubw3 : Hid (Bytes w3 ub gb) := hby
  clear hb hby
  refine sl_run rfl (.tuple #[ub, .int .i64 (eb : Int)]) w3 (by kernel_rfl) ?_
  simp only [Act.put, fl1, fl2, fl3]
  refine sl_run rfl (ub) w3 (by kernel_rfl) ?_
  simp only [Act.put, fl1, fl2, fl3]
  refine sl_run rfl (.int .i64 (eb : Int)) w3 (by kernel_rfl) ?_
  simp only [Act.put, fl1, fl2, fl3]
  refine sl_run rfl (ub) w3 (by kernel_rfl) ?_
  simp only [Act.put, fl1, fl2, fl3]
  refine sl_run rfl (.int .i64 (eb : Int)) w3 (by kernel_rfl) ?_
  simp only [Act.put, fl1, fl2, fl3]
  refine wpList_nil ?_
  go_upto_region 7 with fail
  refine wp_region_lit ?_
  refine sl_run rfl (.int .i64 cut) w3 (by kernel_rfl) ?_
  simp only [Act.put, fl1, fl2, fl3]
  refine sl_run rfl (.slice A na ca) w3 (by kernel_rfl) ?_
  simp only [Act.put, fl1, fl2, fl3]
  refine sl_run rfl (.slice B nb cb) w3 (by kernel_rfl) ?_
  simp only [Act.put, fl1, fl2, fl3]
  refine sg_call (by kernel_rfl) 27 #[.int .i64 cut, .slice A na ca, .slice B nb cb] (by kernel_rfl) (R := fun z w' => ∃ u v, z = .tuple #[u, v, .bool r] ∧ Bytes w' u p ∧ Bytes w' v q ∧ Below w3.heap.size w3 w') ((Clash_calls cut a b hokaH.out hokbH.out A na ca hna'.out (by omega) B nb cb hnb'.out (by omega) w3 hyaw3.out hybw3.out).mono fun e w' h => by
    obtain ⟨u, v, h1, h2, h3, h4⟩ := h
    rw [hRH.out] at h1 h2 h3
    exact ⟨_, h1, u, v, rfl, h2, h3, h4⟩) ?_
  rintro _ w4 ⟨x1, x2, rfl, hbu, hbv, hb⟩
  simp only [Act.put, fl1, fl2, fl3]
  have hBw4 : Hid (Below w.heap.size w w4) := hBw3.out.trans ((hb).mono (hBw3.out).size)
  have hyaw4 : Hid (Rw 35 encE w4 (.slice A na ca) a) := (hyaw3.out).below hb
  have hybw4 : Hid (Rw 35 encE w4 (.slice B nb cb) b) := (hybw3.out).below hb
  have huaw4 : Hid (Bytes w4 ua ga) := (huaw3.out).below hb
  have hubw4 : Hid (Bytes w4 ub gb) := (hubw3.out).below hb
  clear hBw3 hyaw3 hybw3 huaw3 hubw3
  have hx1w4 : Hid (Bytes w4 x1 p) := hbu
  have hx2w4 : Hid (Bytes w4 x2 q) := hbv
  clear hb hbu hbv
  refine sl_run rfl (.tuple #[x1, x2, .bool r]) w4 (by kernel_rfl) ?_
  simp only [Act.put, fl1, fl2, fl3]
  refine sl_run rfl (x1) w4 (by kernel_rfl) ?_
  simp only [Act.put, fl1, fl2, fl3]
  refine sl_run rfl (x2) w4 (by kernel_rfl) ?_
  simp only [Act.put, fl1, fl2, fl3]
  refine sl_run rfl (.bool r) w4 (by kernel_rfl) ?_
  simp only [Act.put, fl1, fl2, fl3]
  refine sl_run rfl (x1) w4 (by kernel_rfl) ?_
  simp only [Act.put, fl1, fl2, fl3]
  refine sl_run rfl (x2) w4 (by kernel_rfl) ?_
  simp only [Act.put, fl1, fl2, fl3]
  refine sl_run rfl (.bool r) w4 (by kernel_rfl) ?_
  simp only [Act.put, fl1, fl2, fl3]
  refine wpList_nil ?_
  go_upto_region 8 with fail
  refine wp_region_lit ?_
  by_cases he : ea = 0
  case neg =>
    refine sl_run rfl (.int .i64 (ea : Int)) w4 (by kernel_rfl) ?_
    simp only [Act.put, fl1, fl2, fl3]
    refine sl_run rfl (.bool true) w4 (exec_neI 26 _ _ rfl (ea : Int) 0 (by kernel_rfl) (by kernel_rfl) true (by rw [bne_iff_ne]; omega)) ?_
    simp only [Act.put, fl1, fl2, fl3]
    refine sl_run rfl (.bool true) w4 (by kernel_rfl) ?_
    simp only [Act.put, fl1, fl2, fl3]
    refine wpList_skip ?hw ?_
    case hw => kernel_rfl
    simp only [Act.put, fl1, fl2, fl3]
    refine wpList_skip ?hw ?_
    case hw => kernel_rfl
    simp only [Act.put, fl1, fl2, fl3]
    refine sl_run rfl (.bool true) w4 (by kernel_rfl) ?_
    simp only [Act.put, fl1, fl2, fl3]
    refine sl_run rfl (.bool true) w4 (by kernel_rfl) ?_
    simp only [Act.put, fl1, fl2, fl3]
    refine wpList_skip ?hw ?_
    case hw => kernel_rfl
    simp only [Act.put, fl1, fl2, fl3]
    refine wpList_skip ?hw ?_
    case hw => kernel_rfl
    simp only [Act.put, fl1, fl2, fl3]
    refine wpList_skip ?hw ?_
    case hw => kernel_rfl
    simp only [Act.put, fl1, fl2, fl3]
    refine wpList_skip ?hw ?_
    case hw => kernel_rfl
    simp only [Act.put, fl1, fl2, fl3]
    refine wpList_skip ?hw ?_
    case hw => kernel_rfl
    simp only [Act.put, fl1, fl2, fl3]
    refine sl_run rfl (.bool true) w4 (by kernel_rfl) ?_
    simp only [Act.put, fl1, fl2, fl3]
    refine wpList_nil ?_
    have hno := clashR_no hGaH.out hGbH.out (by omega)
    rw [hRH.out] at hno
    injection hno with q1 q2
    injection q2 with q2 q3
    subst q1 q2 q3
    obtain ⟨Ax, cx, rfl⟩ := hx1w4.out.form
    obtain ⟨Ay, cy, rfl⟩ := hx2w4.out.form
    have hF := hBw4
    clear hRH hGaH hGbH hBw4 hyaw4 hybw4 huaw4 hubw4 hx1w4 hx2w4
    go_wp2_with fail
    go_ret
    exact ⟨rfl, hF.out⟩
  case pos =>
  by_cases hf : eb = 0
  case neg =>
    refine sl_run rfl (.int .i64 (ea : Int)) w4 (by kernel_rfl) ?_
    simp only [Act.put, fl1, fl2, fl3]
    refine sl_run rfl (.bool false) w4 (exec_neI 26 _ _ rfl (ea : Int) 0 (by kernel_rfl) (by kernel_rfl) false (by rw [he]; rfl)) ?_
    simp only [Act.put, fl1, fl2, fl3]
    refine sl_run rfl (.bool false) w4 (by kernel_rfl) ?_
    simp only [Act.put, fl1, fl2, fl3]
    refine sg_run (by kernel_rfl) (.int .i64 (eb : Int)) w4 (by kernel_rfl) ?_
    simp only [Act.put, fl1, fl2, fl3]
    refine sg_run (by kernel_rfl) (.bool true) w4 (exec_neI 26 _ _ rfl (eb : Int) 0 (by kernel_rfl) (by kernel_rfl) true (by rw [bne_iff_ne]; omega)) ?_
    simp only [Act.put, fl1, fl2, fl3]
    refine sl_run rfl (.bool true) w4 (by kernel_rfl) ?_
    simp only [Act.put, fl1, fl2, fl3]
    refine sl_run rfl (.bool true) w4 (by kernel_rfl) ?_
    simp only [Act.put, fl1, fl2, fl3]
    refine wpList_skip ?hw ?_
    case hw => kernel_rfl
    simp only [Act.put, fl1, fl2, fl3]
    refine wpList_skip ?hw ?_
    case hw => kernel_rfl
    simp only [Act.put, fl1, fl2, fl3]
    refine wpList_skip ?hw ?_
    case hw => kernel_rfl
    simp only [Act.put, fl1, fl2, fl3]
    refine wpList_skip ?hw ?_
    case hw => kernel_rfl
    simp only [Act.put, fl1, fl2, fl3]
    refine wpList_skip ?hw ?_
    case hw => kernel_rfl
    simp only [Act.put, fl1, fl2, fl3]
    refine sl_run rfl (.bool true) w4 (by kernel_rfl) ?_
    simp only [Act.put, fl1, fl2, fl3]
    refine wpList_nil ?_
    have hno := clashR_no hGaH.out hGbH.out (by omega)
    rw [hRH.out] at hno
    injection hno with q1 q2
    injection q2 with q2 q3
    subst q1 q2 q3
    obtain ⟨Ax, cx, rfl⟩ := hx1w4.out.form
    obtain ⟨Ay, cy, rfl⟩ := hx2w4.out.form
    have hF := hBw4
    clear hRH hGaH hGbH hBw4 hyaw4 hybw4 huaw4 hubw4 hx1w4 hx2w4
    go_wp2_with fail
    go_ret
    exact ⟨rfl, hF.out⟩
  case pos =>
  obtain ⟨sg, hsg⟩ : ∃ s, s = decide (ga = gb) := ⟨_, rfl⟩
  refine sl_run rfl (.int .i64 (ea : Int)) w4 (by kernel_rfl) ?_
  simp only [Act.put, fl1, fl2, fl3]
  refine sl_run rfl (.bool false) w4 (exec_neI 26 _ _ rfl (ea : Int) 0 (by kernel_rfl) (by kernel_rfl) false (by rw [he]; rfl)) ?_
  simp only [Act.put, fl1, fl2, fl3]
  refine sl_run rfl (.bool false) w4 (by kernel_rfl) ?_
  simp only [Act.put, fl1, fl2, fl3]
  refine sg_run (by kernel_rfl) (.int .i64 (eb : Int)) w4 (by kernel_rfl) ?_
  simp only [Act.put, fl1, fl2, fl3]
  refine sg_run (by kernel_rfl) (.bool false) w4 (exec_neI 26 _ _ rfl (eb : Int) 0 (by kernel_rfl) (by kernel_rfl) false (by rw [hf]; rfl)) ?_
  simp only [Act.put, fl1, fl2, fl3]
  refine sl_run rfl (.bool false) w4 (by kernel_rfl) ?_
  simp only [Act.put, fl1, fl2, fl3]
  refine sl_run rfl (.bool false) w4 (by kernel_rfl) ?_
  simp only [Act.put, fl1, fl2, fl3]
  refine sg_run (by kernel_rfl) (ua) w4 (by kernel_rfl) ?_
  simp only [Act.put, fl1, fl2, fl3]
  refine sg_run (by kernel_rfl) (.string (strB ga)) w4 (exec_convB _ rfl ua ga (by kernel_rfl) huaw4.out) ?_
  simp only [Act.put, fl1, fl2, fl3]
  refine sg_run (by kernel_rfl) (ub) w4 (by kernel_rfl) ?_
  simp only [Act.put, fl1, fl2, fl3]
  refine sg_run (by kernel_rfl) (.string (strB gb)) w4 (exec_convB _ rfl ub gb (by kernel_rfl) hubw4.out) ?_
  simp only [Act.put, fl1, fl2, fl3]
  refine sg_run (by kernel_rfl) (.bool (!sg)) w4 (exec_neS 9 _ _ rfl (strB ga) (strB gb) (by kernel_rfl) (by kernel_rfl) _ (by rw [strB_eq hla.out hlb.out, ← hsg])) ?_
  simp only [Act.put, fl1, fl2, fl3]
  refine sl_run rfl (.bool (!sg)) w4 (by kernel_rfl) ?_
  simp only [Act.put, fl1, fl2, fl3]
  refine wpList_nil ?_
  cases sg with
  | false =>
    have hno := clashR_no hGaH.out hGbH.out (fun h => of_decide_eq_false hsg.symm h.2.2)
    rw [hRH.out] at hno
    injection hno with q1 q2
    injection q2 with q2 q3
    subst q1 q2 q3
    obtain ⟨Ax, cx, rfl⟩ := hx1w4.out.form
    obtain ⟨Ay, cy, rfl⟩ := hx2w4.out.form
    have hF := hBw4
    clear hRH hGaH hGbH hBw4 hyaw4 hybw4 huaw4 hubw4 hx1w4 hx2w4
    go_wp2_with fail
    go_ret
    exact ⟨rfl, hF.out⟩
  | true =>
    subst he hf
    have hcut : 1 ≤ cut ∧ cut ≤ 32 := by
      rcases headS_ok hGaH.out with ⟨_, h2, _⟩ | ⟨h1, _⟩
      · exact right_cut h2
      · exact absurd rfl h1
    obtain ⟨m, rfl⟩ : ∃ m : Nat, cut = (m : Int) := ⟨cut.toNat, by omega⟩
    have hm1 : 1 ≤ m := by omega
    have hm32 : m ≤ 32 := by omega
    obtain ⟨hy1, hy2, hy3, hy4⟩ := clashR_yes hGaH.out hGbH.out (of_decide_eq_true hsg.symm)
    rw [hRH.out] at hy1
    have hyH : Hid ((p, q, r) = (match clashK m a b with | some j => (textS m a (a.length - 1 - j), textS m b (b.length - 1 - j), true) | none => ([], [], false))) := hy1
    have hga : Hid (∀ x ∈ a, goodE x = true) := right_good hy2
    have hgb : Hid (∀ x ∈ b, goodE x = true) := right_good hy3
    have hhd : Hid (headP m a a.length = headP m b b.length) := hy4
    clear hRH hGaH hGbH hy1 hy2 hy3 hy4 hsg hcut huaw4 hubw4
    obtain ⟨sm, hsm⟩ : ∃ s, s = decide (a = b) := ⟨_, rfl⟩
    go_upto_region 10 with fail
    refine wp_region_lit ?_
    refine sl_run rfl (.slice A na ca) w4 (by kernel_rfl) ?_
    simp only [Act.put, fl1, fl2, fl3]
    refine sl_run rfl (.slice B nb cb) w4 (by kernel_rfl) ?_
    simp only [Act.put, fl1, fl2, fl3]
    refine sg_call (by kernel_rfl) 29 #[.slice A na ca, .slice B nb cb] (by kernel_rfl) (R := fun v w' => v = .bool sm ∧ Below w4.heap.size w4 w') ((hsm ▸ Same_calls a b A na ca hna'.out (by omega) B nb cb hnb'.out (by omega) w4 hyaw4.out hybw4.out).mono fun e w' h => ⟨_, h.1, rfl, h.2⟩) ?_
    rintro _ w5 ⟨rfl, hb⟩
    simp only [Act.put, fl1, fl2, fl3]
    have hBw5 : Hid (Below w.heap.size w w5) := hBw4.out.trans ((hb).mono (hBw4.out).size)
    have hyaw5 : Hid (Rw 35 encE w5 (.slice A na ca) a) := (hyaw4.out).below hb
    have hybw5 : Hid (Rw 35 encE w5 (.slice B nb cb) b) := (hybw4.out).below hb
    have hx1w5 : Hid (Bytes w5 x1 p) := (hx1w4.out).below hb
    have hx2w5 : Hid (Bytes w5 x2 q) := (hx2w4.out).below hb
    clear hBw4 hyaw4 hybw4 hx1w4 hx2w4
    clear hb
    refine wpList_nil ?_
    cases sm with
    | true =>
      have hq := hyH.out
      have hab := of_decide_eq_true hsm.symm
      have hk : clashK m a b = none := by rw [hab]; exact clashK_same _ _
      clear hab
      rw [hk] at hq
      injection hq with q1 q2
      injection q2 with q2 q3
      subst q1 q2 q3
      have hF := hBw5
      clear hyH hk hBw5 hyaw5 hybw5 hx1w5 hx2w5 hsm
      go_wp2_with fail
      go_ret
      exact ⟨rfl, hF.out⟩
    | false =>
      have hne : Hid (a ≠ b) := of_decide_eq_false hsm.symm
      clear hsm
      by_cases h0 : na = 0
      case pos =>
        have hq := hyH.out
        have hk : clashK m a b = none := clashK_nil (.inl (List.length_eq_zero_iff.1 (by rw [← hna'.out, h0])))
        subst h0
        clear hna'
        rw [hk] at hq
        injection hq with q1 q2
        injection q2 with q2 q3
        subst q1 q2 q3
        have hF := hBw5
        clear hyH hk hBw5 hyaw5 hybw5 hx1w5 hx2w5
        go_wp2_with fail
        go_ret
        exact ⟨rfl, hF.out⟩
      case neg =>
      by_cases h1 : nb = 0
      case pos =>
        have hq := hyH.out
        have hk : clashK m a b = none := clashK_nil (.inr (List.length_eq_zero_iff.1 (by rw [← hnb'.out, h1])))
        subst h1
        clear hnb'
        have hI3 : ¬ (na : Int) = 0 := by omega
        have hI4 : ((na : Int) == 0) = false := by rw [beq_eq_false_iff_ne]; omega
        rw [hk] at hq
        injection hq with q1 q2
        injection q2 with q2 q3
        subst q1 q2 q3
        have hF := hBw5
        clear hyH hk hBw5 hyaw5 hybw5 hx1w5 hx2w5
        go_wp2_with fail
        go_ret
        exact ⟨rfl, hF.out⟩
      case neg =>
      have hI3 : ¬ (na : Int) = 0 := by omega
      have hI4 : ((na : Int) == 0) = false := by rw [beq_eq_false_iff_ne]; omega
      have hI5 : ¬ (nb : Int) = 0 := by omega
      have hI6 : ((nb : Int) == 0) = false := by rw [beq_eq_false_iff_ne]; omega
      obtain ⟨j, hk, hpq, hsum⟩ := clash_found hm32 hga.out hgb.out (by rw [← hna'.out]; omega) (by rw [← hnb'.out]; omega) hhd.out hne.out (fun e => h0 (by rw [hna'.out, e]; rfl)) (fun e => h1 (by rw [hnb'.out, e]; rfl))
      obtain ⟨hj1, hj2, _, _⟩ := clashK_get hk
      have hplt : Hid (∀ y ∈ textS m a (a.length - 1 - j), y < 256) := textS_lt hokaH.out _ (by omega)
      have hqlt : Hid (∀ y ∈ textS m b (b.length - 1 - j), y < 256) := textS_lt hokbH.out _ (by omega)
      have hpl := textS_len hm32 a (a.length - 1 - j)
      have hql := textS_len hm32 b (b.length - 1 - j)
      have hq := hyH.out
      rw [hk] at hq
      simp only at hq
      generalize textS m a (a.length - 1 - j) = T1 at hq hpq hsum hplt hpl
      generalize textS m b (b.length - 1 - j) = T2 at hq hpq hsum hqlt hql
      injection hq with q1 q2
      injection q2 with q2 q3
      subst q1 q2 q3
      have hpqH : Hid (¬ p = q) := hpq
      obtain ⟨S1, hS1⟩ : ∃ S, S = sumB p := ⟨_, rfl⟩
      obtain ⟨S2, hS2⟩ : ∃ S, S = sumB q := ⟨_, rfl⟩
      have hS1H : Hid (S1 = sumB p) := hS1
      have hS2H : Hid (S2 = sumB q) := hS2
      have hS1l : Hid (S1.length = 32) := by show _ = _; rw [hS1, Sha.sumB_length]
      have hS2l : Hid (S2.length = 32) := by show _ = _; rw [hS2, Sha.sumB_length]
      rw [← hS1, ← hS2] at hsum
      have hbeg : Hid (∀ i, i < m → S1.getD i 0 = S2.getD i 0) := fun i hi => by
        have h9 := congrArg (fun l => l.getD i 0) hsum
        simpa [List.getD_eq_getElem?_getD, List.getElem?_take, hi] using h9
      clear hyH hk hj1 hj2 hS1 hS2 hsum hpq hga hgb hhd hne h0 h1 hyaw5 hybw5 hna' hnb'
      go_upto_region 14 with fail
      refine wp_region_lit ?_
      refine sl_run rfl (.bool true) w5 (by kernel_rfl) ?_
      simp only [Act.put, fl1, fl2, fl3]
      refine sl_run rfl (.bool false) w5 (by kernel_rfl) ?_
      simp only [Act.put, fl1, fl2, fl3]
      refine sl_run rfl (.bool false) w5 (by kernel_rfl) ?_
      simp only [Act.put, fl1, fl2, fl3]
      refine sg_run (by kernel_rfl) (x1) w5 (by kernel_rfl) ?_
      simp only [Act.put, fl1, fl2, fl3]
      refine sg_run (by kernel_rfl) (.string (strB p)) w5 (exec_convB _ rfl x1 p (by kernel_rfl) hx1w5.out) ?_
      simp only [Act.put, fl1, fl2, fl3]
      refine sg_run (by kernel_rfl) (x2) w5 (by kernel_rfl) ?_
      simp only [Act.put, fl1, fl2, fl3]
      refine sg_run (by kernel_rfl) (.string (strB q)) w5 (exec_convB _ rfl x2 q (by kernel_rfl) hx2w5.out) ?_
      simp only [Act.put, fl1, fl2, fl3]
      refine sg_run (by kernel_rfl) (.bool false) w5 (exec_eqS 9 _ _ rfl (strB p) (strB q) (by kernel_rfl) (by kernel_rfl) false (by rw [strB_eq hplt.out hqlt.out]; exact decide_eq_false hpqH.out)) ?_
      simp only [Act.put, fl1, fl2, fl3]
      refine sl_run rfl (.bool false) w5 (by kernel_rfl) ?_
      simp only [Act.put, fl1, fl2, fl3]
      refine wpList_nil ?_
      go_upto_region 16 with fail
      refine wp_region_lit ?_
      refine sl_run rfl (x1) w5 (by kernel_rfl) ?_
      simp only [Act.put, fl1, fl2, fl3]
      refine sg_call (by kernel_rfl) 30 #[x1] (by kernel_rfl) (R := fun v w' => v = .agg (bytesC S1) ∧ Below w5.heap.size w5 w') ((Sha.one_calls p (getD_of hplt.out) (by omega) x1 w5 hx1w5.out).mono fun z w' h => ⟨_, h.1, by rw [hS1H.out], h.2⟩) ?_
      rintro _ w6 ⟨rfl, hb⟩
      simp only [Act.put, fl1, fl2, fl3]
      have hBw6 : Hid (Below w.heap.size w w6) := hBw5.out.trans ((hb).mono (hBw5.out).size)
      have hx1w6 : Hid (Bytes w6 x1 p) := (hx1w5.out).below hb
      have hx2w6 : Hid (Bytes w6 x2 q) := (hx2w5.out).below hb
      clear hBw5 hx1w5 hx2w5
      clear hb
      refine sl_run rfl (x2) w6 (by kernel_rfl) ?_
      simp only [Act.put, fl1, fl2, fl3]
      refine sg_call (by kernel_rfl) 30 #[x2] (by kernel_rfl) (R := fun v w' => v = .agg (bytesC S2) ∧ Below w6.heap.size w6 w') ((Sha.one_calls q (getD_of hqlt.out) (by omega) x2 w6 hx2w6.out).mono fun z w' h => ⟨_, h.1, by rw [hS2H.out], h.2⟩) ?_
      rintro _ w7 ⟨rfl, hb⟩
      simp only [Act.put, fl1, fl2, fl3]
      have hBw7 : Hid (Below w.heap.size w w7) := hBw6.out.trans ((hb).mono (hBw6.out).size)
      have hx1w7 : Hid (Bytes w7 x1 p) := (hx1w6.out).below hb
      have hx2w7 : Hid (Bytes w7 x2 q) := (hx2w6.out).below hb
      clear hBw6 hx1w6 hx2w6
      clear hb
      refine sg_run (by kernel_rfl) (.pointer (some ⟨w7.heap.size, 0, none⟩)) (w7.alloc (.cells (bytesC (Sha.zeros 32)) 22)) (by kernel_rfl) ?_
      simp only [Act.put, fl1, fl2, fl3]
      refine sg_run (by kernel_rfl) (.pointer (some ⟨(w7.alloc (.cells (bytesC (Sha.zeros 32)) 22)).heap.size, 0, none⟩)) ((w7.alloc (.cells (bytesC (Sha.zeros 32)) 22)).alloc (.cells (bytesC (Sha.zeros 32)) 22)) (by kernel_rfl) ?_
      simp only [Act.put, fl1, fl2, fl3]
      have hD1 : ((w7.alloc (.cells (bytesC (Sha.zeros 32)) 22)).alloc (.cells (bytesC (Sha.zeros 32)) 22)).heap[w7.heap.size]? = some (.cells (bytesC (Sha.zeros 32)) 22 (0, 0)) := heap_kept (heap_alloc_new _ _) ((Below.refl _ _).alloc (Nat.le_refl _) _)
      have hD2 := heap_alloc_new (w7.alloc (.cells (bytesC (Sha.zeros 32)) 22)) (.cells (bytesC (Sha.zeros 32)) 22)
      have hb : Below w7.heap.size w7 ((w7.alloc (.cells (bytesC (Sha.zeros 32)) 22)).alloc (.cells (bytesC (Sha.zeros 32)) 22)) := ((Below.refl _ _).alloc (Nat.le_refl _) _).alloc (by simp) _
      have hneD : (w7.alloc (.cells (bytesC (Sha.zeros 32)) 22)).heap.size ≠ w7.heap.size := by simp
      have hgeD : w7.heap.size ≤ (w7.alloc (.cells (bytesC (Sha.zeros 32)) 22)).heap.size := by simp
      generalize (w7.alloc (.cells (bytesC (Sha.zeros 32)) 22)).alloc (.cells (bytesC (Sha.zeros 32)) 22) = w8 at hD1 hD2 hb ⊢
      generalize (w7.alloc (.cells (bytesC (Sha.zeros 32)) 22)).heap.size = D2 at hD2 hneD hgeD ⊢
      obtain ⟨D1, hd1⟩ : ∃ d, d = w7.heap.size := ⟨_, rfl⟩
      have hgeD1 : w7.heap.size ≤ D1 := by omega
      rw [← hd1] at hD1 hneD ⊢
      clear hd1
      refine wpList_store_row rfl 22 _ _ rfl D1 (bytesC S1) (by kernel_rfl) (by kernel_rfl) 22 _ hD1 (by rw [Sha.bytesC_size, hS1l.out]; kernel_rfl) (by rw [Sha.bytesC_size, Sha.bytesC_size, hS1l.out]; rfl) (Sha.bytesC_one _) ?_
      simp only [Act.put, fl1, fl2, fl3]
      refine wpList_store_row rfl 22 _ _ rfl D2 (bytesC S2) (by kernel_rfl) (by kernel_rfl) 22 _ ((setRow_other _ _ _ _ hneD).trans hD2) (by rw [Sha.bytesC_size, hS2l.out]; kernel_rfl) (by rw [Sha.bytesC_size, Sha.bytesC_size, hS2l.out]; rfl) (Sha.bytesC_one _) ?_
      simp only [Act.put, fl1, fl2, fl3]
      refine wpList_nil ?_
      have hE1 : ((w8.setRow D1 (bytesC S1)).setRow D2 (bytesC S2)).heap[D1]? = some (.cells (bytesC S1) 22 (0, 0)) := (setRow_other _ _ _ _ (Ne.symm hneD)).trans (setRow_heap _ _ _ _ _ _ hD1)
      have hE2 : ((w8.setRow D1 (bytesC S1)).setRow D2 (bytesC S2)).heap[D2]? = some (.cells (bytesC S2) 22 (0, 0)) := setRow_heap _ _ _ _ _ _ ((setRow_other _ _ _ _ hneD).trans hD2)
      have hb2 : Below w7.heap.size w7 ((w8.setRow D1 (bytesC S1)).setRow D2 (bytesC S2)) := below_setRow (below_setRow hb hgeD1 _) hgeD _
      clear hD1 hD2 hb hneD hgeD hgeD1
      generalize World.setRow _ _ _ = w9 at hE1 hE2 hb2 ⊢
      have hBw9 : Hid (Below w.heap.size w w9) := hBw7.out.trans ((hb2).mono (hBw7.out).size)
      have hx1w9 : Hid (Bytes w9 x1 p) := (hx1w7.out).below hb2
      have hx2w9 : Hid (Bytes w9 x2 q) := (hx2w7.out).below hb2
      clear hBw7 hx1w7 hx2w7
      have hE1H : Hid (w9.heap[D1]? = some (.cells (bytesC S1) 22 (0, 0))) := hE1
      have hE2H : Hid (w9.heap[D2]? = some (.cells (bytesC S2) 22 (0, 0))) := hE2
      clear hE1 hE2 hb2 hx1w9 hx2w9
      go_wp2_with fail
      go_loopw [16] (fun u wr => ∃ i : Nat, i ≤ m ∧ u = .int .i64 (i : Int) ∧ Hid (Below w9.heap.size w9 wr)) (fun u _ => m - (intOf u).toNat)
      case atStart => exact ⟨0, by omega, rfl, Below.refl _ _⟩
      case round =>
        obtain ⟨i, hi, rfl, hb⟩ := hrel
        obtain ⟨wo, rfl⟩ : ∃ v : World, v = wr := ⟨_, rfl⟩
        have hbwo : Hid (Below w9.heap.size w9 wo) := hb
        clear hb
        by_cases hlt : i < m
        case neg =>
          have hI7 : ¬ (i : Int) < (m : Int) := by omega
          have hF : Hid (Below w.heap.size w wo) := hBw9.out.trans (hbwo.out.mono hBw9.out.size)
          clear hBw9 hbwo hE1H hE2H
          go_wp2_with fail
          go_ret
          exact ⟨rfl, hF.out⟩
        case pos =>
        have hI7 : (i : Int) < (m : Int) := by omega
        have hi32 : i < 32 := by omega
        go_upto_region 20 with fail
        refine wp_normalG ?_
        refine wp_region_held_drew (S := fun w' => Below wo.heap.size wo w') (by kernel_rfl) (Below.refl _ _).drew (fun hS => ?_)
        change wpAnyH _ _ _ _ _ 7 (Array.replicate 7 false) _ _
        generalize hx : wo.drew = y at hS ⊢
        clear hx
        refine held_take 0 rfl (by kernel_rfl) (by kernel_rfl) (by kernel_rfl) (.int .i64 (i : Int)) (fun _ _ _ h => nomatch h.1) (by kernel_rfl) (fun w' h => (by kernel_rfl)) hS ?_
        simp only [Act.put, fl1, fl2, fl3, fl4, fl5, fl6]
        refine held_take 1 rfl (by kernel_rfl) (by kernel_rfl) (by kernel_rfl) (.pointer (some ⟨D1, 0 + i, none⟩)) (fun _ _ _ h => nomatch h.1) (by kernel_rfl) (fun w' h => exec_field22 w' _ _ rfl D1 0 i (by kernel_rfl) (by kernel_rfl) hi32) hS ?_
        simp only [Act.put, fl1, fl2, fl3, fl4, fl5, fl6]
        refine held_take 2 rfl (by kernel_rfl) (by kernel_rfl) (by kernel_rfl) (.int .u8 ((S1.getD i 0 : Nat) : Int)) (fun _ _ _ h => nomatch h.1) (by kernel_rfl) (fun w' h => exec_load_cell 5 w' _ rfl ⟨D1, 0 + i, none⟩ (by kernel_rfl) _ (by rw [cell_of_row _ _ _ _ _ _ (heap_kept hE1H.out (hbwo.out.trans (h.mono hbwo.out.size))), Nat.zero_add]; exact Sha.bytesC_get S1 i (by have := hS1l.out; omega)) (fun _ => by kernel_rfl)) hS ?_
        simp only [Act.put, fl1, fl2, fl3, fl4, fl5, fl6]
        refine held_take 3 rfl (by kernel_rfl) (by kernel_rfl) (by kernel_rfl) (.int .i64 (i : Int)) (fun _ _ _ h => nomatch h.1) (by kernel_rfl) (fun w' h => (by kernel_rfl)) hS ?_
        simp only [Act.put, fl1, fl2, fl3, fl4, fl5, fl6]
        refine held_take 4 rfl (by kernel_rfl) (by kernel_rfl) (by kernel_rfl) (.pointer (some ⟨D2, 0 + i, none⟩)) (fun _ _ _ h => nomatch h.1) (by kernel_rfl) (fun w' h => exec_field22 w' _ _ rfl D2 0 i (by kernel_rfl) (by kernel_rfl) hi32) hS ?_
        simp only [Act.put, fl1, fl2, fl3, fl4, fl5, fl6]
        refine held_take 5 rfl (by kernel_rfl) (by kernel_rfl) (by kernel_rfl) (.int .u8 ((S2.getD i 0 : Nat) : Int)) (fun _ _ _ h => nomatch h.1) (by kernel_rfl) (fun w' h => exec_load_cell 5 w' _ rfl ⟨D2, 0 + i, none⟩ (by kernel_rfl) _ (by rw [cell_of_row _ _ _ _ _ _ (heap_kept hE2H.out (hbwo.out.trans (h.mono hbwo.out.size))), Nat.zero_add]; exact Sha.bytesC_get S2 i (by have := hS2l.out; omega)) (fun _ => by kernel_rfl)) hS ?_
        simp only [Act.put, fl1, fl2, fl3, fl4, fl5, fl6]
        refine held_take 6 rfl (by kernel_rfl) (by kernel_rfl) (by kernel_rfl) (.bool false) (fun _ _ _ h => nomatch h.1) (by kernel_rfl) (fun w' h => exec_ne8 _ _ rfl ((S1.getD i 0 : Nat) : Int) ((S2.getD i 0 : Nat) : Int) (by kernel_rfl) (by kernel_rfl) false (by rw [hbeg.out i hlt]; simp)) hS ?_
        simp only [Act.put, fl1, fl2, fl3, fl4, fl5, fl6]
        have hby : Hid (Below w9.heap.size w9 y) := hbwo.out.trans (hS.mono hbwo.out.size)
        clear hS hbwo
        refine wpAnyH_done (by kernel_rfl) ?_ _
        refine ⟨rfl, ?_⟩
        rename_i hK
        refine hK _ _ ?_
        clear hK
        go_wp2_with fail
        go_roundw
        case rel => exact ⟨i + 1, by omega, by go_num, hby⟩
        case measure => simp [intOf]; omega
end Go.Proofs.YtadopkifpfmhcaaDoor
namespace Go.Proofs.YtadopkifpfmhcaaDoor.chainFound
open Go.ChangeShapes Go.WideShapes Go.ChangeAt Go.RowKit

theorem own : ownKnob Tryd.prog.godebug = none := by kernel_rfl
theorem laidOut : laidOutB Tryd.prog = true := by kernel_rfl
set_option maxRecDepth 100000 in
theorem lifted (os : Os) (started : os.Started) (H : Type) (enc : TypeId × Value → H) :
    ReturnsInHanded {} Tryd.checked os 9 .any (fun w args => (Rows.chainFoundSpec.pre enc Tryd.prog Tryd.f9 Rows.chainFoundRow.domain false w args ∧ laidMet Tryd.prog [("math/bits.deBruijn64tab", Rows.laid_math_bits_deBruijn64tab)] w) ∧ sizedMet enc Tryd.prog Tryd.f9 (OpenSpec.ofChange Rows.chainFoundSpec) false w args)
      (Rows.chainFoundSpec.post enc Tryd.prog Tryd.f9 false true false false) := by
  refine returnsInHanded_of_change_and (C := Tryd.checked) (X := fun w _ => laidMet Tryd.prog [("math/bits.deBruijn64tab", Rows.laid_math_bits_deBruijn64tab)] w) (fun _ _ _ hh h => h.of_heap hh) own started (by kernel_rfl) Tryd.func9
    (ChangeSpec.witness_at (enc := enc) (C := Tryd.checked) (os := os) (X := fun w _ => laidMet Tryd.prog [("math/bits.deBruijn64tab", Rows.laid_math_bits_deBruijn64tab)] w) false (laidWorld os) #[.int .i64 0, .slice none 0 0, .slice none 0 0] 8 rfl (by kernel_rfl) (by kernel_rfl) (by kernel_rfl) (by kernel_rfl) (by kernel_rfl) (laidWorld_met os _)) ?_
  intro W base args ds gs before hval0 hW hcnd hsz hL _
  have hval : ∀ (j : Nat) t v, Tryd.f9.params[j]? = some t → args[j]? = some v → Value.okWide Tryd.prog W .any base t v := hval0
  have htab := tab_of_laid hL
  have hW' := hW
  obtain ⟨p, q, hA0, hV, rfl, hfz, hnd⟩ := hW
  have hA : DataW.TrodAll enc Tryd.prog W 0 (fun _ => true) true Tryd.f9.params.toList args.toList ds p := hA0
  have hsz2 : (DataW.weightsEach Tryd.prog ([3, 34, 34] ++ Rows.chainFoundSpec.plain.varTypes Tryd.prog) (ds ++ gs)).all (· ≤ reachBytes) = true := by
    have := hsz; rw [Tryd.params9] at this; exact this
  rw [Tryd.params9] at hA hval
  obtain ⟨v0, vs0, d0, ds0, p0, q0, hargs, rfl, rfl, h0, r0⟩ := trodAll_cons hA
  obtain ⟨v1, vs1, d1, ds1, p1, q1, rfl, rfl, rfl, h1, r1⟩ := trodAll_cons r0
  obtain ⟨v2, vs2, d2, ds2, p2, q2, rfl, rfl, rfl, h2, r2⟩ := trodAll_cons r1
  obtain ⟨rfl, rfl, rfl⟩ := trodAll_nil r2
  obtain rfl : args = #[v0, v1, v2] := by cases args; simp_all
  obtain ⟨rfl, rfl⟩ := trodVars_none hV
  have k0 := h0
  have lt0 : ∀ x ∈ p0, x.block < W.heap.size := by obtain ⟨m, hm⟩ := k0; exact DataW.trod_lt m _ _ _ hm
  obtain ⟨n0, rfl, rfl, rfl, wf0⟩ := open_int Tryd.underlying3 (hval 0 3 v0 rfl rfl) h0
  have b0 := int_wf wf0
  have k1 := h1
  have lt1 : ∀ x ∈ p1, x.block < W.heap.size := by obtain ⟨m, hm⟩ := k1; exact DataW.trod_lt m _ _ _ hm
  obtain ⟨a1, n1, c1, l1, rfl, e1, y1, g1, z1⟩ := arg_ens (hval 1 34 v1 rfl rfl) h1
  have m1 : n1 * 72 ≤ 140737488351232 := arg_room hsz2 (j := 1) (t := 34) (e := 24) rfl rfl Tryd.underlying34 (by kernel_rfl) (by decide) z1
  have k2 := h2
  have lt2 : ∀ x ∈ p2, x.block < W.heap.size := by obtain ⟨m, hm⟩ := k2; exact DataW.trod_lt m _ _ _ hm
  obtain ⟨a2, n2, c2, l2, rfl, e2, y2, g2, z2⟩ := arg_ens (hval 2 34 v2 rfl rfl) h2
  have m2 : n2 * 72 ≤ 140737488351232 := arg_room hsz2 (j := 2) (t := 34) (e := 24) rfl rfl Tryd.underlying34 (by kernel_rfl) (by decide) z2
  clear hA0 hval0
  refine (lfound_calls n0 l1 l2 g1 g2 a1 n1 c1 e1 a2 n2 c2 e2 W htab y1 y2).mono fun e W' ⟨he, bel⟩ => ?_
  subst he
  exact ⟨_, rfl, _, _, _, [], _, [], hW', trodAll_mk1 (shut_bool Tryd.underlying4 _), (trodAll_cons_mk (Below.trod laidOut (by kernel_rfl) (of_decide_eq_true (by kernel_rfl)) k0 bel lt0) (trodAll_cons_mk (Below.trod laidOut (by kernel_rfl) (of_decide_eq_true (by kernel_rfl)) k1 bel lt1) (trodAll_cons_mk (Below.trod laidOut (by kernel_rfl) (of_decide_eq_true (by kernel_rfl)) k2 bel lt2) trodAll_mk0))), rfl, bel.frame _, fun h => by cases h⟩
theorem over : Rows.ChainFoundSaid :=
  OpenClaim.holds_of_wide 9 Tryd.f9 rfl rfl rfl rfl rfl rfl rfl ⟨rfl, rfl, rfl, rfl, rfl⟩ rfl rfl rfl rfl rfl (by kernel_rfl) Tryd.func9 (by kernel_rfl)
    (of_decide_eq_true (by kernel_rfl)) (by unfold Func.isWrapper; first | (rw [if_pos (by decide +kernel)]; kernel_rfl) | (rw [if_neg (by decide +kernel)]; exact ⟨rfl, rfl⟩))
    (fun os started H enc _ => lifted os started H enc)
theorem card : Rows.ChainFoundCardSaid :=
  Claim7.holds_tied_plain_at .later [] [.data] true (true, "eaf48906fbdc0550d943cf212d39e566490c253f0718d60b671d22ae1cd4fb08") false
    over (fun _ h => by cases h) (by kernel_rfl) (fun _ h => by cases h) chainFound_row_tie rfl ⟨rfl, rfl⟩ (by kernel_rfl) rfl
    (fun f fn hf hfn => by
      obtain rfl : f = 9 := Option.some.inj ((show Tryd.prog.funcNamed "mandate/mandatelaw18.ChainFound" = some 9 by kernel_rfl).symm.trans hf) |>.symm
      obtain rfl : fn = Tryd.f9 := (Option.some.inj (Tryd.func9.symm.trans hfn)).symm
      exact ⟨by kernel_rfl, fun j t ht => by
        rw [Tryd.params9] at ht
        have h3 : t = 3 ∨ t = 34 := by
          rcases j with _ | j
          · simp at ht; subst ht; simp
          rcases j with _ | j
          · simp at ht; subst ht; simp
          rcases j with _ | j
          · simp at ht; subst ht; simp
          · simp at ht
        rcases h3 with rfl | rfl
        all_goals exact (show Tryd.prog.wantsStandIn _ = false by kernel_rfl)⟩)
    (by kernel_rfl)
end Go.Proofs.YtadopkifpfmhcaaDoor.chainFound
namespace Go.Proofs.YtadopkifpfmhcaaDoor
/-- The statement. -/
theorem chainFound_holds : Rows.ChainFoundCardSaid := chainFound.card
#print axioms chainFound_holds
end Go.Proofs.YtadopkifpfmhcaaDoor
