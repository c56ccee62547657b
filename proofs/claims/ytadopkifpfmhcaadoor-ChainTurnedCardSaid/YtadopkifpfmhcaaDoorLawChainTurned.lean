/-
  The law ChainTurned holds: for every input it answers true, and what came in reads as it did; its card.
-/
import Derived.Test.YtadopkifpfmhcaaDoorMtC
import Derived.Laws.StructEq
import Derived.ChangeKeysEq
import Derived.Laws.IdiomCopy
import Derived.Test.YtadopkifpfmhcaaDoorRows
import Derived.Test.YtadopkifpfmhcaaDoorCards
import Derived.Test.YtadopkifpfmhcaaDoorTie
import Derived.WalkKit
import Derived.ProofKit
import Derived.OpenShut
import Derived.ShutString
import Derived.ChangeOld
import Derived.Below
import Derived.SevenTiedAt
import Derived.LaidHandle
set_option linter.unusedVariables false
set_option linter.unusedSimpArgs false
namespace Go.Proofs.YtadopkifpfmhcaaDoor
open Go.RowKit
open Sha (vals Bytes Lies bytesC sumB)
section
variable {ty : TypeId} {k : Nat} {o : Oper} {a : Act}
theorem exec_takeS (hu : Tryd.prog.underlying ty = some (.slice (Tryd.prog.elem ty))) (hsz : ∀ w, (sizeOf (Tryd.prog.elem ty)).run Tryd.prog w = .ok k w) (x hi : Operand) (ho : o.op = .slice ty x none (some hi) none) (A : Option Addr) (n c q : Nat) (hx : a.eval x = .slice A n c)
    (hh : a.eval hi = .int .i64 (q : Int)) (hc : q ≤ c) (w : World) : (execOp a.eval o).run Tryd.prog w = .ok (.value (.slice (if c = 0 then A else A.map (·.add 0)) q c)) w := by
  unfold execOp
  simp only [ho, Option.map_some, Option.map_none, hx, hh, Sem.run_bind, run_sliceAt_slice w ty _ _ _ _ hu, run_slice_h w ty _ n c hu .i64 (q : Int) (by omega) (by omega), hsz, Result.andThen_ok, Sem.run_pure, sliced, Int.toNat_natCast, Nat.zero_mul, Nat.sub_zero]
theorem exec_fromS (hu : Tryd.prog.underlying ty = some (.slice (Tryd.prog.elem ty))) (hsz : ∀ w, (sizeOf (Tryd.prog.elem ty)).run Tryd.prog w = .ok k w) (x lo : Operand) (ho : o.op = .slice ty x (some lo) none none) (A : Option Addr) (n c q : Nat) (hx : a.eval x = .slice A n c)
    (hh : a.eval lo = .int .i64 (q : Int)) (hc : q ≤ n) (w : World) : (execOp a.eval o).run Tryd.prog w = .ok (.value (.slice (if c = q then A else A.map (·.add (q * k))) (n - q) (c - q))) w := by
  unfold execOp
  simp only [ho, Option.map_some, Option.map_none, hx, hh, Sem.run_bind, run_sliceAt_slice w ty _ _ _ _ hu, run_slice_l w ty _ n c hu .i64 (q : Int) (by omega) (by omega), hsz, Result.andThen_ok, Sem.run_pure, sliced, Int.toNat_natCast]
end
theorem rw_drop {α : Type} [Inhabited α] {k : Nat} {enc : α → Array Value} {w : World} {l : List α} {A : Option Addr} {n c : Nat} (hn : n = l.length) (hy : Rw k enc w (.slice A n c) l) (q : Nat) (hq : q ≤ n) :
    Rw k enc w (.slice (if c = q then A else A.map (·.add (q * k))) (n - q) (c - q)) (l.drop q) := by
  rcases hy with ⟨A', c', h, rfl, h2⟩ | ⟨g, o, c', h, h2, h3, h4⟩
  · injection h with h5 h6 h7
    subst h5 h6
    have hq0 : q = 0 := by omega
    subst hq0
    subst h7
    refine .inl ⟨if c = 0 then A else A.map (·.add (0 * k)), c - 0, rfl, by simp, fun h => ?_⟩
    rw [Nat.sub_zero]
    by_cases hc : c = 0
    · rw [if_pos hc] at h; exact h2 h
    · rw [if_neg hc] at h
      cases A with
      | none => exact h2 rfl
      | some ad => simp at h
  · injection h with h5 h6 h7
    subst h5 h7
    by_cases hql : q = l.length
    · have : l.drop q = [] := by rw [hql]; simp
      rw [this]
      refine .inl ⟨_, c - q, by congr 1; omega, rfl, fun h => ?_⟩
      split at h
      · cases h
      · simp at h
    · refine .inr ⟨g, o + q * k, c - q, ?_, by rw [List.length_drop]; omega, h3, fun i hi => ?_⟩
      · rw [if_neg (by omega), Option.map_some, Addr.add_mid, List.length_drop, hn]
      · rw [List.length_drop] at hi
        have h5 := h4 (q + i) (by omega)
        have e1 : (l.drop q).getD i default = l.getD (q + i) default := by simp [List.getD_eq_getElem?_getD]
        have e2 : o + q * k + i * k = o + (q + i) * k := by rw [Nat.add_mul]; omega
        rw [e1, e2]; exact h5
theorem subI {o : Oper} {a : Act} (x : Operand) (ho : o.op = .binOp .sub 3 x (.const (.int .i64 1)) 3) (n : Nat) (hx : a.eval x = .int .i64 (n : Int)) (h1 : 1 ≤ n) (h2 : n ≤ 9223372036854775807) (w : World) : (execOp a.eval o).run Tryd.prog w = .ok (.value (.int .i64 ((n - 1 : Nat) : Int))) w := by
  unfold execOp
  have hw : IntKind.i64.wrap ((n : Int) - 1) = ((n - 1 : Nat) : Int) := by rw [IntKind.wrap_i64]; omega
  have hc : a.eval (.const (.int .i64 1)) = .int .i64 1 := rfl
  simp [ho, hx, hc, eqGuard, binOp_sub, Op.intArith, hw]
end Go.Proofs.YtadopkifpfmhcaaDoor
namespace Go.Proofs.YtadopkifpfmhcaaDoor
open Go.RowKit
open Sha (vals Bytes Lies bytesC sumB)
open Go.Proofs.YtadopkifpfmhcaaDoorW.PrintWords Go.Proofs.YtadopkifpfmhcaaDoorW.PrintLast Go.Proofs.YtadopkifpfmhcaaDoorW.PrintMore
/-- What is summed for the k-th entry. -/
def textS (m : Nat) (l : List En) (k : Nat) : List Nat := headP m l k ++ (bytesS (k : Int) (l.getD k default)).1
theorem inf25 : (Tryd.prog.info? 25).map (fun i => (i.zero, i.size, i.bytes)) = some (some (.slice none 0 0), 1, 24) := by kernel_rfl
theorem un92 : Tryd.prog.underlying 92 = some (.slice (Tryd.prog.elem 92)) := by kernel_rfl
theorem sz92 : ∀ w, (sizeOf (Tryd.prog.elem 92)).run Tryd.prog w = .ok 1 w := fun w => by kernel_rfl
instance : Inhabited Value := ⟨undef⟩
def encV (v : Value) : Array Value := #[v]
/-- A chain that is summed, and the row of its texts. -/
structure TI (w0 : World) (D m : Nat) (l : List En) (i : Nat) (ov : Value) (vs : List Value) (w : World) : Prop where
  row : ∃ hv : Value, w.heap[D]? = some (.cells #[.int .i64 (m : Int), hv, .int .i64 (i : Int)] 72 (0, 0)) ∧ w.ownsRow w0.heap.size 5 1 hv (headP m l i).length (vals (headP m l i))
  out : w.ownsRow w0.heap.size 25 1 ov i vs
  el : ∀ j, j < i → w.ownsRow w0.heap.size 5 1 (vs.getD j undef) (textS m l j).length (vals (textS m l j))
  bel : Below w0.heap.size w0 w
theorem TI.below {w0 w w' : World} {D m i : Nat} {l : List En} {ov : Value} {vs : List Value} (h : TI w0 D m l i ov vs w) (hb : Below w.heap.size w w') : TI w0 D m l i ov vs w' := by
  obtain ⟨⟨hv, h1, h2⟩, h3, h4, h5⟩ := h
  have k : ∀ {b n k e v xs}, w.ownsRow b e k v n xs → w'.ownsRow b e k v n xs := fun h => own_keep h (fun q hq => hb.block q (h.lt q hq).2)
  exact ⟨⟨hv, heap_kept h1 hb, k h2⟩, k h3, fun j hj => k (h4 j hj), h5.trans (hb.mono h5.size)⟩
def TIx (w0 : World) (D m : Nat) (l : List En) (i : Nat) (ov : Value) (w : World) : Prop := ∃ vs, TI w0 D m l i ov vs w
theorem TIx.below {w0 w w' : World} {D m i : Nat} {l : List En} {ov : Value} (h : TIx w0 D m l i ov w) (hb : Below w.heap.size w w') : TIx w0 D m l i ov w' := by
  obtain ⟨vs, h⟩ := h; exact ⟨vs, h.below hb⟩
/-- Between the append and the link. -/
structure TI4 (w0 : World) (D m : Nat) (l : List En) (i : Nat) (ov : Value) (vs : List Value) (w : World) : Prop where
  row : ∃ hv : Value, w.heap[D]? = some (.cells #[.int .i64 (m : Int), hv, .int .i64 (i : Int)] 72 (0, 0)) ∧ w.ownsRow w0.heap.size 5 1 hv (headP m l i).length (vals (headP m l i))
  out : w.ownsRow w0.heap.size 25 1 ov (i + 1) vs
  el : ∀ j, j < i + 1 → w.ownsRow w0.heap.size 5 1 (vs.getD j undef) (textS m l j).length (vals (textS m l j))
  bel : Below w0.heap.size w0 w
/-- One value of one cell behind a list of such. -/
theorem appendRw1 {w : World} {ops : Array Oper} {rest : List Oper} {o : Oper} {a : Act} {Q : Exit → Act → World → Prop} {V : Value} (ty e : TypeId) (bytes : Nat) (i : TypeInfo) (z : Value) (ht : Tryd.prog.underlying ty = some (.slice e)) (hi : Tryd.prog.info? e = some i) (hz : i.zero = some z) (hsize : i.size = 1) (hby : i.bytes = bytes) (hzs : z.cells.size = 1) (hV : V.oneCell' = true)
    (hgd : o.guard = none) (s x : Operand) (ho : o.op = .call { callee := .builtin .append, args := #[s, x], argTypes := #[ty, ty] })
    (base : Nat) (v : Value) (l0 : List Value) (hs : a.eval s = v) (hown : w.ownsRow base e 1 v l0.length l0)
    (y : Value) (hx : a.eval x = y) (hy : Rw 1 encV w y [V]) (hlen : l0.length + 1 ≤ 140737488355327) (hlen2 : (l0.length + 1) * bytes ≤ 140737488355328) (hbase : base ≤ w.heap.size)
    (h : ∀ v' w', w'.ownsRow base e 1 v' (l0 ++ [V]).length (l0 ++ [V]) → w.grownBy w' v.ownBlock → wpList Tryd.prog ops Q rest (a.put o.dst v') w') : wpList Tryd.prog ops Q (o :: rest) a w := by
  rcases hy with ⟨A, c, rfl, h0, _⟩ | ⟨g, off, c, rfl, hc, hg, hl⟩
  · cases h0
  · refine wpList_append_own w hgd s x ty ho base e i z 1 bytes ht hi hz hsize hby hzs (by decide) v l0.length l0 hs hown ⟨g, off, none⟩ 1 c [V] hx rfl ?_ (by simpa using hV) (by unfold maxLen; omega) hlen2 hbase ?_
    · intro j u hu
      have hj : j = 0 := by
        have : j < 1 := (List.getElem?_eq_some_iff.1 hu).1
        omega
      subst hj
      have := hl 0 (by simp) 0 V rfl
      rw [Addr.add_mid]
      simp at hu
      subst hu
      simpa using this
    · intro v' w' h1 h2 h3
      exact h v' w' (by rw [List.length_append]; exact h1) h2
/-- What is handed back. -/
structure TxO (w0 : World) (m : Nat) (l : List En) (ov hv : Value) (w : World) : Prop where
  out : ∃ vs, w.ownsRow w0.heap.size 25 1 ov l.length vs ∧ ∀ j, j < l.length → Bytes w (vs.getD j undef) (textS m l j)
  head : Bytes w hv (headP m l l.length)
  bel : Below w0.heap.size w0 w
set_option maxRecDepth 100000 in
set_option maxHeartbeats 16000000 in
theorem texts_calls (m : Nat) (hm1 : 1 ≤ m) (hm32 : m ≤ 32) (l : List En) (hok : ∀ x ∈ l, x.ok) (A : Option Addr) (n c : Nat) (hn : n = l.length) (hn9 : n ≤ 1000000) (w : World) (hy : Rw 35 encE w (.slice A n c) l) :
    Calls Tryd.prog 51 #[.int .i64 (m : Int), .slice A n c] w fun e w' => ∃ ov hv, e = .returned (.tuple #[ov, hv]) ∧ TxO w m l ov hv w' := by
  have hn' : Hid (n = l.length) := hn
  have hyw : Hid (Rw 35 encE w (.slice A n c) l) := hy
  have hBw : Hid (Below w.heap.size w w) := Below.refl _ _
  have hokH : Hid (∀ x ∈ l, x.ok) := hok
  clear hn hy hok
  go_enter Tryd.func51, Tryd.ntmps51
  go_upto_region 1 with fail
  refine wp_region_lit ?_
  refine sl_run rfl (.int .i64 (m : Int)) w (by kernel_rfl) ?_
  simp only [Act.put, fl1, fl2, fl3]
  refine sg_call (by kernel_rfl) 38 #[.int .i64 (m : Int)] (by kernel_rfl) (R := fun v w' => ∃ hv, v = .agg #[.int .i64 (m : Int), hv, .int .i64 0] ∧ w'.ownsRow w.heap.size 5 1 hv (List.replicate m 0).length (vals (List.replicate m 0)) ∧ Below w.heap.size w w') ((begun_own m hm32 w).mono fun e w' h => by
    obtain ⟨v, h1, h2, h3⟩ := h
    exact ⟨_, h1, v, rfl, h2, h3⟩) ?_
  rintro _ w2 ⟨hv, rfl, hby, hb⟩
  simp only [Act.put, fl1, fl2, fl3]
  have hBw2 : Hid (Below w.heap.size w w2) := hBw.out.trans ((hb).mono (hBw.out).size)
  clear hBw
  clear hb
  obtain ⟨A0, c0, rfl⟩ := own_form hby
  refine sg_run (by kernel_rfl) (.pointer (some ⟨w2.heap.size, 0, none⟩)) (w2.alloc (.cells #[.int .i64 0, .slice none 0 0, .int .i64 0] 72)) (by kernel_rfl) ?_
  simp only [Act.put, fl1, fl2, fl3]
  refine wpList_store_row rfl 72 _ _ rfl w2.heap.size #[.int .i64 (m : Int), .slice A0 (List.replicate m 0).length c0, .int .i64 0] (by kernel_rfl) (by kernel_rfl) 72 _ (heap_alloc_new _ _) (by kernel_rfl) (by kernel_rfl) (by simp [Value.oneCell']) ?_
  simp only [Act.put, fl1, fl2, fl3]
  refine wpList_nil ?_
  have hD0 : ((w2.alloc (.cells #[.int .i64 0, .slice none 0 0, .int .i64 0] 72)).setRow w2.heap.size #[.int .i64 (m : Int), .slice A0 (List.replicate m 0).length c0, .int .i64 0]).heap[w2.heap.size]? = some (.cells #[.int .i64 (m : Int), .slice A0 (List.replicate m 0).length c0, .int .i64 0] 72 (0, 0)) := setRow_heap _ _ _ _ _ _ (heap_alloc_new _ _)
  have hDB : Below w2.heap.size w2 ((w2.alloc (.cells #[.int .i64 0, .slice none 0 0, .int .i64 0] 72)).setRow w2.heap.size #[.int .i64 (m : Int), .slice A0 (List.replicate m 0).length c0, .int .i64 0]) := below_setRow ((Below.refl _ _).alloc (Nat.le_refl _) _) (Nat.le_refl _) _
  obtain ⟨D, hDd⟩ : ∃ D, D = w2.heap.size := ⟨_, rfl⟩
  have hDw : Hid (w.heap.size ≤ D) := by show _ ≤ _; rw [hDd]; exact hBw2.out.size
  have hDB2 : Below w2.heap.size w2 ((w2.alloc (.cells #[.int .i64 0, .slice none 0 0, .int .i64 0] 72)).setRow D #[.int .i64 (m : Int), .slice A0 (List.replicate m 0).length c0, .int .i64 0]) := by rw [hDd]; exact hDB
  rw [← hDd] at hD0 ⊢
  clear hDd hDB
  generalize World.setRow _ _ _ = w3 at hD0 hDB2 ⊢
  have hTw3 : Hid (TIx w D m l 0 (.slice none 0 0) w3) := ⟨[], ⟨_, hD0, own_keep hby (fun q hq => hDB2.block q (hby.lt q hq).2)⟩, World.ownsRow_nil _ _ _ _, fun j hj => by omega, hBw2.out.trans (hDB2.mono hBw2.out.size)⟩
  clear hD0 hDB2 hby hBw2
  go_wp2_with fail
  go_loopw [7, 14] (fun o9 u wr => ∃ (i : Nat) (ov : Value), i ≤ n ∧ ov = o9 ∧ u = .int .i64 (i : Int) ∧ Hid (TIx w D m l i ov wr)) (fun _ u _ => n - (intOf u).toNat)
  case atStart => exact ⟨0, _, by omega, rfl, rfl, hTw3⟩
  case round =>
    obtain ⟨i, ov, hin, rfl, rfl, hT⟩ := hrel
    obtain ⟨wo, rfl⟩ : ∃ v : World, v = wr := ⟨_, rfl⟩
    clear hTw3
    by_cases hi : i < n
    · have hI : (i : Int) < (n : Int) := by omega
      obtain ⟨vs, hT⟩ := hT
      obtain ⟨g, o, rfl, hnc, hg, hel⟩ := (hyw.out.below hT.bel).elem i (by rw [← hn'.out]; exact hi)
      obtain ⟨x, hx⟩ : ∃ x, x = l.getD i default := ⟨_, rfl⟩
      rw [← hx] at hel
      have hxH : Hid (x = l.getD i default) := hx
      have hxok : Hid x.ok := hokH.out x (by rw [hx]; have := hn'.out; simp [show i < l.length by omega])
      have helH : Hid (wo.rangeAt g (o + i * 35) (encE x).toList) := hel
      have hTwo : Hid (TI w D m l i ov vs wo) := hT
      obtain ⟨Ao, co, hAo⟩ := own_form hT.out
      subst hAo
      clear hx hel hg hT
      go_upto_region 5 with fail
      refine wp_region_lit ?_
      refine sl_run rfl (.pointer (some ⟨g, o + i * 35, none⟩)) wo (exec_index un34 sz34 _ _ rfl g o n c i (by kernel_rfl) (by kernel_rfl) hi _) ?_
      simp only [Act.put, fl1, fl2, fl3]
      refine sl_run rfl (.agg (encE x)) wo (load_en _ _ rfl g (o + i * 35) (by kernel_rfl) x helH.out) ?_
      simp only [Act.put, fl1, fl2, fl3]
      refine sg_run (by kernel_rfl) (.pointer (some ⟨wo.heap.size, 0, none⟩)) (wo.alloc (.cells (encE default) 24)) (by kernel_rfl) ?_
      simp only [Act.put, fl1, fl2, fl3]
      refine wpList_store_row rfl 24 _ _ rfl wo.heap.size (encE x) (by kernel_rfl) (by kernel_rfl) 24 _ (heap_alloc_new _ _) (by rw [encE_size']; kernel_rfl) (by rw [encE_size', encE_size']) (encE_all x) ?_
      simp only [Act.put, fl1, fl2, fl3]
      refine wpList_nil ?_
      have hE0 : ((wo.alloc (.cells (encE default) 24)).setRow wo.heap.size (encE x)).heap[wo.heap.size]? = some (.cells (encE x) 24 (0, 0)) := setRow_heap _ _ _ _ _ _ (heap_alloc_new _ _)
      have hb : Below wo.heap.size wo ((wo.alloc (.cells (encE default) 24)).setRow wo.heap.size (encE x)) := below_setRow ((Below.refl _ _).alloc (Nat.le_refl _) _) (Nat.le_refl _) _
      obtain ⟨E, hE⟩ : ∃ E, E = wo.heap.size := ⟨_, rfl⟩
      have hb2 : Below wo.heap.size wo ((wo.alloc (.cells (encE default) 24)).setRow E (encE x)) := by rw [hE]; exact hb
      rw [← hE] at hE0 ⊢
      clear hE hb helH
      generalize World.setRow _ _ _ = z1 at hE0 hb2 ⊢
      have hTz1 : Hid (TI w D m l i (.slice Ao i co) vs z1) := hTwo.out.below hb2
      have hEz1 : Hid (z1.heap[E]? = some (.cells (encE x) 24 (0, 0))) := hE0
      clear hE0 hb2 hTwo
      go_upto_region 6 with fail
      refine wp_region_lit ?_
      have hZ : Hid (w.heap.size ≤ z1.heap.size) := hTz1.out.bel.size
      refine sl_run rfl (.slice Ao i co) z1 (by kernel_rfl) ?_
      simp only [Act.put, fl1, fl2, fl3]
      refine sg_run (by kernel_rfl) (.agg (encE x)) z1 (exec_load_row 24 z1 _ rfl E (by kernel_rfl) 24 (encE x) (0, 0) _ hEz1.out Tryd.underlying24 rfl (by rw [encE_size']; kernel_rfl)) ?_
      simp only [Act.put, fl1, fl2, fl3]
      obtain ⟨hv, hrow, hhead⟩ := hTz1.out.row
      obtain ⟨A1, c1, rfl⟩ := own_form hhead
      have hlen := @headP_len m hm32 l i
      refine sg_call (by kernel_rfl) 55 #[.pointer (some ⟨D, 0, none⟩), .agg (encE x)] (by kernel_rfl) (R := fun v w' => w'.ownsRow z1.heap.size 5 1 v (textS m l i).length (vals (textS m l i)) ∧ Below z1.heap.size z1 w') ((text_calls D 0 (m : Int) (i : Int) A1 _ c1 (headP m l i) rfl (by omega) x hxok.out (by omega) z1 ⟨cell_row hrow rfl, cell_row hrow rfl, cell_row hrow rfl, (Array.getElem?_eq_some_iff.1 hrow).1⟩ (own_bytes hhead)).mono fun e w' h => by
        obtain ⟨v, h1, h2, h3⟩ := h
        rw [hxH.out] at h2
        exact ⟨_, h1, h2, h3⟩) ?_
      rintro tv z2 ⟨hown, hb⟩
      obtain ⟨At, ct, rfl⟩ := own_form hown
      simp only [Act.put, fl1, fl2, fl3]
      have hTz2 : Hid (TI w D m l i (.slice Ao i co) vs z2) := (hTz1.out).below hb
      have hEz2 : Hid (z2.heap[E]? = some (.cells (encE x) 24 (0, 0))) := heap_kept hEz1.out hb
      clear hTz1 hEz1
      have htz2 : Hid (z2.ownsRow z1.heap.size 5 1 (.slice At (textS m l i).length ct) (textS m l i).length (vals (textS m l i))) := hown
      have hz12 : Hid (w.heap.size ≤ z1.heap.size) := by
        have := hTz2.out.bel.size; have h9 := hb.size
        exact hZ.out
      clear hb hown hrow hhead hlen hZ
      refine sg_run (by kernel_rfl) (.slice (some ⟨z2.heap.size, 0, none⟩) 1 1) (z2.alloc (.cells (encV (.slice At (textS m l i).length ct)) 25)) (by kernel_rfl) ?_
      simp only [Act.put, fl1, fl2, fl3]
      have hn0 : (z2.alloc (.cells (encV (.slice At (textS m l i).length ct)) 25)).heap[z2.heap.size]? = some (.cells (encV (.slice At (textS m l i).length ct)) 25 (0, 0)) := heap_alloc_new _ _
      have hb : Below z2.heap.size z2 (z2.alloc (.cells (encV (.slice At (textS m l i).length ct)) 25)) := (Below.refl _ _).alloc (Nat.le_refl _) _
      generalize z2.heap.size = R9 at hn0 ⊢
      generalize z2.alloc _ = z3 at hn0 hb ⊢
      have hTz3 : Hid (TI w D m l i (.slice Ao i co) vs z3) := (hTz2.out).below hb
      have hEz3 : Hid (z3.heap[E]? = some (.cells (encE x) 24 (0, 0))) := heap_kept hEz2.out hb
      clear hTz2 hEz2
      have htz3 : Hid (z3.ownsRow z1.heap.size 5 1 (.slice At (textS m l i).length ct) (textS m l i).length (vals (textS m l i))) := own_keep htz2.out (fun q hq => hb.block q (htz2.out.lt q hq).2)
      clear hb htz2
      obtain ⟨i25, hi25, hz25, hs25, hb25⟩ := info_parts inf25
      have hrg : ∀ j, j < [Value.slice At (textS m l i).length ct].length → z3.rangeAt R9 (0 + j * 1) (encV ([Value.slice At (textS m l i).length ct].getD j default)).toList := fun j hj => by
        have : j = 0 := by simpa using hj
        subst this
        intro r u hu
        simp only [Nat.zero_add, Nat.zero_mul]
        rw [cell_of_row _ _ _ _ _ _ hn0]
        simpa using hu
      have hlvs : vs.length = i := by have := hTz3.out.out.1; omega
      have hrw1 : Rw 1 encV z3 (.slice (some ⟨R9, 0, none⟩) 1 1) [Value.slice At (textS m l i).length ct] := .inr ⟨R9, 0, 1, rfl, Nat.le_refl _, (Array.getElem?_eq_some_iff.1 hn0).1, hrg⟩
      refine appendRw1 (V := .slice At (textS m l i).length ct) 92 25 24 i25 (.slice none 0 0) un92 hi25 hz25 hs25 hb25 rfl rfl rfl _ _ rfl w.heap.size (.slice Ao i co) vs (by kernel_rfl) (by rw [hlvs]; exact hTz3.out.out) (.slice (some ⟨R9, 0, none⟩) 1 1) (by kernel_rfl) hrw1 (by rw [hlvs]; omega) (by rw [hlvs]; omega) hTz3.out.bel.size (fun v9 z4 hown9 hgr9 => ?_)
      clear hi25 hz25 hs25 hb25 hrw1 hrg
      simp only [Act.put, fl1, fl2, fl3]
      have hEz4 : Hid (z4.heap[E]? = some (.cells (encE x) 24 (0, 0))) := (hgr9.block E (Array.getElem?_eq_some_iff.1 hEz3.out).1 (own_kind hTz3.out.out hEz3.out (by decide))).trans hEz3.out
      obtain ⟨hv, hrow, hhead⟩ := hTz3.out.row
      have hk5 : ∀ {b n k v xs}, z3.ownsRow b 5 k v n xs → z4.ownsRow b 5 k v n xs := fun h => h.kept hgr9 (by
        rename_i v _
        cases e : v.ownBlock with
        | none => exact .inl rfl
        | some q => exact .inr (own_other hTz3.out.out h (by decide) q e))
      have hTz4 : Hid (TI4 w D m l i v9 (vs ++ [Value.slice At (textS m l i).length ct]) z4) := by
        refine ⟨⟨hv, (hgr9.block D (Array.getElem?_eq_some_iff.1 hrow).1 (own_kind hTz3.out.out hrow (by decide))).trans hrow, hk5 hhead⟩, ?_, fun j hj => ?_, hTz3.out.bel.grown hgr9 hTz3.out.bel.size (fun q hq => (hTz3.out.out.lt q hq).1)⟩
        · rw [List.length_append, hlvs] at hown9
          exact hown9
        · by_cases e : j < i
          · rw [List.getD_eq_getElem?_getD, List.getElem?_append_left (by omega), ← List.getD_eq_getElem?_getD]
            exact hk5 (hTz3.out.el j e)
          · obtain rfl : j = i := by omega
            rw [List.getD_eq_getElem?_getD, List.getElem?_append_right (by omega), hlvs, Nat.sub_self]
            exact own_mono (hk5 htz3.out) hz12.out
      obtain ⟨A5, c5, rfl⟩ := own_form hown9
      rw [List.length_append, hlvs, List.length_singleton] at hTz4 ⊢
      clear hgr9 hown9 hn0 hlvs hrow hhead hTz3 hEz3 htz3 hz12 hk5
      refine sl_run rfl (.slice A5 (i + 1) c5) z4 (by kernel_rfl) ?_
      simp only [Act.put, fl1, fl2, fl3]
      refine wpList_nil ?_
      go_upto_region 7 with fail
      refine wp_region_lit ?_
      refine sg_run (by kernel_rfl) (.agg (encE x)) z4 (exec_load_row 24 z4 _ rfl E (by kernel_rfl) 24 (encE x) (0, 0) _ hEz4.out Tryd.underlying24 rfl (by rw [encE_size']; kernel_rfl)) ?_
      simp only [Act.put, fl1, fl2, fl3]
      obtain ⟨⟨hv, hrow, hhead⟩, hout, hels, hbel⟩ := hTz4.out
      obtain ⟨A1, c1, rfl⟩ := own_form hhead
      refine sg_call (by kernel_rfl) 39 #[.pointer (some ⟨D, 0, none⟩), .agg (encE x)] (by kernel_rfl) (R := fun v w' => v = .tuple #[] ∧ TIx w D m l (i + 1) (.slice A5 (i + 1) c5) w') ((link_calls D 0 _ 72 m i hm1 hm32 (by omega) A1 _ c1 (headP m l i) rfl (by rw [headP_len hm32]; omega) (headP_lt m l i) x hxok.out z4 hrow rfl rfl rfl (own_bytes hhead)).mono fun e w' h => by
        obtain ⟨q1, hv2, q2, q3, q4⟩ := h
        have hk5 : ∀ {b n k t v xs}, z4.ownsRow b t k v n xs → t ≠ 72 → w'.ownsRow b t k v n xs := fun h ht => own_keep h (fun q hq => q4.block q (h.lt q hq).2 (fun e => by subst e; exact own_kind h hrow ht hq.symm))
        refine ⟨_, q1, rfl, _, ⟨hv2, q2, ?_⟩, hk5 hout (by decide), fun j hj => hk5 (hels j hj) (by decide), q4.bel hbel hDw.out hbel.size⟩
        rw [headP, ← hxH.out]
        exact own_mono q3 hbel.size) ?_
      rintro _ z5 ⟨rfl, hTn⟩
      simp only [Act.put, fl1, fl2, fl3]
      have hTz5 : Hid (TIx w D m l (i + 1) (.slice A5 (i + 1) c5) z5) := hTn
      clear hTn hrow hhead hout hels hbel hTz4 hEz4
      refine wpList_nil ?_
      clear hxH hxok
      go_wp2_with fail
      go_roundw
      case rel => exact ⟨i + 1, _, by omega, rfl, by go_num, hTz5⟩
      case measure => simp [intOf]; omega
    · have hI : ¬ (i : Int) < (n : Int) := by omega
      obtain rfl : i = n := by omega
      obtain ⟨vs, hT⟩ := hT
      obtain ⟨Ao, co, hAo⟩ := own_form hT.out
      subst hAo
      obtain ⟨⟨hv, hrow, hhead⟩, hout, hels, hbel⟩ := hT
      have hF : Hid (TxO w m l (.slice Ao i co) hv wo.drew) := by
        have k : ∀ {b n k e v xs}, wo.ownsRow b e k v n xs → wo.drew.ownsRow b e k v n xs := fun h => own_keep h (fun q hq => rfl)
        have hil := hn'.out
        refine ⟨⟨vs, by rw [← hil]; exact k hout, fun j hj => own_bytes (k (hels j (by omega)))⟩, ?_, hbel.drew⟩
        rw [← hil]; exact own_bytes (k hhead)
      obtain ⟨A1, c1, rfl⟩ := own_form hhead
      have hc1 : wo.drew.cell? ⟨D, 1, none⟩ = some (.slice A1 (headP m l i).length c1) := cell_row (w := wo.drew) hrow rfl
      clear hrow hhead hout hels hbel
      go_upto_region 9 with fail
      refine wp_region_still_tail 4 (by kernel_rfl) (by kernel_rfl) ?_
      change wpStill _ _ wo.drew (fun a' => wpList _ _ _ _ a' wo.drew) _ _
      generalize wo.drew = y at hF hc1 ⊢
      simp only [List.take_succ_cons, List.take_zero, List.drop_succ_cons, List.drop_zero]
      refine still_run rfl (.slice Ao i co) (by kernel_rfl) ?_
      simp only [Act.put, fl1, fl2, fl3]
      refine still_run rfl (.pointer (some ⟨D, 1, none⟩)) (by kernel_rfl) ?_
      simp only [Act.put, fl1, fl2, fl3]
      refine still_run rfl (.slice A1 (headP m l i).length c1) (exec_load_cell 25 y _ rfl ⟨D, 1, none⟩ (by kernel_rfl) _ hc1 (fun _ => by kernel_rfl)) ?_
      simp only [Act.put, fl1, fl2, fl3]
      refine still_run rfl (.slice Ao i co) (by kernel_rfl) ?_
      simp only [Act.put, fl1, fl2, fl3]
      refine wpStill_nil ?_
      refine sl_run rfl (.slice A1 (headP m l i).length c1) y (by kernel_rfl) ?_
      simp only [Act.put, fl1, fl2, fl3]
      refine wpList_nil ?_
      clear hc1
      go_wp2_with fail
      go_ret2
      exact ⟨_, _, rfl, hF.out⟩
end Go.Proofs.YtadopkifpfmhcaaDoor
namespace Go.Proofs.YtadopkifpfmhcaaDoor
open Go.RowKit
open Sha (vals Bytes Lies bytesC sumB)
open Go.Proofs.YtadopkifpfmhcaaDoorW.PrintWords Go.Proofs.YtadopkifpfmhcaaDoorW.PrintLast Go.Proofs.YtadopkifpfmhcaaDoorW.PrintMore
def pairK (m : Nat) (a b : List En) (j : Nat) : Bool := decide (textS m a (a.length - 1 - j) = textS m b (b.length - 1 - j))
def clashK (m : Nat) (a b : List En) : Option Nat := (List.range (min a.length b.length)).find? fun j => !pairK m a b j
/-- Two texts that are summed, or none. -/
def clashR (cut : Int) (a b : List En) : List Nat × List Nat × Bool :=
  if rightS cut a = true ∧ rightS cut b = true ∧ headP cut.toNat a a.length = headP cut.toNat b b.length then
    match clashK cut.toNat a b with
    | some j => (textS cut.toNat a (a.length - 1 - j), textS cut.toNat b (b.length - 1 - j), true)
    | none => ([], [], false)
  else ([], [], false)
theorem clashK_some {m : Nat} {a b : List En} {j : Nat} (h1 : j < a.length) (h2 : j < b.length) (hall : ∀ i, i < j → pairK m a b i = true) (hj : pairK m a b j = false) : clashK m a b = some j := by
  unfold clashK
  rw [List.find?_range_eq_some]
  exact ⟨by rw [hj]; rfl, List.mem_range.2 (by omega), fun i hi => by rw [hall i hi]; rfl⟩
theorem clashK_none {m : Nat} {a b : List En} (hall : ∀ i, i < min a.length b.length → pairK m a b i = true) : clashK m a b = none := by
  unfold clashK
  rw [List.find?_eq_none]
  intro i hi
  rw [hall i (List.mem_range.1 hi)]; decide
theorem textS_lt {m : Nat} {l : List En} (hok : ∀ x ∈ l, x.ok) (k : Nat) (hk : k < l.length) : ∀ y ∈ textS m l k, y < 256 := fun y hy => by
  unfold textS at hy
  rcases List.mem_append.1 hy with h | h
  · exact headP_lt _ _ _ y h
  · exact bytesS_lt (hok _ (by simp [hk])) _ y h
theorem textS_len {m : Nat} (hm : m ≤ 32) (l : List En) (k : Nat) : (textS m l k).length ≤ 1000000 := by
  unfold textS
  rw [List.length_append, headP_len hm]
  have := @bytesS_len (l.getD k default) (k : Int)
  omega
/-- An element of a row of texts. -/
theorem TxO.elem {w0 w : World} {m : Nat} {l : List En} {ov hv : Value} (h : TxO w0 m l ov hv w) (hl : 0 < l.length) : ∃ g c, ov = .slice (some ⟨g, 0, none⟩) l.length c ∧ l.length ≤ c ∧ ∀ j, j < l.length → ∃ u, w.cell? ⟨g, j, none⟩ = some u ∧ Bytes w u (textS m l j) := by
  obtain ⟨vs, h1, h2⟩ := h.out
  rcases h1.2 with ⟨_, h0⟩ | ⟨g, cap, cur, rfl, h3, h4, h5, h6, h7, h8⟩
  · omega
  · refine ⟨g, cap, rfl, h5, fun j hj => ⟨vs.getD j undef, ?_, h2 j hj⟩⟩
    have hlen : vs.length = l.length := by have := h1.1; omega
    have := h1.cells (g := g) rfl j (vs.getD j undef) (by simp [show j < vs.length by omega])
    rwa [Addr.add_mid, Nat.zero_add] at this
theorem TxO.below {w0 w w' : World} {m : Nat} {l : List En} {ov hv : Value} (h : TxO w0 m l ov hv w) (hb : Below w.heap.size w w') : TxO w0 m l ov hv w' := by
  obtain ⟨⟨vs, h1, h2⟩, h3, h4⟩ := h
  exact ⟨⟨vs, own_keep h1 (fun q hq => hb.block q (h1.lt q hq).2), fun j hj => (h2 j hj).below hb⟩, h3.below hb, h4.trans (hb.mono h4.size)⟩
def lenOf : Value → Nat
  | .slice _ n _ => n
  | _ => 0
set_option maxRecDepth 100000 in
set_option maxHeartbeats 16000000 in
theorem Clash_calls (cut : Int) (a b : List En) (hoka : ∀ x ∈ a, x.ok) (hokb : ∀ x ∈ b, x.ok) (A : Option Addr) (na ca : Nat) (hna : na = a.length) (hna9 : na ≤ 1000000) (B : Option Addr) (nb cb : Nat) (hnb : nb = b.length) (hnb9 : nb ≤ 1000000) (w : World) (hya : Rw 35 encE w (.slice A na ca) a) (hyb : Rw 35 encE w (.slice B nb cb) b) :
    Calls Tryd.prog 27 #[.int .i64 cut, .slice A na ca, .slice B nb cb] w fun e w' => ∃ u v, e = .returned (.tuple #[u, v, .bool (clashR cut a b).2.2]) ∧ Bytes w' u (clashR cut a b).1 ∧ Bytes w' v (clashR cut a b).2.1 ∧ Below w.heap.size w w' := by
  have hna' : Hid (na = a.length) := hna
  have hnb' : Hid (nb = b.length) := hnb
  have hyaw : Hid (Rw 35 encE w (.slice A na ca) a) := hya
  have hybw : Hid (Rw 35 encE w (.slice B nb cb) b) := hyb
  have hBw : Hid (Below w.heap.size w w) := Below.refl _ _
  have hokaH : Hid (∀ x ∈ a, x.ok) := hoka
  have hokbH : Hid (∀ x ∈ b, x.ok) := hokb
  obtain ⟨R, hR⟩ : ∃ R, R = clashR cut a b := ⟨_, rfl⟩
  rw [← hR]
  have hRH : Hid (R = clashR cut a b) := hR
  clear hna hnb hya hyb hoka hokb hR
  obtain ⟨ra, hra⟩ : ∃ r, r = rightS cut a := ⟨_, rfl⟩
  obtain ⟨rb, hrb⟩ : ∃ r, r = rightS cut b := ⟨_, rfl⟩
  have hraH : Hid (ra = rightS cut a) := hra
  have hrbH : Hid (rb = rightS cut b) := hrb
  clear hra hrb
  go_enter Tryd.func27, Tryd.ntmps27
  go_upto_region 1 with fail
  refine wp_region_lit ?_
  refine sl_run rfl (.int .i64 cut) w (by kernel_rfl) ?_
  simp only [Act.put, fl1, fl2, fl3]
  refine sl_run rfl (.slice A na ca) w (by kernel_rfl) ?_
  simp only [Act.put, fl1, fl2, fl3]
  refine sg_call (by kernel_rfl) 37 #[.int .i64 cut, .slice A na ca] (by kernel_rfl) (R := fun v w' => v = .bool ra ∧ Below w.heap.size w w') ((hraH.out.symm ▸ right_calls cut a A na ca hna'.out (by omega) w hyaw.out).mono fun e w' h => ⟨_, h.1, rfl, h.2⟩) ?_
  rintro _ w1 ⟨rfl, hb⟩
  simp only [Act.put, fl1, fl2, fl3]
  have hBw1 : Hid (Below w.heap.size w w1) := hBw.out.trans ((hb).mono (hBw.out).size)
  have hyaw1 : Hid (Rw 35 encE w1 (.slice A na ca) a) := (hyaw.out).below hb
  have hybw1 : Hid (Rw 35 encE w1 (.slice B nb cb) b) := (hybw.out).below hb
  clear hBw hyaw hybw
  clear hb
  refine sl_run rfl (.bool (!ra)) w1 (by kernel_rfl) ?_
  simp only [Act.put, fl1, fl2, fl3]
  cases ra with
  | false =>
    refine sl_run rfl (.bool true) w1 (by kernel_rfl) ?_
    simp only [Act.put, fl1, fl2, fl3]
    refine wpList_skip ?hw ?_
    case hw => kernel_rfl
    simp only [Act.put, fl1, fl2, fl3]
    refine wpList_skip ?hw ?_
    case hw => kernel_rfl
    simp only [Act.put, fl1, fl2, fl3]
    refine wpList_skip ?hw ?_
    case hw => kernel_rfl
    simp only [Act.put, fl1, fl2, fl3]
    refine wpList_skip ?hw ?_
    case hw => kernel_rfl
    simp only [Act.put, fl1, fl2, fl3]
    refine sl_run rfl (.bool true) w1 (by kernel_rfl) ?_
    simp only [Act.put, fl1, fl2, fl3]
    refine wpList_nil ?_
    have hs : clashR cut a b = ([], [], false) := by unfold clashR; rw [if_neg (by rw [← hraH.out]; simp)]
    have hq := hRH.out
    rw [hs] at hq
    subst hq
    have hF := hBw1
    clear hRH hs hyaw1 hybw1 hBw1 hraH hrbH
    go_wp2_with fail
    refine bodyPost_ret (v := .tuple #[.slice none 0 0, .slice none 0 0, .bool false]) (by kernel_rfl) rfl ?_
    exact ⟨_, _, rfl, .inl ⟨none, 0, rfl, rfl, fun _ => rfl⟩, .inl ⟨none, 0, rfl, rfl, fun _ => rfl⟩, hF.out⟩
  | true =>
    refine sl_run rfl (.bool false) w1 (by kernel_rfl) ?_
    simp only [Act.put, fl1, fl2, fl3]
    refine sg_run (by kernel_rfl) (.int .i64 cut) w1 (by kernel_rfl) ?_
    simp only [Act.put, fl1, fl2, fl3]
    refine sg_run (by kernel_rfl) (.slice B nb cb) w1 (by kernel_rfl) ?_
    simp only [Act.put, fl1, fl2, fl3]
    refine sg_call (by kernel_rfl) 37 #[.int .i64 cut, .slice B nb cb] (by kernel_rfl) (R := fun v w' => v = .bool rb ∧ Below w1.heap.size w1 w') ((hrbH.out.symm ▸ right_calls cut b B nb cb hnb'.out (by omega) w1 hybw1.out).mono fun e w' h => ⟨_, h.1, rfl, h.2⟩) ?_
    rintro _ w2 ⟨rfl, hb⟩
    simp only [Act.put, fl1, fl2, fl3]
    have hBw2 : Hid (Below w.heap.size w w2) := hBw1.out.trans ((hb).mono (hBw1.out).size)
    have hyaw2 : Hid (Rw 35 encE w2 (.slice A na ca) a) := (hyaw1.out).below hb
    have hybw2 : Hid (Rw 35 encE w2 (.slice B nb cb) b) := (hybw1.out).below hb
    clear hBw1 hyaw1 hybw1
    clear hb
    refine sg_run (by kernel_rfl) (.bool (!rb)) w2 (by kernel_rfl) ?_
    simp only [Act.put, fl1, fl2, fl3]
    cases rb with
    | false =>
      refine sl_run rfl (.bool true) w2 (by kernel_rfl) ?_
      simp only [Act.put, fl1, fl2, fl3]
      refine wpList_nil ?_
      have hs : clashR cut a b = ([], [], false) := by unfold clashR; rw [if_neg (by rw [← hrbH.out]; simp)]
      have hq := hRH.out
      rw [hs] at hq
      subst hq
      have hF := hBw2
      clear hRH hs hyaw2 hybw2 hBw2 hraH hrbH
      go_wp2_with fail
      refine bodyPost_ret (v := .tuple #[.slice none 0 0, .slice none 0 0, .bool false]) (by kernel_rfl) rfl ?_
      exact ⟨_, _, rfl, .inl ⟨none, 0, rfl, rfl, fun _ => rfl⟩, .inl ⟨none, 0, rfl, rfl, fun _ => rfl⟩, hF.out⟩
    | true =>
      refine sl_run rfl (.bool false) w2 (by kernel_rfl) ?_
      simp only [Act.put, fl1, fl2, fl3]
      refine wpList_nil ?_
      obtain ⟨hc1, hc2⟩ := right_cut hraH.out.symm
      obtain ⟨m, rfl⟩ : ∃ m : Nat, cut = (m : Int) := ⟨cut.toNat, by omega⟩
      have hm1 : 1 ≤ m := by omega
      have hm32 : m ≤ 32 := by omega
      have hR2 : Hid (R = if headP m a na = headP m b nb then match clashK m a b with | some j => (textS m a (a.length - 1 - j), textS m b (b.length - 1 - j), true) | none => ([], [], false) else ([], [], false)) := by
        have h := hRH.out
        unfold clashR at h
        rw [← hraH.out, ← hrbH.out, Int.toNat_natCast, ← hna'.out, ← hnb'.out] at h
        simp only [true_and] at h
        rw [hna'.out, hnb'.out] at h ⊢
        exact h
      clear hRH hraH hrbH hc1 hc2
      go_upto_region 3 with fail
      refine wp_region_lit ?_
      refine sl_run rfl (.int .i64 (m : Int)) w2 (by kernel_rfl) ?_
      simp only [Act.put, fl1, fl2, fl3]
      refine sl_run rfl (.slice A na ca) w2 (by kernel_rfl) ?_
      simp only [Act.put, fl1, fl2, fl3]
      refine sg_call (by kernel_rfl) 51 #[.int .i64 (m : Int), .slice A na ca] (by kernel_rfl) (R := fun v w' => ∃ ov hv, v = .tuple #[ov, hv] ∧ TxO w2 m a ov hv w') ((texts_calls m hm1 hm32 a hokaH.out _ na ca hna'.out (by omega) w2 hyaw2.out).mono fun e w' h => by
        obtain ⟨ov, hv, h1, h2⟩ := h
        exact ⟨_, h1, ov, hv, rfl, h2⟩) ?_
      rintro _ w3 ⟨oa, ha, rfl, htx⟩
      have hb := htx.bel
      simp only [Act.put, fl1, fl2, fl3]
      have hBw3 : Hid (Below w.heap.size w w3) := hBw2.out.trans ((hb).mono (hBw2.out).size)
      have hyaw3 : Hid (Rw 35 encE w3 (.slice A na ca) a) := (hyaw2.out).below hb
      have hybw3 : Hid (Rw 35 encE w3 (.slice B nb cb) b) := (hybw2.out).below hb
      clear hBw2 hyaw2 hybw2
      have hoaw3 : Hid (TxO w2 m a oa ha w3) := htx
      clear hb htx
      refine sl_run rfl (.tuple #[oa, ha]) w3 (by kernel_rfl) ?_
      simp only [Act.put, fl1, fl2, fl3]
      refine sl_run rfl (oa) w3 (by kernel_rfl) ?_
      simp only [Act.put, fl1, fl2, fl3]
      refine sl_run rfl (ha) w3 (by kernel_rfl) ?_
      simp only [Act.put, fl1, fl2, fl3]
      refine sl_run rfl (oa) w3 (by kernel_rfl) ?_
      simp only [Act.put, fl1, fl2, fl3]
      refine sl_run rfl (ha) w3 (by kernel_rfl) ?_
      simp only [Act.put, fl1, fl2, fl3]
      refine wpList_nil ?_
      go_upto_region 4 with fail
      refine wp_region_lit ?_
      refine sl_run rfl (.int .i64 (m : Int)) w3 (by kernel_rfl) ?_
      simp only [Act.put, fl1, fl2, fl3]
      refine sl_run rfl (.slice B nb cb) w3 (by kernel_rfl) ?_
      simp only [Act.put, fl1, fl2, fl3]
      refine sg_call (by kernel_rfl) 51 #[.int .i64 (m : Int), .slice B nb cb] (by kernel_rfl) (R := fun v w' => ∃ ov hv, v = .tuple #[ov, hv] ∧ TxO w3 m b ov hv w') ((texts_calls m hm1 hm32 b hokbH.out _ nb cb hnb'.out (by omega) w3 hybw3.out).mono fun e w' h => by
        obtain ⟨ov, hv, h1, h2⟩ := h
        exact ⟨_, h1, ov, hv, rfl, h2⟩) ?_
      rintro _ w4 ⟨ob, hb9, rfl, htx⟩
      have hb := htx.bel
      simp only [Act.put, fl1, fl2, fl3]
      have hBw4 : Hid (Below w.heap.size w w4) := hBw3.out.trans ((hb).mono (hBw3.out).size)
      have hyaw4 : Hid (Rw 35 encE w4 (.slice A na ca) a) := (hyaw3.out).below hb
      have hybw4 : Hid (Rw 35 encE w4 (.slice B nb cb) b) := (hybw3.out).below hb
      have hoaw4 : Hid (TxO w2 m a oa ha w4) := (hoaw3.out).below hb
      clear hBw3 hyaw3 hybw3 hoaw3
      have hobw4 : Hid (TxO w3 m b ob hb9 w4) := htx
      clear hb htx
      refine sl_run rfl (.tuple #[ob, hb9]) w4 (by kernel_rfl) ?_
      simp only [Act.put, fl1, fl2, fl3]
      refine sl_run rfl (ob) w4 (by kernel_rfl) ?_
      simp only [Act.put, fl1, fl2, fl3]
      refine sl_run rfl (hb9) w4 (by kernel_rfl) ?_
      simp only [Act.put, fl1, fl2, fl3]
      refine sl_run rfl (ob) w4 (by kernel_rfl) ?_
      simp only [Act.put, fl1, fl2, fl3]
      refine sl_run rfl (hb9) w4 (by kernel_rfl) ?_
      simp only [Act.put, fl1, fl2, fl3]
      refine wpList_nil ?_
      obtain ⟨sm, hsm⟩ : ∃ s, s = decide (headP m a na = headP m b nb) := ⟨_, rfl⟩
      go_upto_region 5 with fail
      refine wp_region_lit ?_
      refine sl_run rfl (ha) w4 (by kernel_rfl) ?_
      simp only [Act.put, fl1, fl2, fl3]
      refine sl_run rfl (hb9) w4 (by kernel_rfl) ?_
      simp only [Act.put, fl1, fl2, fl3]
      refine sg_call (by kernel_rfl) 42 #[ha, hb9] (by kernel_rfl) (R := fun v w' => v = .bool sm ∧ Below w4.heap.size w4 w') (((show decide (headP m a a.length = headP m b b.length) = sm by rw [hsm, hna'.out, hnb'.out]) ▸ equal_calls (headP m a a.length) (headP m b b.length) (headP_lt m a _) (headP_lt m b _) (by rw [headP_len hm32]; omega) (by rw [headP_len hm32]; omega) ha hb9 w4 hoaw4.out.head hobw4.out.head).mono fun e w' h => ⟨_, h.1, rfl, h.2⟩) ?_
      rintro _ w5 ⟨rfl, hb⟩
      simp only [Act.put, fl1, fl2, fl3]
      have hBw5 : Hid (Below w.heap.size w w5) := hBw4.out.trans ((hb).mono (hBw4.out).size)
      have hyaw5 : Hid (Rw 35 encE w5 (.slice A na ca) a) := (hyaw4.out).below hb
      have hybw5 : Hid (Rw 35 encE w5 (.slice B nb cb) b) := (hybw4.out).below hb
      have hoaw5 : Hid (TxO w2 m a oa ha w5) := (hoaw4.out).below hb
      have hobw5 : Hid (TxO w3 m b ob hb9 w5) := (hobw4.out).below hb
      clear hBw4 hyaw4 hybw4 hoaw4 hobw4
      clear hb
      refine sl_run rfl (.bool (!sm)) w5 (by kernel_rfl) ?_
      simp only [Act.put, fl1, fl2, fl3]
      refine wpList_nil ?_
      clear hyaw5 hybw5
      cases sm with
      | false =>
        have hq := hR2.out
        rw [if_neg (of_decide_eq_false hsm.symm)] at hq
        subst hq
        have hF := hBw5
        clear hR2 hBw5 hoaw5 hobw5 hsm
        go_wp2_with fail
        refine bodyPost_ret (v := .tuple #[.slice none 0 0, .slice none 0 0, .bool false]) (by kernel_rfl) rfl ?_
        exact ⟨_, _, rfl, .inl ⟨none, 0, rfl, rfl, fun _ => rfl⟩, .inl ⟨none, 0, rfl, rfl, fun _ => rfl⟩, hF.out⟩
      | true =>
        have hR3 : Hid (R = match clashK m a b with | some j => (textS m a (a.length - 1 - j), textS m b (b.length - 1 - j), true) | none => ([], [], false)) := by
          have hq := hR2.out
          rw [if_pos (of_decide_eq_true hsm.symm)] at hq
          exact hq
        clear hR2 hsm
        obtain ⟨vsa, hva, _⟩ := hoaw5.out.out
        obtain ⟨vsb, hvb, _⟩ := hobw5.out.out
        obtain ⟨Pa, pa, hPa⟩ := own_formq hva hna'.out
        obtain ⟨Pb, pb, hPb⟩ := own_formq hvb hnb'.out
        subst hPa hPb
        clear hva hvb
        simp only [Bool.not_true]
        go_wp2_with fail
        go_loopw [9, 11] (fun p q wr => ∃ j : Nat, j ≤ na ∧ j ≤ nb ∧ p = .slice Pa (na - j) pa ∧ q = .slice Pb (nb - j) pb ∧ Hid (∀ i, i < j → pairK m a b i = true) ∧ Hid (Below w5.heap.size w5 wr)) (fun p _ _ => lenOf p)
        case atStart => exact ⟨0, by omega, by omega, rfl, rfl, fun i h => by omega, Below.refl _ _⟩
        case round =>
          obtain ⟨j, hj1, hj2, rfl, rfl, hall, hbw⟩ := hrel
          obtain ⟨wo, rfl⟩ : ∃ v : World, v = wr := ⟨_, rfl⟩
          have hallH : Hid (∀ i, i < j → pairK m a b i = true) := hall
          have hBwo : Hid (Below w.heap.size w wo) := hBw5.out.trans (hbw.out.mono hBw5.out.size)
          have hoawo : Hid (TxO w2 m a (.slice Pa na pa) ha wo) := hoaw5.out.below hbw.out
          have hobwo : Hid (TxO w3 m b (.slice Pb nb pb) hb9 wo) := hobw5.out.below hbw.out
          clear hall
          obtain ⟨ia, hia⟩ : ∃ x, x = na - j := ⟨_, rfl⟩
          obtain ⟨ib, hib⟩ : ∃ x, x = nb - j := ⟨_, rfl⟩
          rw [← hia, ← hib]
          by_cases h1 : j < na
          case neg =>
            have hI : ¬ (ia : Int) > 0 := by omega
            have hn : clashK m a b = none := clashK_none (fun i hi => hallH.out i (by have := hna'.out; omega))
            have hq := hR3.out
            rw [hn] at hq
            subst hq
            have hF := hBwo
            clear hR3 hn hallH hBwo hoawo hobwo hbw hBw5 hoaw5 hobw5 hia hib hj1 hj2 h1
            go_wp2_with fail
            refine bodyPost_ret (v := .tuple #[.slice none 0 0, .slice none 0 0, .bool false]) (by kernel_rfl) rfl ?_
            exact ⟨_, _, rfl, .inl ⟨none, 0, rfl, rfl, fun _ => rfl⟩, .inl ⟨none, 0, rfl, rfl, fun _ => rfl⟩, hF.out⟩
          case pos =>
          by_cases h2 : j < nb
          case neg =>
            have hI : (ia : Int) > 0 := by omega
            have hI2 : ¬ (ib : Int) > 0 := by omega
            have hn : clashK m a b = none := clashK_none (fun i hi => hallH.out i (by have := hnb'.out; omega))
            have hq := hR3.out
            rw [hn] at hq
            subst hq
            have hF := hBwo
            clear hR3 hn hallH hBwo hoawo hobwo hbw hBw5 hoaw5 hobw5 hia hib hj1 hj2 h1 h2
            go_wp2_with fail
            refine bodyPost_ret (v := .tuple #[.slice none 0 0, .slice none 0 0, .bool false]) (by kernel_rfl) rfl ?_
            exact ⟨_, _, rfl, .inl ⟨none, 0, rfl, rfl, fun _ => rfl⟩, .inl ⟨none, 0, rfl, rfl, fun _ => rfl⟩, hF.out⟩
          case pos =>
          have hI : (ia : Int) > 0 := by omega
          have hI2 : (ib : Int) > 0 := by omega
          obtain ⟨ga, c1, e1, hca, hea⟩ := hoawo.out.elem (by rw [← hna'.out]; omega)
          obtain ⟨gb, c2, e2, hcb, heb⟩ := hobwo.out.elem (by rw [← hnb'.out]; omega)
          injection e1 with q1 q2 q3
          injection e2 with q4 q5 q6
          subst q1 q3 q4 q6
          obtain ⟨ua, hca1, hua⟩ := hea (ia - 1) (by rw [← hna'.out]; omega)
          obtain ⟨ub, hcb1, hub⟩ := heb (ib - 1) (by rw [← hnb'.out]; omega)
          obtain ⟨Ta, hTa⟩ : ∃ t, t = textS m a (ia - 1) := ⟨_, rfl⟩
          obtain ⟨Tb, hTb⟩ : ∃ t, t = textS m b (ib - 1) := ⟨_, rfl⟩
          rw [← hTa] at hua
          rw [← hTb] at hub
          have hTa2 : Hid (Ta = textS m a (a.length - 1 - j)) := by show _ = _; rw [hTa, ← hna'.out]; congr 1; omega
          have hTb2 : Hid (Tb = textS m b (b.length - 1 - j)) := by show _ = _; rw [hTb, ← hnb'.out]; congr 1; omega
          have hTalt : Hid (∀ y ∈ Ta, y < 256) := by rw [hTa]; exact textS_lt hokaH.out _ (by rw [← hna'.out]; omega)
          have hTblt : Hid (∀ y ∈ Tb, y < 256) := by rw [hTb]; exact textS_lt hokbH.out _ (by rw [← hnb'.out]; omega)
          have hTal : Ta.length ≤ 1000000 := by rw [hTa]; exact textS_len hm32 _ _
          have hTbl : Tb.length ≤ 1000000 := by rw [hTb]; exact textS_len hm32 _ _
          have hia1 : 1 ≤ ia := by omega
          have hib1 : 1 ≤ ib := by omega
          have hiac : ia ≤ pa := by have := hna'.out; omega
          have hibc : ib ≤ pb := by have := hnb'.out; omega
          have hiaN : Hid (ia - 1 = na - (j + 1)) := by show _ = _; omega
          have hibN : Hid (ib - 1 = nb - (j + 1)) := by show _ = _; omega
          have hia9 : ia ≤ 1000000 := by omega
          have hib9 : ib ≤ 1000000 := by omega
          have hj1' : j + 1 ≤ na := by omega
          have hj2' : j + 1 ≤ nb := by omega
          have hca1H : Hid (wo.cell? ⟨ga, ia - 1, none⟩ = some ua) := hca1
          have hcb1H : Hid (wo.cell? ⟨gb, ib - 1, none⟩ = some ub) := hcb1
          have hyuawo : Hid (Bytes wo ua Ta) := hua
          have hyubwo : Hid (Bytes wo ub Tb) := hub
          have hxwo : Hid (Below w5.heap.size w5 wo) := hbw.out
          obtain ⟨Aua, cua, rfl⟩ := hua.form
          obtain ⟨Aub, cub, rfl⟩ := hub.form
          clear q2 q5 hea heb hua hub hca1 hcb1 hTa hTb hia hib hca hcb hoawo hobwo hbw h1 h2 hj1 hj2
          go_upto_region 8 with fail
          refine wp_region_still_tail 13 (by kernel_rfl) (by kernel_rfl) ?_
          change wpStill _ _ wo.drew (fun a' => wpList _ _ _ _ a' wo.drew) _ _
          have hBy : Hid (Below w.heap.size w wo.drew) := hBwo.out.drew
          have hxy : Hid (Below w5.heap.size w5 wo.drew) := hxwo.out.drew
          have hyuay : Hid (Bytes wo.drew (.slice Aua Ta.length cua) Ta) := hyuawo.out.below (Below.refl _ _).drew
          have hyuby : Hid (Bytes wo.drew (.slice Aub Tb.length cub) Tb) := hyubwo.out.below (Below.refl _ _).drew
          have hca1y : Hid (wo.drew.cell? ⟨ga, ia - 1, none⟩ = some (.slice Aua Ta.length cua)) := hca1H.out
          have hcb1y : Hid (wo.drew.cell? ⟨gb, ib - 1, none⟩ = some (.slice Aub Tb.length cub)) := hcb1H.out
          clear hBwo hxwo hyuawo hyubwo hca1H hcb1H
          generalize hx : wo.drew = y at hBy hxy hyuay hyuby hca1y hcb1y ⊢
          clear hx
          simp only [List.take_succ_cons, List.take_zero, List.drop_succ_cons, List.drop_zero]
          refine still_run rfl (.slice (some ⟨ga, 0, none⟩) ia pa) (by kernel_rfl) ?_
          simp only [Act.put, fl1, fl2, fl3]
          refine still_run rfl (.slice (some ⟨ga, 0, none⟩) ia pa) (by kernel_rfl) ?_
          simp only [Act.put, fl1, fl2, fl3]
          refine still_run rfl (.int .i64 (ia : Int)) (by kernel_rfl) ?_
          simp only [Act.put, fl1, fl2, fl3]
          refine still_run rfl (.int .i64 ((ia - 1 : Nat) : Int)) (subI _ rfl ia (by kernel_rfl) hia1 (by omega) _) ?_
          simp only [Act.put, fl1, fl2, fl3]
          refine still_run rfl (.pointer (some ⟨ga, 0 + (ia - 1) * 1, none⟩)) (exec_index un92 sz92 _ _ rfl ga 0 ia pa (ia - 1) (by kernel_rfl) (by kernel_rfl) (by omega) _) ?_
          simp only [Act.put, fl1, fl2, fl3]
          refine still_run rfl (.slice Aua Ta.length cua) (exec_load_cell 25 y _ rfl ⟨ga, 0 + (ia - 1) * 1, none⟩ (by kernel_rfl) _ (by rw [Nat.zero_add, Nat.mul_one]; exact hca1y.out) (fun _ => by kernel_rfl)) ?_
          simp only [Act.put, fl1, fl2, fl3]
          refine still_run rfl (.slice (some ⟨gb, 0, none⟩) ib pb) (by kernel_rfl) ?_
          simp only [Act.put, fl1, fl2, fl3]
          refine still_run rfl (.slice (some ⟨gb, 0, none⟩) ib pb) (by kernel_rfl) ?_
          simp only [Act.put, fl1, fl2, fl3]
          refine still_run rfl (.int .i64 (ib : Int)) (by kernel_rfl) ?_
          simp only [Act.put, fl1, fl2, fl3]
          refine still_run rfl (.int .i64 ((ib - 1 : Nat) : Int)) (subI _ rfl ib (by kernel_rfl) hib1 (by omega) _) ?_
          simp only [Act.put, fl1, fl2, fl3]
          refine still_run rfl (.pointer (some ⟨gb, 0 + (ib - 1) * 1, none⟩)) (exec_index un92 sz92 _ _ rfl gb 0 ib pb (ib - 1) (by kernel_rfl) (by kernel_rfl) (by omega) _) ?_
          simp only [Act.put, fl1, fl2, fl3]
          refine still_run rfl (.slice Aub Tb.length cub) (exec_load_cell 25 y _ rfl ⟨gb, 0 + (ib - 1) * 1, none⟩ (by kernel_rfl) _ (by rw [Nat.zero_add, Nat.mul_one]; exact hcb1y.out) (fun _ => by kernel_rfl)) ?_
          simp only [Act.put, fl1, fl2, fl3]
          refine still_run rfl (.slice Aua Ta.length cua) (by kernel_rfl) ?_
          simp only [Act.put, fl1, fl2, fl3]
          refine wpStill_nil ?_
          refine sl_run rfl (.slice Aub Tb.length cub) y (by kernel_rfl) ?_
          simp only [Act.put, fl1, fl2, fl3]
          refine wpList_nil ?_
          clear hca1y hcb1y
          obtain ⟨same, hsame⟩ : ∃ s, s = decide (Ta = Tb) := ⟨_, rfl⟩
          go_upto_region 9 with fail
          refine wp_region_lit ?_
          refine sl_run rfl (.slice Aua Ta.length cua) y (by kernel_rfl) ?_
          simp only [Act.put, fl1, fl2, fl3]
          refine sl_run rfl (.slice Aub Tb.length cub) y (by kernel_rfl) ?_
          simp only [Act.put, fl1, fl2, fl3]
          refine sg_call (by kernel_rfl) 42 #[.slice Aua Ta.length cua, .slice Aub Tb.length cub] (by kernel_rfl) (R := fun v w' => v = .bool same ∧ Below y.heap.size y w') ((hsame ▸ equal_calls Ta Tb hTalt.out hTblt.out (by omega) (by omega) (.slice Aua Ta.length cua) (.slice Aub Tb.length cub) y hyuay.out hyuby.out).mono fun e w' h => ⟨_, h.1, rfl, h.2⟩) ?_
          rintro _ z ⟨rfl, hb⟩
          simp only [Act.put, fl1, fl2, fl3]
          have hBz : Hid (Below w.heap.size w z) := hBy.out.trans ((hb).mono (hBy.out).size)
          have hxz : Hid (Below w5.heap.size w5 z) := hxy.out.trans ((hb).mono (hxy.out).size)
          have hyuaz : Hid (Bytes z (.slice Aua Ta.length cua) Ta) := (hyuay.out).below hb
          have hyubz : Hid (Bytes z (.slice Aub Tb.length cub) Tb) := (hyuby.out).below hb
          clear hBy hxy hyuay hyuby
          clear hb
          refine sl_run rfl (.bool (!same)) z (by kernel_rfl) ?_
          simp only [Act.put, fl1, fl2, fl3]
          refine wpList_nil ?_
          cases same with
          | false =>
            have hk : clashK m a b = some j := clashK_some (by rw [← hna'.out]; omega) (by rw [← hnb'.out]; omega) hallH.out (by unfold pairK; rw [← hTa2.out, ← hTb2.out]; exact hsame.symm)
            have hq := hR3.out
            rw [hk] at hq
            simp only [← hTa2.out, ← hTb2.out] at hq
            subst hq
            have hF : Hid (Bytes z (.slice Aua Ta.length cua) Ta ∧ Bytes z (.slice Aub Tb.length cub) Tb ∧ Below w.heap.size w z) := ⟨hyuaz.out, hyubz.out, hBz.out⟩
            clear hR3 hk hallH hBz hxz hyuaz hyubz hsame
            go_wp2_with fail
            refine bodyPost_ret (v := .tuple #[.slice Aua Ta.length cua, .slice Aub Tb.length cub, .bool true]) (by kernel_rfl) rfl ?_
            exact ⟨_, _, rfl, hF.out⟩
          | true =>
            have hall2 : Hid (∀ i, i < j + 1 → pairK m a b i = true) := fun i hi => by
              by_cases e : i < j
              · exact hallH.out i e
              · obtain rfl : i = j := by omega
                unfold pairK; rw [← hTa2.out, ← hTb2.out]; exact hsame.symm
            clear hsame hallH hTa2 hTb2 hyuaz hyubz hTalt hTblt
            go_upto_region 11 with fail
            refine wp_region_still_tail 11 (by kernel_rfl) (by kernel_rfl) ?_
            change wpStill _ _ z.drew (fun a' => wpList _ _ _ _ a' z.drew) _ _
            have hxy2 : Hid (Below w5.heap.size w5 z.drew) := hxz.out.drew
            clear hxz hBz
            generalize hx : z.drew = y2 at hxy2 ⊢
            clear hx
            simp only [List.take_succ_cons, List.take_zero, List.drop_succ_cons, List.drop_zero]
            refine still_run rfl (.slice (some ⟨ga, 0, none⟩) ia pa) (by kernel_rfl) ?_
            simp only [Act.put, fl1, fl2, fl3]
            refine still_run rfl (.slice (some ⟨ga, 0, none⟩) ia pa) (by kernel_rfl) ?_
            simp only [Act.put, fl1, fl2, fl3]
            refine still_run rfl (.int .i64 (ia : Int)) (by kernel_rfl) ?_
            simp only [Act.put, fl1, fl2, fl3]
            refine still_run rfl (.int .i64 ((ia - 1 : Nat) : Int)) (subI _ rfl ia (by kernel_rfl) hia1 (by omega) _) ?_
            simp only [Act.put, fl1, fl2, fl3]
            refine still_run rfl (.slice (some ⟨ga, 0, none⟩) (ia - 1) pa) ((exec_takeS un92 sz92 _ _ rfl (some ⟨ga, 0, none⟩) ia pa (ia - 1) (by kernel_rfl) (by kernel_rfl) (by omega) _).trans (by rw [if_neg (by omega), Option.map_some, Addr.add_mid, Nat.add_zero])) ?_
            simp only [Act.put, fl1, fl2, fl3]
            refine still_run rfl (.slice (some ⟨gb, 0, none⟩) ib pb) (by kernel_rfl) ?_
            simp only [Act.put, fl1, fl2, fl3]
            refine still_run rfl (.slice (some ⟨gb, 0, none⟩) ib pb) (by kernel_rfl) ?_
            simp only [Act.put, fl1, fl2, fl3]
            refine still_run rfl (.int .i64 (ib : Int)) (by kernel_rfl) ?_
            simp only [Act.put, fl1, fl2, fl3]
            refine still_run rfl (.int .i64 ((ib - 1 : Nat) : Int)) (subI _ rfl ib (by kernel_rfl) hib1 (by omega) _) ?_
            simp only [Act.put, fl1, fl2, fl3]
            refine still_run rfl (.slice (some ⟨gb, 0, none⟩) (ib - 1) pb) ((exec_takeS un92 sz92 _ _ rfl (some ⟨gb, 0, none⟩) ib pb (ib - 1) (by kernel_rfl) (by kernel_rfl) (by omega) _).trans (by rw [if_neg (by omega), Option.map_some, Addr.add_mid, Nat.add_zero])) ?_
            simp only [Act.put, fl1, fl2, fl3]
            refine still_run rfl (.slice (some ⟨ga, 0, none⟩) (ia - 1) pa) (by kernel_rfl) ?_
            simp only [Act.put, fl1, fl2, fl3]
            refine wpStill_nil ?_
            refine sl_run rfl (.slice (some ⟨gb, 0, none⟩) (ib - 1) pb) y2 (by kernel_rfl) ?_
            simp only [Act.put, fl1, fl2, fl3]
            refine wpList_nil ?_
            go_wp2_with fail
            go_roundw
            case rel => exact ⟨j + 1, hj1', hj2', by rw [hiaN.out], by rw [hibN.out], hall2, hxy2⟩
            case measure => simp [lenOf]; omega
end Go.Proofs.YtadopkifpfmhcaaDoor
namespace Go.Proofs.YtadopkifpfmhcaaDoor
open Go.RowKit
open Sha (vals Bytes Lies bytesC sumB)
open Go.Proofs.YtadopkifpfmhcaaDoorW.PrintWords Go.Proofs.YtadopkifpfmhcaaDoorW.PrintLast Go.Proofs.YtadopkifpfmhcaaDoorW.PrintMore
end Go.Proofs.YtadopkifpfmhcaaDoor
namespace Go.Proofs.YtadopkifpfmhcaaDoor
open Go.RowKit
open Sha (vals Bytes Lies bytesC sumB)
open Classical in
noncomputable instance : DecidableEq En := fun _ _ => propDecidable _
theorem eq_items2 (d e : List Nat) (hd : d.length = 32) (he : e.length = 32) (k : Nat) (w : World) : ∀ (is : List Nat), (∀ i ∈ is, i < 32) → (Op.eqItems (k + 1) 5 (Tryd.prog.cellsOf 5) (bytesC d) (bytesC e) is).run Tryd.prog w = .ok (is.all fun i => d.getD i 0 == e.getD i 0) w
  | [], _ => by simp [Op.eqItems]
  | i :: is, h => by
    have hc : Tryd.prog.cellsOf 5 = 1 := by kernel_rfl
    have ha : ∀ w, (isAgg 5).run Tryd.prog w = .ok false w := fun w => by kernel_rfl
    have hi : i < 32 := h i (by simp)
    have hp : ∀ (x : List Nat), x.length = 32 → (part 5 (bytesC x) (i * Tryd.prog.cellsOf 5)).run Tryd.prog w = .ok (.int .u8 (x.getD i 0 : Nat)) w := fun x hx => by
      rw [hc, Nat.mul_one]
      unfold part
      simp only [Sem.run_bind, ha, Result.andThen_ok, Sha.bytesC_get x i (by omega)]
      rfl
    have ih := eq_items2 d e hd he k w is (fun j hj => h j (by simp [hj]))
    have hb : (((d.getD i 0 : Nat) : Int) == ((e.getD i 0 : Nat) : Int)) = (d.getD i 0 == e.getD i 0) := by
      rw [Bool.eq_iff_iff, beq_iff_eq, beq_iff_eq]; omega
    simp only [Op.eqItems, Sem.run_bind, hp d hd, hp e he, Result.andThen_ok, run_equalIn_int w k 5 .u8 .u8 _ _ Tryd.underlying5, hb, List.all_cons]
    cases hq : (d.getD i 0 == e.getD i 0) with
    | true => simp [ih]
    | false => simp
theorem list_all32 {d e : List Nat} (hd : d.length = 32) (he : e.length = 32) : ((List.range 32).all fun i => d.getD i 0 == e.getD i 0) = decide (d = e) := by
  rw [Bool.eq_iff_iff, decide_eq_true_iff, List.all_eq_true]
  constructor
  · intro h
    refine List.ext_getElem (by omega) fun i h1 h2 => ?_
    have := h i (List.mem_range.2 (by omega))
    rw [beq_iff_eq] at this
    simpa [List.getD_eq_getElem?_getD, h1, h2] using this
  · rintro rfl i _; simp
theorem run_eq22 (d e : List Nat) (hd : d.length = 32) (he : e.length = 32) (k : Nat) (w : World) : (Op.equalIn (k + 2) 22 (.agg (bytesC d)) (.agg (bytesC e))).run Tryd.prog w = .ok (decide (d = e)) w := by
  obtain ⟨i5, hi5, _⟩ := info_parts inf5
  rw [run_equalIn_array w (k + 1) (bytesC d) (bytesC e) Tryd.underlying22 hi5, ← list_all32 hd he]
  exact eq_items2 d e hd he k w _ (fun i hi => List.mem_range.1 hi)
theorem bytes_eq (a b : ByteArray) : (a.toList == b.toList) = decide (a = b) := by
  rw [Bool.eq_iff_iff, beq_iff_eq, decide_eq_true_iff, ByteArray.toList_eq, ByteArray.toList_eq]
  constructor
  · intro h
    obtain ⟨⟨x⟩⟩ := a
    obtain ⟨⟨y⟩⟩ := b
    simpa using h
  · rintro rfl; rfl
theorem en_eq (x y : En) : decide (x = y) = (decide (x.u = y.u) && (decide (x.t = y.t) && (decide (x.x = y.x) && decide (x.d = y.d)))) := by
  rw [Bool.eq_iff_iff]
  simp only [Bool.and_eq_true, decide_eq_true_eq]
  constructor
  · rintro rfl; exact ⟨rfl, rfl, rfl, rfl⟩
  · rintro ⟨h1, h2, h3, h4⟩
    obtain ⟨_, _, _, _, _⟩ := x
    obtain ⟨_, _, _, _, _⟩ := y
    simp only at h1 h2 h3 h4
    subst h1 h2 h3 h4
    rfl
theorem ext3 (e : En) : (encE e).extract 3 35 = bytesC e.d := by
  obtain ⟨u, t, x, d, hd⟩ := e
  unfold encE
  simp only
  have : (Value.string u :: Value.int .i64 t :: Value.string x :: d.map fun (n : Nat) => Value.int .u8 (n : Int)).length = 35 := by simp [hd]
  rw [List.extract_toArray]
  unfold bytesC
  congr 1
  simp [List.extract, hd]
  exact List.take_of_length_le (by simp [hd])
theorem part_u (e : En) (w : World) : (part 9 (encE e) 0).run Tryd.prog w = .ok (.string e.u) w := by
  unfold part
  have ha : (isAgg 9).run Tryd.prog w = .ok false w := by kernel_rfl
  simp only [Sem.run_bind, ha, Result.andThen_ok]
  rfl
theorem part_t (e : En) (w : World) : (part 2 (encE e) 1).run Tryd.prog w = .ok (.int .i64 e.t) w := by
  unfold part
  have ha : (isAgg 2).run Tryd.prog w = .ok false w := by kernel_rfl
  simp only [Sem.run_bind, ha, Result.andThen_ok]
  rfl
theorem part_x (e : En) (w : World) : (part 9 (encE e) 2).run Tryd.prog w = .ok (.string e.x) w := by
  unfold part
  have ha : (isAgg 9).run Tryd.prog w = .ok false w := by kernel_rfl
  simp only [Sem.run_bind, ha, Result.andThen_ok]
  rfl
theorem part_d (e : En) (w : World) : (part 22 (encE e) 3).run Tryd.prog w = .ok (.agg (bytesC e.d)) w := by
  unfold part
  have ha : (isAgg 22).run Tryd.prog w = .ok true w := by kernel_rfl
  have hs : (sizeOf 22).run Tryd.prog w = .ok 32 w := by kernel_rfl
  simp only [Sem.run_bind, ha, Result.andThen_ok, if_true, hs, Sem.run_pure, ext3, Nat.reduceAdd]
theorem fields24 : (Tryd.prog.fieldsOf 24).toList.map (fun f => (f.name, f.type, f.offset)) = [("User", 9, 0), ("Tick", 2, 1), ("Text", 9, 2), ("Digest", 22, 3)] := by kernel_rfl
theorem run_eq24 (x y : En) (k : Nat) (w : World) : (Op.equalIn (k + 4) 24 (.agg (encE x)) (.agg (encE y))).run Tryd.prog w = .ok (decide (x = y)) w := by
  rw [run_equalIn_struct w (k + 3) 24 (encE x) (encE y) (by kernel_rfl) (by kernel_rfl), en_eq]
  have hf := fields24
  generalize (Tryd.prog.fieldsOf 24).toList = fs at hf ⊢
  have hl : fs.length = 4 := by have := congrArg List.length hf; simpa using this
  match fs, hl with
  | [f0, f1, f2, f3], _ =>
    simp only [List.map_cons, List.map_nil, List.cons.injEq, Prod.mk.injEq, and_true] at hf
    obtain ⟨⟨n0, t0, o0⟩, ⟨n1, t1, o1⟩, ⟨n2, t2, o2⟩, ⟨n3, t3, o3⟩⟩ := hf
    have hn0 : f0.name ≠ "_" := by rw [n0]; decide
    have hn1 : f1.name ≠ "_" := by rw [n1]; decide
    have hn2 : f2.name ≠ "_" := by rw [n2]; decide
    have hn3 : f3.name ≠ "_" := by rw [n3]; decide
    have ht : (x.t == y.t) = decide (x.t = y.t) := by rw [Bool.eq_iff_iff, beq_iff_eq, decide_eq_true_iff]
    simp only [Op.eqFields, if_pos hn0, if_pos hn1, if_pos hn2, if_pos hn3, t0, t1, t2, t3, o0, o1, o2, o3, Sem.run_bind, part_u, part_t, part_x, part_d, Result.andThen_ok, Sem.run_ite, Sem.run_pure,
      run_equalIn_string _ (k + 2) 9 _ _ Tryd.underlying9, run_equalIn_int _ (k + 2) 2 .i64 .i64 _ _ Tryd.underlying2, run_eq22 x.d y.d x.hd y.hd (k + 1), bytes_eq, ht]
    by_cases h0 : x.u = y.u <;> by_cases h1 : x.t = y.t <;> by_cases h2 : x.x = y.x <;> by_cases h3 : x.d = y.d <;> simp [h0, h1, h2, h3]
theorem guardE : Tryd.prog.eqGuardType Tryd.prog.depth 24 = false := by kernel_rfl
theorem exec_neE {o : Oper} {a : Act} (x y : Operand) (ho : o.op = .binOp .neq 24 x y 24) (u v : En) (hx : a.eval x = .agg (encE u)) (hy : a.eval y = .agg (encE v)) (w : World) : (execOp a.eval o).run Tryd.prog w = .ok (.value (.bool (!decide (u = v)))) w := by
  unfold execOp
  simp only [ho, hx, hy, Sem.run_bind, run_eqGuard_agg w .neq 24 x y _ _ guardE, Result.andThen_ok, run_neq_struct, run_eq24 u v 9996 w, Sem.run_pure]
end Go.Proofs.YtadopkifpfmhcaaDoor
namespace Go.Proofs.YtadopkifpfmhcaaDoor
open Go.RowKit
open Sha (vals Bytes Lies bytesC sumB)
open Go.Proofs.YtadopkifpfmhcaaDoorW.PrintWords Go.Proofs.YtadopkifpfmhcaaDoorW.PrintLast Go.Proofs.YtadopkifpfmhcaaDoorW.PrintMore
theorem ens_ext {a b : List En} (hl : a.length = b.length) (h : ∀ j, j < a.length → a.getD j default = b.getD j default) : a = b := by
  refine List.ext_getElem hl fun i h1 h2 => ?_
  have := h i h1
  simpa [List.getD_eq_getElem?_getD, h1, h2] using this
set_option maxRecDepth 100000 in
set_option maxHeartbeats 8000000 in
theorem Same_calls (a b : List En) (A : Option Addr) (na ca : Nat) (hna : na = a.length) (hna9 : na ≤ 1000000000) (B : Option Addr) (nb cb : Nat) (hnb : nb = b.length) (hnb9 : nb ≤ 1000000000) (w : World) (hya : Rw 35 encE w (.slice A na ca) a) (hyb : Rw 35 encE w (.slice B nb cb) b) :
    Calls Tryd.prog 29 #[.slice A na ca, .slice B nb cb] w fun e w' => e = .returned (.bool (decide (a = b))) ∧ Below w.heap.size w w' := by
  have hna' : Hid (na = a.length) := hna
  have hnb' : Hid (nb = b.length) := hnb
  have hyaw : Hid (Rw 35 encE w (.slice A na ca) a) := hya
  have hybw : Hid (Rw 35 encE w (.slice B nb cb) b) := hyb
  have hBw : Hid (Below w.heap.size w w) := Below.refl _ _
  obtain ⟨R, hR⟩ : ∃ R, R = decide (a = b) := ⟨_, rfl⟩
  rw [← hR]
  have hRH : Hid (R = decide (a = b)) := hR
  clear hna hnb hya hyb hR
  by_cases hl : na = nb
  case neg =>
    have hn : R = false := by rw [hRH.out]; exact decide_eq_false (fun e => hl (by rw [hna'.out, hnb'.out, e]))
    subst hn
    have hI : ((na : Int) != (nb : Int)) = true := by rw [bne_iff_ne]; omega
    have hI2 : ¬ (na : Int) = (nb : Int) := by omega
    clear hRH hna' hnb'
    go_enter Tryd.func29, Tryd.ntmps29
    go_wp2_with fail
    go_ret
    exact ⟨rfl, hBw.out⟩
  case pos =>
  have hnbH : Hid (na = b.length) := by show _ = _; rw [hl]; exact hnb'.out
  subst hl
  clear hnb'
  go_enter Tryd.func29, Tryd.ntmps29
  go_wp2_with fail
  go_loopw [5] (fun p wr => ∃ j : Nat, j ≤ na ∧ p = .int .i64 (j : Int) ∧ Hid (∀ i, i < j → a.getD i default = b.getD i default) ∧ Hid (Below w.heap.size w wr)) (fun p _ => na - (intOf p).toNat)
  case atStart => exact ⟨0, by omega, rfl, fun i h => by omega, hBw⟩
  case round =>
    obtain ⟨j, hj, rfl, hall, hbw⟩ := hrel
    obtain ⟨wo, rfl⟩ : ∃ v : World, v = wr := ⟨_, rfl⟩
    by_cases h1 : j < na
    case neg =>
      have hI : ¬ (j : Int) < (na : Int) := by omega
      have hn : R = true := by
        rw [hRH.out]
        refine decide_eq_true (ens_ext (by rw [← hna'.out, ← hnbH.out]) (fun i hi => hall.out i (by have := hna'.out; omega)))
      subst hn
      have hF := hbw
      clear hRH hall hbw hBw
      go_wp2_with fail
      go_ret
      exact ⟨rfl, hF.out⟩
    case pos =>
    have hI : (j : Int) < (na : Int) := by omega
    obtain ⟨g, o, rfl, hnc, hg, hel⟩ := hyaw.out.elem j (by rw [← hna'.out]; exact h1)
    obtain ⟨g2, o2, rfl, hnc2, hg2, hel2⟩ := hybw.out.elem j (by rw [← hnbH.out]; exact h1)
    obtain ⟨x, hx⟩ : ∃ x, x = a.getD j default := ⟨_, rfl⟩
    obtain ⟨y, hy⟩ : ∃ y, y = b.getD j default := ⟨_, rfl⟩
    rw [← hx] at hel
    rw [← hy] at hel2
    have hxH : Hid (x = a.getD j default) := hx
    have hyH : Hid (y = b.getD j default) := hy
    have helH : Hid (∀ w', Below w.heap.size w w' → w'.rangeAt g (o + j * 35) (encE x).toList) := fun w' h => range_below hel h hg
    have hel2H : Hid (∀ w', Below w.heap.size w w' → w'.rangeAt g2 (o2 + j * 35) (encE y).toList) := fun w' h => range_below hel2 h hg2
    have hallH : Hid (∀ i, i < j → a.getD i default = b.getD i default) := hall
    have hBwo : Hid (Below w.heap.size w wo) := hbw.out
    clear hx hy hel hel2 hall hbw hg hg2
    obtain ⟨same, hsame⟩ : ∃ s, s = decide (x = y) := ⟨_, rfl⟩
    go_upto_region 6 with fail
    refine wp_normalG ?_
    refine wp_region_held_drew (S := fun w' => Below wo.heap.size wo w') (by kernel_rfl) (Below.refl _ _).drew (fun hS => ?_)
    change wpAnyH _ _ _ _ _ 9 (Array.replicate 9 false) _ _
    generalize hx : wo.drew = y0 at hS ⊢
    clear hx
    refine held_take 0 rfl (by kernel_rfl) (by kernel_rfl) (by kernel_rfl) (.slice (some ⟨g, o, none⟩) na ca) (fun _ _ _ h => nomatch h.1) (by kernel_rfl) (fun w' h => (by kernel_rfl)) hS ?_
    simp only [Act.put, fl1, fl2, fl3, fl4, fl5, fl6]
    refine held_take 1 rfl (by kernel_rfl) (by kernel_rfl) (by kernel_rfl) (.int .i64 (j : Int)) (fun _ _ _ h => nomatch h.1) (by kernel_rfl) (fun w' h => (by kernel_rfl)) hS ?_
    simp only [Act.put, fl1, fl2, fl3, fl4, fl5, fl6]
    refine held_take 2 rfl (by kernel_rfl) (by kernel_rfl) (by kernel_rfl) (.pointer (some ⟨g, o + j * 35, none⟩)) (fun _ _ _ h => nomatch h.1) (by kernel_rfl) (fun w' h => exec_index un34 sz34 _ _ rfl g o na ca j (by kernel_rfl) (by kernel_rfl) h1 w') hS ?_
    simp only [Act.put, fl1, fl2, fl3, fl4, fl5, fl6]
    refine held_take 3 rfl (by kernel_rfl) (by kernel_rfl) (by kernel_rfl) (.agg (encE x)) (fun _ _ _ h => nomatch h.1) (by kernel_rfl) (fun w' h => load_en w' _ rfl g (o + j * 35) (by kernel_rfl) x (helH.out w' (hBwo.out.trans (h.mono hBwo.out.size)))) hS ?_
    simp only [Act.put, fl1, fl2, fl3, fl4, fl5, fl6]
    refine held_take 4 rfl (by kernel_rfl) (by kernel_rfl) (by kernel_rfl) (.slice (some ⟨g2, o2, none⟩) na cb) (fun _ _ _ h => nomatch h.1) (by kernel_rfl) (fun w' h => (by kernel_rfl)) hS ?_
    simp only [Act.put, fl1, fl2, fl3, fl4, fl5, fl6]
    refine held_take 5 rfl (by kernel_rfl) (by kernel_rfl) (by kernel_rfl) (.int .i64 (j : Int)) (fun _ _ _ h => nomatch h.1) (by kernel_rfl) (fun w' h => (by kernel_rfl)) hS ?_
    simp only [Act.put, fl1, fl2, fl3, fl4, fl5, fl6]
    refine held_take 6 rfl (by kernel_rfl) (by kernel_rfl) (by kernel_rfl) (.pointer (some ⟨g2, o2 + j * 35, none⟩)) (fun _ _ _ h => nomatch h.1) (by kernel_rfl) (fun w' h => exec_index un34 sz34 _ _ rfl g2 o2 na cb j (by kernel_rfl) (by kernel_rfl) h1 w') hS ?_
    simp only [Act.put, fl1, fl2, fl3, fl4, fl5, fl6]
    refine held_take 7 rfl (by kernel_rfl) (by kernel_rfl) (by kernel_rfl) (.agg (encE y)) (fun _ _ _ h => nomatch h.1) (by kernel_rfl) (fun w' h => load_en w' _ rfl g2 (o2 + j * 35) (by kernel_rfl) y (hel2H.out w' (hBwo.out.trans (h.mono hBwo.out.size)))) hS ?_
    simp only [Act.put, fl1, fl2, fl3, fl4, fl5, fl6]
    refine held_take 8 rfl (by kernel_rfl) (by kernel_rfl) (by kernel_rfl) (.bool (!same)) (fun _ _ _ h => nomatch h.1) (by kernel_rfl) (fun w' h => (exec_neE _ _ rfl x y (by kernel_rfl) (by kernel_rfl) w').trans (by rw [hsame])) hS ?_
    simp only [Act.put, fl1, fl2, fl3, fl4, fl5, fl6]
    have hBy0 : Hid (Below w.heap.size w y0) := hBwo.out.trans (hS.mono hBwo.out.size)
    clear hS hBwo helH hel2H
    refine wpAnyH_done (by kernel_rfl) ?_ _
    refine ⟨rfl, ?_⟩
    rename_i hK
    refine hK _ _ ?_
    clear hK
    cases same with
    | false =>
      have hn : R = false := by
        rw [hRH.out]
        refine decide_eq_false (fun e => of_decide_eq_false hsame.symm (by rw [hxH.out, hyH.out, e]))
      subst hn
      clear hRH hallH hsame hBw hyaw hybw
      go_wp2_with fail
      go_ret
      exact ⟨rfl, hBy0.out⟩
    | true =>
      have hall2 : Hid (∀ i, i < j + 1 → a.getD i default = b.getD i default) := fun i hi => by
        by_cases e : i < j
        · exact hallH.out i e
        · obtain rfl : i = j := by omega
          rw [← hxH.out, ← hyH.out]; exact of_decide_eq_true hsame.symm
      clear hallH hsame hxH hyH
      go_wp2_with fail
      go_roundw
      case rel => exact ⟨j + 1, by omega, by go_num, hall2, hBy0⟩
      case measure => simp [intOf]; omega
end Go.Proofs.YtadopkifpfmhcaaDoor
namespace Go.Proofs.YtadopkifpfmhcaaDoor
open Go.RowKit
open Sha (vals Bytes Lies bytesC sumB)
theorem numB_succ (sz n : Nat) : numB (sz + 1) n = numB sz (n / 256) ++ [n % 256] := by
  unfold numB
  rw [List.range_succ, List.map_append]
  congr 1
  · refine List.map_congr_left fun i hi => ?_
    have h := List.mem_range.1 hi
    have e : 8 * (sz + 1 - 1 - i) = 8 + 8 * (sz - 1 - i) := by omega
    rw [e, Nat.pow_add, ← Nat.div_div_eq_div_mul]
  · simp
theorem numB_inj : ∀ (sz n m : Nat), n < 256 ^ sz → m < 256 ^ sz → numB sz n = numB sz m → n = m
  | 0, n, m, h1, h2, _ => by simp at h1 h2; omega
  | sz + 1, n, m, h1, h2, h => by
    rw [numB_succ, numB_succ] at h
    have h3 := List.append_inj' h rfl
    have e1 := numB_inj sz (n / 256) (m / 256) (by rw [Nat.pow_succ] at h1; omega) (by rw [Nat.pow_succ] at h2; omega) h3.1
    have e2 : n % 256 = m % 256 := by have := h3.2; simpa using this
    omega
theorem bytesN_inj {a b : ByteArray} (h : bytesN a = bytesN b) : a = b := by
  unfold bytesN at h
  have h2 : a.data.toList = b.data.toList := by
    have h3 := congrArg (List.map UInt8.ofNat) h
    have e : ∀ l : List UInt8, (l.map UInt8.toNat).map UInt8.ofNat = l := fun l => by
      rw [List.map_map]
      exact (List.map_congr_left (g := id) fun x _ => by simp [Function.comp]).trans (List.map_id _)
    rwa [e, e] at h3
  obtain ⟨⟨x⟩⟩ := a
  obtain ⟨⟨y⟩⟩ := b
  simpa using h2
theorem good_parts {e : En} (h : goodE e = true) : e.u.size ≤ 16 ∧ 0 ≤ e.t ∧ e.t ≤ 1099511627776 ∧ e.x.size ≤ 4096 := by
  simp only [goodE, Pure.nameB, Bool.and_eq_true, decide_eq_true_eq] at h
  exact ⟨h.1.2.2.2.1, h.2⟩
theorem entB_inj {i j : Nat} {e f : En} (he : goodE e = true) (hf : goodE f = true) (hi : i < 1000000) (hj : j < 1000000) (h : entB i e = entB j f) : i = j ∧ e = f := by
  obtain ⟨he1, he2, he3, he4⟩ := good_parts he
  obtain ⟨hf1, hf2, hf3, hf4⟩ := good_parts hf
  unfold entB at h
  simp only [List.append_assoc] at h
  have h1 := List.append_inj h (by rw [numB_len, numB_len])
  have hij := numB_inj 8 i j (by omega) (by omega) h1.1
  have h2 := List.append_inj h1.2 rfl
  have hu : e.u.size = f.u.size := by have := h2.1; simp at this; omega
  have h3 := List.append_inj h2.2 (by rw [bytesN_len, bytesN_len, hu])
  have h4 := List.append_inj h3.2 (by rw [numB_len, numB_len])
  have ht := numB_inj 8 e.t.toNat f.t.toNat (by omega) (by omega) h4.1
  have h5 := List.append_inj h4.2 (by rw [numB_len, numB_len])
  have hx := numB_inj 4 e.x.size f.x.size (by omega) (by omega) h5.1
  have h6 := List.append_inj h5.2 (by rw [bytesN_len, bytesN_len, hx])
  refine ⟨hij, ?_⟩
  have e1 := bytesN_inj h3.1
  have e2 : e.t = f.t := by omega
  have e3 := bytesN_inj h6.1
  have e4 := h6.2
  obtain ⟨_, _, _, _, _⟩ := e
  obtain ⟨_, _, _, _, _⟩ := f
  simp only at e1 e2 e3 e4
  subst e1 e2 e3 e4
  rfl
theorem right_good {cut : Int} {l : List En} (h : rightS cut l = true) : ∀ x ∈ l, goodE x = true := fun x hx => by
  simp only [rightS, badsB, Bool.and_eq_true, decide_eq_true_eq, Bool.not_eq_true'] at h
  have := List.any_eq_false.1 h.2.2 x hx
  simpa using this
theorem bytesS_good {i : Nat} {e : En} (h : goodE e = true) : (bytesS (i : Int) e).1 = entB i e := by
  unfold bytesS
  rw [if_neg (by rw [h]; simp), Int.toNat_natCast]
theorem textS_parts {m : Nat} (hm : m ≤ 32) {a b : List En} (ha : ∀ x ∈ a, goodE x = true) (hb : ∀ x ∈ b, goodE x = true) {i j : Nat} (hi : i < a.length) (hj : j < b.length) (hla : a.length ≤ 1000000) (hlb : b.length ≤ 1000000)
    (h : textS m a i = textS m b j) : headP m a i = headP m b j ∧ i = j ∧ a.getD i default = b.getD j default := by
  unfold textS at h
  have h1 := List.append_inj h (by rw [headP_len hm, headP_len hm])
  have ga : goodE (a.getD i default) = true := ha _ (by simp [hi])
  have gb : goodE (b.getD j default) = true := hb _ (by simp [hj])
  rw [bytesS_good ga, bytesS_good gb] at h1
  obtain ⟨h2, h3⟩ := entB_inj ga gb (by omega) (by omega) h1.2
  exact ⟨h1.1, h2, h3⟩
theorem headP_next (m : Nat) (l : List En) (k : Nat) : headP m l (k + 1) = (sumB (textS m l k)).take m := rfl
theorem clashK_get {m : Nat} {a b : List En} {j : Nat} (h : clashK m a b = some j) : j < a.length ∧ j < b.length ∧ pairK m a b j = false ∧ ∀ i, i < j → pairK m a b i = true := by
  unfold clashK at h
  rw [List.find?_range_eq_some] at h
  obtain ⟨h1, h2, h3⟩ := h
  have := List.mem_range.1 h2
  exact ⟨by omega, by omega, by simpa using h1, fun i hi => by simpa using h3 i hi⟩
/-- Unlike lists with one head show two. -/
theorem clash_found {m : Nat} (hm : m ≤ 32) {a b : List En} (ha : ∀ x ∈ a, goodE x = true) (hb : ∀ x ∈ b, goodE x = true) (hla : a.length ≤ 1000000) (hlb : b.length ≤ 1000000) (hh : headP m a a.length = headP m b b.length) (hne : a ≠ b) (h0 : a ≠ []) (h1 : b ≠ []) :
    ∃ j, clashK m a b = some j ∧ textS m a (a.length - 1 - j) ≠ textS m b (b.length - 1 - j) ∧ (sumB (textS m a (a.length - 1 - j))).take m = (sumB (textS m b (b.length - 1 - j))).take m := by
  have la : 0 < a.length := List.length_pos_iff.2 h0
  have lb : 0 < b.length := List.length_pos_iff.2 h1
  cases hk : clashK m a b with
  | none =>
    exfalso
    have hall : ∀ i, i < min a.length b.length → pairK m a b i = true := fun i hi => by
      unfold clashK at hk
      rw [List.find?_eq_none] at hk
      have := hk i (List.mem_range.2 hi)
      simpa using this
    have p0 := of_decide_eq_true (hall 0 (by omega))
    have q0 := (textS_parts hm ha hb (by omega) (by omega) hla hlb p0).2.1
    have hl : a.length = b.length := by omega
    refine hne (ens_ext hl fun j hj => ?_)
    have p := of_decide_eq_true (hall (a.length - 1 - j) (by omega))
    have e1 : a.length - 1 - (a.length - 1 - j) = j := by omega
    have e2 : b.length - 1 - (a.length - 1 - j) = j := by omega
    rw [e1, e2] at p
    exact (textS_parts hm ha hb hj (by omega) hla hlb p).2.2
  | some j =>
    obtain ⟨g1, g2, g3, g4⟩ := clashK_get hk
    refine ⟨j, rfl, of_decide_eq_false g3, ?_⟩
    rw [← headP_next, ← headP_next]
    by_cases hj : j = 0
    · subst hj
      have e1 : a.length - 1 - 0 + 1 = a.length := by omega
      have e2 : b.length - 1 - 0 + 1 = b.length := by omega
      rw [e1, e2]; exact hh
    · have p := of_decide_eq_true (g4 (j - 1) (by omega))
      have e1 : a.length - 1 - (j - 1) = a.length - 1 - j + 1 := by omega
      have e2 : b.length - 1 - (j - 1) = b.length - 1 - j + 1 := by omega
      rw [e1, e2] at p
      exact (textS_parts hm ha hb (by omega) (by omega) hla hlb p).1
end Go.Proofs.YtadopkifpfmhcaaDoor
namespace Go.Proofs.YtadopkifpfmhcaaDoor
open Go.RowKit
open Sha (vals Bytes Lies bytesC sumB)
open Go.Proofs.YtadopkifpfmhcaaDoorW.PrintWords Go.Proofs.YtadopkifpfmhcaaDoorW.PrintLast Go.Proofs.YtadopkifpfmhcaaDoorW.PrintMore
end Go.Proofs.YtadopkifpfmhcaaDoor
namespace Go.Proofs.YtadopkifpfmhcaaDoor
open Go.RowKit
open Sha (vals Bytes Lies bytesC sumB)
open Go.Proofs.YtadopkifpfmhcaaDoorW.PrintWords Go.Proofs.YtadopkifpfmhcaaDoorW.PrintLast Go.Proofs.YtadopkifpfmhcaaDoorW.PrintMore
theorem headS_ok {cut : Int} {l : List En} {h : List Nat} {e : Nat} (hh : headS cut l = (h, e)) : (e = 0 ∧ rightS cut l = true ∧ h = headP cut.toNat l l.length) ∨ (e ≠ 0 ∧ rightS cut l = false) := by
  unfold headS at hh
  split at hh
  · rename_i hr
    injection hh with h1 h2
    exact .inl ⟨h2.symm, hr, h1.symm⟩
  · rename_i hr
    injection hh with h1 h2
    exact .inr ⟨by omega, by simpa using hr⟩
end Go.Proofs.YtadopkifpfmhcaaDoor
namespace Go.Proofs.YtadopkifpfmhcaaDoor
open Go.RowKit
open Sha (vals Bytes Lies bytesC sumB)
open Go.Proofs.YtadopkifpfmhcaaDoorW.PrintWords Go.Proofs.YtadopkifpfmhcaaDoorW.PrintLast Go.Proofs.YtadopkifpfmhcaaDoorW.PrintMore
set_option maxRecDepth 100000 in
set_option maxHeartbeats 16000000 in
theorem bound_calls (a b : List En) (hoka : ∀ x ∈ a, x.ok) (hokb : ∀ x ∈ b, x.ok) (hra : rightS 32 a = true) (hrb : rightS 32 b = true) (ha0 : a ≠ []) (A : Option Addr) (na ca : Nat) (hna : na = a.length) (hna9 : na ≤ 1000000) (B : Option Addr) (nb cb : Nat) (hnb : nb = b.length) (hnb9 : nb ≤ 1000000) (u : Value) (w : World) (hya : Rw 35 encE w (.slice A na ca) a) (hyb : Rw 35 encE w (.slice B nb cb) b) (hu : Bytes w u (headP 32 a a.length)) :
    Calls Tryd.prog 31 #[.slice A na ca, .slice B nb cb, u] w fun z w' => z = .returned (.bool true) ∧ Below w.heap.size w w' := by
  have hyaw : Hid (Rw 35 encE w (.slice A na ca) a) := hya
  have hybw : Hid (Rw 35 encE w (.slice B nb cb) b) := hyb
  have hBw : Hid (Below w.heap.size w w) := Below.refl _ _
  have hokaH : Hid (∀ x ∈ a, x.ok) := hoka
  have hokbH : Hid (∀ x ∈ b, x.ok) := hokb
  have hna' : Hid (na = a.length) := hna
  have hnb' : Hid (nb = b.length) := hnb
  have hraH : Hid (rightS 32 a = true) := hra
  have hrbH : Hid (rightS 32 b = true) := hrb
  have ha0H : Hid (a ≠ []) := ha0
  obtain ⟨H, hH⟩ : ∃ H, H = headP 32 a a.length := ⟨_, rfl⟩
  rw [← hH] at hu
  have hHH : Hid (H = headP 32 a a.length) := hH
  have huw : Hid (Bytes w u H) := hu
  have hHl : H.length = 32 := by rw [hH]; exact headP_len (by decide) _ _
  have hHlt : Hid (∀ x ∈ H, x < 256) := by rw [hH]; exact headP_lt _ _ _
  obtain ⟨sh, hsh⟩ : ∃ s, s = decide (H = headP 32 b b.length) := ⟨_, rfl⟩
  obtain ⟨V, hV⟩ : ∃ V, V = verS 32 b H := ⟨_, rfl⟩
  have hVH : Hid (V = verS 32 b H) := hV
  have hV2 : Hid (V = if sh = true then 0 else 23) := by
    show _ = _
    rw [hV, hsh]
    unfold verS headS
    rw [if_pos hrb]
    by_cases e : H = headP 32 b b.length
    · simp [e]
    · have e2 : ¬ headP 32 b b.length = H := fun h => e h.symm
      simp [e, e2]
  have hshH : Hid (sh = decide (H = headP 32 b b.length)) := hsh
  clear hya hyb hoka hokb hna hnb hra hrb ha0 hH hu hV hsh
  go_enter Tryd.func31, Tryd.ntmps31
  go_upto_region 1 with fail
  refine wp_region_lit ?_
  refine sl_run rfl (.slice B nb cb) w (by kernel_rfl) ?_
  simp only [Act.put, fl1, fl2, fl3]
  refine sl_run rfl (u) w (by kernel_rfl) ?_
  simp only [Act.put, fl1, fl2, fl3]
  refine sg_call (by kernel_rfl) 18 #[.int .i64 32, .slice B nb cb, u] (by kernel_rfl) (R := fun v w' => v = .int .i64 (V : Int) ∧ Below w.heap.size w w') ((hVH.out.symm ▸ Verify_calls 32 b hokbH.out B nb cb hnb'.out (by omega) H hHlt.out (by omega) u w hybw.out huw.out).mono fun e w' h => ⟨_, h.1, rfl, h.2⟩) ?_
  rintro _ w1 ⟨rfl, hb⟩
  simp only [Act.put, fl1, fl2, fl3]
  have hBw1 : Hid (Below w.heap.size w w1) := hBw.out.trans ((hb).mono (hBw.out).size)
  have hyaw1 : Hid (Rw 35 encE w1 (.slice A na ca) a) := (hyaw.out).below hb
  have hybw1 : Hid (Rw 35 encE w1 (.slice B nb cb) b) := (hybw.out).below hb
  have huw1 : Hid (Bytes w1 u H) := (huw.out).below hb
  clear hBw hyaw hybw huw
  clear hb
  refine sl_run rfl (.int .i64 (V : Int)) w1 (by kernel_rfl) ?_
  simp only [Act.put, fl1, fl2, fl3]
  refine wpList_nil ?_
  cases sh with
  | false =>
    have hv : V = 23 := by rw [hV2.out]; rfl
    subst hv
    have hF := hBw1
    clear hVH hV2 hBw1 hyaw1 hybw1 huw1
    go_wp2_with fail
    go_ret
    exact ⟨rfl, hF.out⟩
  | true =>
    have hv : V = 0 := by rw [hV2.out]; rfl
    subst hv
    clear hVH hV2
    obtain ⟨sm, hsm⟩ : ∃ s, s = decide (a = b) := ⟨_, rfl⟩
    go_upto_region 2 with fail
    refine wp_region_lit ?_
    refine sl_run rfl (.int .i64 ((0 : Nat) : Int)) w1 (by kernel_rfl) ?_
    simp only [Act.put, fl1, fl2, fl3]
    refine sl_run rfl (.bool false) w1 (exec_eqI 26 _ _ rfl ((0 : Nat) : Int) 23 (by kernel_rfl) (by kernel_rfl) false rfl) ?_
    simp only [Act.put, fl1, fl2, fl3]
    refine sl_run rfl (.bool false) w1 (by kernel_rfl) ?_
    simp only [Act.put, fl1, fl2, fl3]
    refine sg_run (by kernel_rfl) (.slice A na ca) w1 (by kernel_rfl) ?_
    simp only [Act.put, fl1, fl2, fl3]
    refine sg_run (by kernel_rfl) (.slice B nb cb) w1 (by kernel_rfl) ?_
    simp only [Act.put, fl1, fl2, fl3]
    refine sg_call (by kernel_rfl) 29 #[.slice A na ca, .slice B nb cb] (by kernel_rfl) (R := fun v w' => v = .bool sm ∧ Below w1.heap.size w1 w') ((hsm ▸ Same_calls a b A na ca hna'.out (by omega) B nb cb hnb'.out (by omega) w1 hyaw1.out hybw1.out).mono fun e w' h => ⟨_, h.1, rfl, h.2⟩) ?_
    rintro _ w2 ⟨rfl, hb⟩
    simp only [Act.put, fl1, fl2, fl3]
    have hBw2 : Hid (Below w.heap.size w w2) := hBw1.out.trans ((hb).mono (hBw1.out).size)
    have hyaw2 : Hid (Rw 35 encE w2 (.slice A na ca) a) := (hyaw1.out).below hb
    have hybw2 : Hid (Rw 35 encE w2 (.slice B nb cb) b) := (hybw1.out).below hb
    have huw2 : Hid (Bytes w2 u H) := (huw1.out).below hb
    clear hBw1 hyaw1 hybw1 huw1
    clear hb
    refine sl_run rfl (.bool sm) w2 (by kernel_rfl) ?_
    simp only [Act.put, fl1, fl2, fl3]
    cases sm with
    | true =>
      refine sl_run rfl (.bool true) w2 (by kernel_rfl) ?_
      simp only [Act.put, fl1, fl2, fl3]
      refine wpList_skip ?hw ?_
      case hw => kernel_rfl
      simp only [Act.put, fl1, fl2, fl3]
      refine wpList_skip ?hw ?_
      case hw => kernel_rfl
      simp only [Act.put, fl1, fl2, fl3]
      refine wpList_skip ?hw ?_
      case hw => kernel_rfl
      simp only [Act.put, fl1, fl2, fl3]
      refine sl_run rfl (.bool true) w2 (by kernel_rfl) ?_
      simp only [Act.put, fl1, fl2, fl3]
      refine wpList_nil ?_
      clear hsm
      have hF := hBw2
      clear hBw2 hyaw2 hybw2 huw2
      go_wp2_with fail
      go_ret
      exact ⟨rfl, hF.out⟩
    | false =>
      refine sl_run rfl (.bool false) w2 (by kernel_rfl) ?_
      simp only [Act.put, fl1, fl2, fl3]
      refine sg_run (by kernel_rfl) (.slice B nb cb) w2 (by kernel_rfl) ?_
      simp only [Act.put, fl1, fl2, fl3]
      refine sg_run (by kernel_rfl) (.int .i64 (nb : Int)) w2 (by kernel_rfl) ?_
      simp only [Act.put, fl1, fl2, fl3]
      by_cases h0 : nb = 0
      case pos =>
        refine sg_run (by kernel_rfl) (.bool true) w2 (exec_eqI 3 _ _ rfl (nb : Int) 0 (by kernel_rfl) (by kernel_rfl) true (by rw [h0]; rfl)) ?_
        simp only [Act.put, fl1, fl2, fl3]
        refine sl_run rfl (.bool true) w2 (by kernel_rfl) ?_
        simp only [Act.put, fl1, fl2, fl3]
        refine wpList_nil ?_
        subst h0
        clear hsm hnb'
        have hF := hBw2
        clear hBw2 hyaw2 hybw2 huw2
        go_wp2_with fail
        go_ret
        exact ⟨rfl, hF.out⟩
      case neg =>
      refine sg_run (by kernel_rfl) (.bool false) w2 (exec_eqI 3 _ _ rfl (nb : Int) 0 (by kernel_rfl) (by kernel_rfl) false (by rw [beq_eq_false_iff_ne]; omega)) ?_
      simp only [Act.put, fl1, fl2, fl3]
      refine sl_run rfl (.bool false) w2 (by kernel_rfl) ?_
      simp only [Act.put, fl1, fl2, fl3]
      refine wpList_nil ?_
      obtain ⟨j, hk, hpq, hsum⟩ := clash_found (m := 32) (by decide) (right_good hraH.out) (right_good hrbH.out) (by rw [← hna'.out]; omega) (by rw [← hnb'.out]; omega) (by rw [← hHH.out]; exact of_decide_eq_true hshH.out.symm) (of_decide_eq_false hsm.symm) ha0H.out (fun e => h0 (by rw [hnb'.out, e]; rfl))
      obtain ⟨hj1, hj2, _, _⟩ := clashK_get hk
      have hplt : Hid (∀ y ∈ textS 32 a (a.length - 1 - j), y < 256) := textS_lt hokaH.out _ (by omega)
      have hqlt : Hid (∀ y ∈ textS 32 b (b.length - 1 - j), y < 256) := textS_lt hokbH.out _ (by omega)
      have hpl := textS_len (m := 32) (by decide) a (a.length - 1 - j)
      have hql := textS_len (m := 32) (by decide) b (b.length - 1 - j)
      have hRH : Hid (clashR 32 a b = (textS 32 a (a.length - 1 - j), textS 32 b (b.length - 1 - j), true)) := by
        show _ = _
        unfold clashR
        rw [if_pos ⟨hraH.out, hrbH.out, by show headP 32 a a.length = headP 32 b b.length; rw [← hHH.out]; exact of_decide_eq_true hshH.out.symm⟩]
        show (match clashK 32 a b with | some j => (textS 32 a (a.length - 1 - j), textS 32 b (b.length - 1 - j), true) | none => ([], [], false)) = _
        rw [hk]
      generalize textS 32 a (a.length - 1 - j) = p at hRH hpq hsum hplt hpl
      generalize textS 32 b (b.length - 1 - j) = q at hRH hpq hsum hqlt hql
      have hpqH : Hid (¬ p = q) := hpq
      have hsame : Hid (sumB q = sumB p) := by
        have l1 := Sha.sumB_length p
        have l2 := Sha.sumB_length q
        rw [List.take_of_length_le (by omega), List.take_of_length_le (by omega)] at hsum
        exact hsum.symm
      clear hk hj1 hj2 hsum hpq hsm h0 hraH hrbH ha0H hshH hHH
      go_upto_region 4 with fail
      refine wp_region_lit ?_
      refine sl_run rfl (.slice A na ca) w2 (by kernel_rfl) ?_
      simp only [Act.put, fl1, fl2, fl3]
      refine sl_run rfl (.slice B nb cb) w2 (by kernel_rfl) ?_
      simp only [Act.put, fl1, fl2, fl3]
      refine sg_call (by kernel_rfl) 27 #[.int .i64 32, .slice A na ca, .slice B nb cb] (by kernel_rfl) (R := fun z w' => ∃ u v, z = .tuple #[u, v, .bool true] ∧ Bytes w' u p ∧ Bytes w' v q ∧ Below w2.heap.size w2 w') ((Clash_calls 32 a b hokaH.out hokbH.out A na ca hna'.out (by omega) B nb cb hnb'.out (by omega) w2 hyaw2.out hybw2.out).mono fun e w' h => by
        obtain ⟨u, v, h1, h2, h3, h4⟩ := h
        rw [hRH.out] at h1 h2 h3
        exact ⟨_, h1, u, v, rfl, h2, h3, h4⟩) ?_
      rintro _ w3 ⟨x1, x2, rfl, hbu, hbv, hb⟩
      simp only [Act.put, fl1, fl2, fl3]
      have hBw3 : Hid (Below w.heap.size w w3) := hBw2.out.trans ((hb).mono (hBw2.out).size)
      have hyaw3 : Hid (Rw 35 encE w3 (.slice A na ca) a) := (hyaw2.out).below hb
      have hybw3 : Hid (Rw 35 encE w3 (.slice B nb cb) b) := (hybw2.out).below hb
      have huw3 : Hid (Bytes w3 u H) := (huw2.out).below hb
      clear hBw2 hyaw2 hybw2 huw2
      have hx1w3 : Hid (Bytes w3 x1 p) := hbu
      have hx2w3 : Hid (Bytes w3 x2 q) := hbv
      clear hb hbu hbv
      refine sl_run rfl (.tuple #[x1, x2, .bool true]) w3 (by kernel_rfl) ?_
      simp only [Act.put, fl1, fl2, fl3]
      refine sl_run rfl (x1) w3 (by kernel_rfl) ?_
      simp only [Act.put, fl1, fl2, fl3]
      refine sl_run rfl (x2) w3 (by kernel_rfl) ?_
      simp only [Act.put, fl1, fl2, fl3]
      refine sl_run rfl (.bool true) w3 (by kernel_rfl) ?_
      simp only [Act.put, fl1, fl2, fl3]
      refine sl_run rfl (x1) w3 (by kernel_rfl) ?_
      simp only [Act.put, fl1, fl2, fl3]
      refine sl_run rfl (x2) w3 (by kernel_rfl) ?_
      simp only [Act.put, fl1, fl2, fl3]
      refine sl_run rfl (.bool true) w3 (by kernel_rfl) ?_
      simp only [Act.put, fl1, fl2, fl3]
      refine wpList_nil ?_
      go_upto_region 5 with fail
      refine wp_region_lit ?_
      refine sl_run rfl (.int .i64 ((0 : Nat) : Int)) w3 (by kernel_rfl) ?_
      simp only [Act.put, fl1, fl2, fl3]
      refine sl_run rfl (.bool true) w3 (exec_eqI 26 _ _ rfl ((0 : Nat) : Int) 0 (by kernel_rfl) (by kernel_rfl) true rfl) ?_
      simp only [Act.put, fl1, fl2, fl3]
      refine sl_run rfl (.bool true) w3 (by kernel_rfl) ?_
      simp only [Act.put, fl1, fl2, fl3]
      refine sg_run (by kernel_rfl) (.bool true) w3 (by kernel_rfl) ?_
      simp only [Act.put, fl1, fl2, fl3]
      refine sl_run rfl (.bool true) w3 (by kernel_rfl) ?_
      simp only [Act.put, fl1, fl2, fl3]
      refine sl_run rfl (.bool true) w3 (by kernel_rfl) ?_
      simp only [Act.put, fl1, fl2, fl3]
      refine sg_run (by kernel_rfl) (x1) w3 (by kernel_rfl) ?_
      simp only [Act.put, fl1, fl2, fl3]
      refine sg_run (by kernel_rfl) (.string (strB p)) w3 (exec_convB _ rfl x1 p (by kernel_rfl) hx1w3.out) ?_
      simp only [Act.put, fl1, fl2, fl3]
      refine sg_run (by kernel_rfl) (x2) w3 (by kernel_rfl) ?_
      simp only [Act.put, fl1, fl2, fl3]
      refine sg_run (by kernel_rfl) (.string (strB q)) w3 (exec_convB _ rfl x2 q (by kernel_rfl) hx2w3.out) ?_
      simp only [Act.put, fl1, fl2, fl3]
      refine sg_run (by kernel_rfl) (.bool true) w3 (exec_neS 9 _ _ rfl (strB p) (strB q) (by kernel_rfl) (by kernel_rfl) true (by rw [strB_eq hplt.out hqlt.out, decide_eq_false hpqH.out]; rfl)) ?_
      simp only [Act.put, fl1, fl2, fl3]
      refine sl_run rfl (.bool true) w3 (by kernel_rfl) ?_
      simp only [Act.put, fl1, fl2, fl3]
      refine sl_run rfl (.bool true) w3 (by kernel_rfl) ?_
      simp only [Act.put, fl1, fl2, fl3]
      refine sg_run (by kernel_rfl) (x1) w3 (by kernel_rfl) ?_
      simp only [Act.put, fl1, fl2, fl3]
      refine sg_call (by kernel_rfl) 30 #[x1] (by kernel_rfl) (R := fun v w' => v = .agg (bytesC (sumB p)) ∧ Below w3.heap.size w3 w') ((Sha.one_calls p (getD_of hplt.out) (by omega) x1 w3 hx1w3.out).mono fun z w' h => ⟨_, h.1, by rfl, h.2⟩) ?_
      rintro _ w4 ⟨rfl, hb⟩
      simp only [Act.put, fl1, fl2, fl3]
      have hBw4 : Hid (Below w.heap.size w w4) := hBw3.out.trans ((hb).mono (hBw3.out).size)
      have hyaw4 : Hid (Rw 35 encE w4 (.slice A na ca) a) := (hyaw3.out).below hb
      have hybw4 : Hid (Rw 35 encE w4 (.slice B nb cb) b) := (hybw3.out).below hb
      have huw4 : Hid (Bytes w4 u H) := (huw3.out).below hb
      have hx1w4 : Hid (Bytes w4 x1 p) := (hx1w3.out).below hb
      have hx2w4 : Hid (Bytes w4 x2 q) := (hx2w3.out).below hb
      clear hBw3 hyaw3 hybw3 huw3 hx1w3 hx2w3
      clear hb
      refine sg_run (by kernel_rfl) (x2) w4 (by kernel_rfl) ?_
      simp only [Act.put, fl1, fl2, fl3]
      refine sg_call (by kernel_rfl) 30 #[x2] (by kernel_rfl) (R := fun v w' => v = .agg (bytesC (sumB p)) ∧ Below w4.heap.size w4 w') ((Sha.one_calls q (getD_of hqlt.out) (by omega) x2 w4 hx2w4.out).mono fun z w' h => ⟨_, h.1, by rw [hsame.out], h.2⟩) ?_
      rintro _ w5 ⟨rfl, hb⟩
      simp only [Act.put, fl1, fl2, fl3]
      have hBw5 : Hid (Below w.heap.size w w5) := hBw4.out.trans ((hb).mono (hBw4.out).size)
      have hyaw5 : Hid (Rw 35 encE w5 (.slice A na ca) a) := (hyaw4.out).below hb
      have hybw5 : Hid (Rw 35 encE w5 (.slice B nb cb) b) := (hybw4.out).below hb
      have huw5 : Hid (Bytes w5 u H) := (huw4.out).below hb
      have hx1w5 : Hid (Bytes w5 x1 p) := (hx1w4.out).below hb
      have hx2w5 : Hid (Bytes w5 x2 q) := (hx2w4.out).below hb
      clear hBw4 hyaw4 hybw4 huw4 hx1w4 hx2w4
      clear hb
      refine sg_run (by kernel_rfl) (.bool true) w5 (Sha.exec_eql _ _ rfl (sumB p) (Sha.sumB_length p) (by kernel_rfl) (by kernel_rfl) _) ?_
      simp only [Act.put, fl1, fl2, fl3]
      refine sl_run rfl (.bool true) w5 (by kernel_rfl) ?_
      simp only [Act.put, fl1, fl2, fl3]
      refine sl_run rfl (.bool true) w5 (by kernel_rfl) ?_
      simp only [Act.put, fl1, fl2, fl3]
      refine wpList_nil ?_
      have hF := hBw5
      clear hBw5 hyaw5 hybw5 huw5 hx1w5 hx2w5
      go_wp2_with fail
      go_ret
      exact ⟨rfl, hF.out⟩
end Go.Proofs.YtadopkifpfmhcaaDoor
namespace Go.Proofs.YtadopkifpfmhcaaDoor
open Go.RowKit
open Sha (vals Bytes Lies bytesC sumB)
theorem setCells_kp (g : Nat) : ∀ (vs : List Value) (o : Nat) (w : World), Kp w g (w.setCells g o vs)
  | [], o, w => ⟨rfl, rfl, rfl, Nat.le_refl _, fun _ _ _ => rfl⟩
  | v :: vs, o, w => by
    have h1 : Kp w g (w.setCell ⟨g, o, none⟩ v) := Kp.set ⟨rfl, rfl, rfl, Nat.le_refl _, fun _ _ _ => rfl⟩ o v
    have h2 := setCells_kp g vs (o + 1) (w.setCell ⟨g, o, none⟩ v)
    show Kp w g ((w.setCell ⟨g, o, none⟩ v).setCells g (o + 1) vs)
    exact ⟨h2.os.trans h1.os, h2.tape.trans h1.tape, h2.output.trans h1.output, Nat.le_trans h1.size h2.size, fun k hk hne => (h2.block k (Nat.lt_of_lt_of_le hk h1.size) hne).trans (h1.block k hk hne)⟩
/-- Such a list. -/
structure Wr (w : World) (g n c : Nat) (l : List En) : Prop where
  len : n = l.length
  cap : n ≤ c
  lt : g < w.heap.size
  el : ∀ i, i < n → w.rangeAt g (i * 35) (encE (l.getD i default)).toList
  fr : ∀ o, w.frozen? ⟨g, o, none⟩ = false
theorem Wr.rw {w : World} {g n c : Nat} {l : List En} (h : Wr w g n c l) : Rw 35 encE w (.slice (some ⟨g, 0, none⟩) n c) l :=
  .inr ⟨g, 0, c, by rw [h.len], by rw [← h.len]; exact h.cap, h.lt, fun i hi => by rw [Nat.zero_add]; exact h.el i (by rw [h.len]; exact hi)⟩
theorem Wr.below {w w' : World} {g n c : Nat} {l : List En} (h : Wr w g n c l) (hb : Below w.heap.size w w') : Wr w' g n c l :=
  ⟨h.len, h.cap, Nat.lt_of_lt_of_le h.lt hb.size, fun i hi => range_below (h.el i hi) hb h.lt, fun o => by rw [World.frozen?_of_block (a := ⟨g, o, none⟩) (hb.block g h.lt)]; exact h.fr o⟩
theorem Wr.kp {w w' : World} {g g' n c : Nat} {l : List En} (h : Wr w g n c l) (hk : Kp w g' w') (hne : g ≠ g') : Wr w' g n c l := by
  have e := hk.block g h.lt hne
  exact ⟨h.len, h.cap, Nat.lt_of_lt_of_le h.lt hk.size, fun i hi j v hv => by rw [World.cell?_of_block (a := ⟨g, i * 35 + j, none⟩) e]; exact h.el i hi j v hv, fun o => by rw [World.frozen?_of_block (a := ⟨g, o, none⟩) e]; exact h.fr o⟩
theorem Wr.own {w : World} {base g n c : Nat} {l : List En} (hn : n = l.length) (h : w.ownsRow base 24 35 (.slice (some ⟨g, 0, none⟩) n c) n (flat encE l)) : Wr w g n c l := by
  rcases h.2 with ⟨h0, _⟩ | ⟨g', cap, cur, e, h1, h2, h3, h4, h5, h6⟩
  · cases h0
  · injection e with e1 e2 e3
    injection e1 with e1
    injection e1 with e1 e4
    subst e1 e3
    refine ⟨hn, h3, (Array.getElem?_eq_some_iff.1 h2).1, fun i hi j v hv => ?_, fun o => frozen_of_row _ _ _ _ _ h2⟩
    have hc := h.cells (g := g) rfl (i * 35 + j) v (by rw [flat_get encE_size' l i j (by omega) (by have := (List.getElem?_eq_some_iff.1 hv).1; rw [Array.length_toList, encE_size'] at this; exact this)]; exact hv)
    rwa [Addr.add_mid, Nat.zero_add] at hc
theorem Wr.there {w : World} {g n c : Nat} {l : List En} (h : Wr w g n c l) {k : Nat} (hk : k < n) (x : En) : w.there g (k * 35) (encE x).size := fun j hj => by
  rw [encE_size'] at hj
  refine ⟨?_, h.fr _⟩
  have := h.el k hk j ((encE (l.getD k default)).toList[j]'(by rw [Array.length_toList, encE_size']; exact hj)) (List.getElem?_eq_getElem _)
  rw [this]; rfl
theorem Wr.set {w : World} {g n c : Nat} {l : List En} (h : Wr w g n c l) {k : Nat} (hk : k < n) (x : En) : Wr (w.setCells g (k * 35) (encE x).toList) g n c (l.set k x) := by
  have hkp := setCells_kp g (encE x).toList (k * 35) w
  have hlen : (encE x).toList.length = 35 := by rw [Array.length_toList, encE_size']
  refine ⟨by rw [List.length_set]; exact h.len, h.cap, Nat.lt_of_lt_of_le h.lt hkp.size, fun i hi j v hv => ?_, fun o => by rw [World.frozen?_setCells]; exact h.fr o⟩
  have hl := h.len
  by_cases e : i = k
  · subst e
    have e2 : (l.set i x).getD i default = x := by simp [show i < l.length by omega]
    rw [e2] at hv
    have hj : j < (encE x).toList.length := (List.getElem?_eq_some_iff.1 hv).1
    rw [World.cell?_setCells_in g (encE x).toList (i * 35) w (fun r hr => (h.there hk x r (by rw [← Array.length_toList]; exact hr)).1) j hj, ← List.getElem?_eq_getElem hj]
    exact hv
  · have e2 : (l.set k x).getD i default = l.getD i default := by
      simp [List.getD_eq_getElem?_getD, List.getElem?_set, show ¬ k = i from fun q => e q.symm]
    rw [e2] at hv
    have hj : j < 35 := by have := (List.getElem?_eq_some_iff.1 hv).1; rw [Array.length_toList, encE_size'] at this; exact this
    rw [World.cell?_setCells_out g (encE x).toList (k * 35) w ⟨g, i * 35 + j, none⟩ (fun _ _ => by
      rw [hlen]
      show i * 35 + j < k * 35 ∨ k * 35 + 35 ≤ i * 35 + j
      omega)]
    exact h.el i hi j v hv
theorem exec_store_mid24 {o : Oper} {a : Act} {w : World} (x y : Operand) (ho : o.op = .store 24 x y) (g n c k : Nat) {l : List En} (h : Wr w g n c l) (hk : k < n) (off : Nat) (hoff : off = k * 35) (hx : a.eval x = .pointer (some ⟨g, off, none⟩)) (e : En) (hy : a.eval y = .agg (encE e)) :
    (execOp a.eval o).run Tryd.prog w = .ok .skip (w.setCells g (k * 35) (encE e).toList) := by
  subst hoff
  unfold execOp
  simp only [ho, hx, hy, Instr.storeAt, Instr.sureAddr, Sem.run_bind, Sem.run_pure, Result.andThen_ok, run_storeVar_mid (P := Tryd.prog) w g (k * 35) 24 (encE e) (h.there hk e) (by rw [encE_size']; kernel_rfl) (encE_all e)]
section
variable {P : Program} {ops : Array Oper} {rest : List Oper} {o : Oper} {a : Act} {w : World} {Q : Exit → Act → World → Prop}
theorem sl_skipped (hw : Region.wanted o (yielded ops a.tmps) = true) (w' : World) (he : (execOp a.eval o).run P w = .ok .skip w')
    (k : wpList P ops Q rest (a.put o.dst undef) w') : wpList P ops Q (o :: rest) a w := by
  rw [wpList, if_pos hw]
  unfold Oper.wp
  rw [he]
  exact .inl k
end
section
variable {P : Program} {ops : Array Oper} {Q : Exit → Act → World → Prop} {md : Region.Mode} {S : World → Prop} {fuel : Nat} {listed : Array Bool} {a : Act} {w : World}
theorem held_got (i : Nat) {oi : Oper} (hi : ops[i]? = some oi) (hr : Region.ready md ops listed = [i]) (hw : Region.wanted oi (yielded ops a.tmps) = true) {R : Value → World → Prop}
    (he : ∃ v w', (execOp a.eval oi).run P w = .ok (.value v) w' ∧ R v w') (h : ∀ v w', R v w' → S w' ∧ wpAnyH P md ops Q S fuel (listed.setIfInBounds i true) (a.put oi.dst v) w') : wpAnyH P md ops Q S (fuel + 1) listed a w := by
  obtain ⟨v, w', he, hR⟩ := he
  exact held_run i hi hr hw v w' he (h v w' hR).1 (h v w' hR).2
theorem wp_got {o : Oper} {K : Act → World → Prop} {R : Value → World → Prop} (he : ∃ v w', (execOp a.eval o).run P w = .ok (.value v) w' ∧ R v w') (h : ∀ v w', R v w' → K (a.put o.dst v) w') : o.wp P a w K Q := by
  obtain ⟨v, w', he, hR⟩ := he
  unfold Oper.wp; rw [he]; exact h v w' hR
end
section
variable {α : Type} [Inhabited α] {k : Nat} {enc : α → Array Value}
/-- A list, wherever it stands, behind a list that is the call's own. -/
theorem exec_appendR {w : World} {o : Oper} {a : Act} (ty e : TypeId) (bytes : Nat) (i : TypeInfo) (z : Value) (ht : Tryd.prog.underlying ty = some (.slice e)) (hi : Tryd.prog.info? e = some i) (hz : i.zero = some z) (hsize : i.size = k) (hby : i.bytes = bytes) (hzs : z.cells.size = k) (hk : 0 < k) (he : ∀ x, (enc x).size = k) (h1 : ∀ x, ∀ u ∈ (enc x).toList, u.oneCell' = true)
    (s x : Operand) (ho : o.op = .call { callee := .builtin .append, args := #[s, x], argTypes := #[ty, ty] })
    (base : Nat) (v : Value) (l0 l : List α) (hs : a.eval s = v) (hown : w.ownsRow base e k v l0.length (flat enc l0))
    (y : Value) (hx : a.eval x = y) (hy : Rw k enc w y l) (hlen : l0.length + l.length ≤ 140737488355327) (hlen2 : (l0.length + l.length) * bytes ≤ 140737488355328) (hbase : base ≤ w.heap.size) :
    ∃ v' w', (execOp a.eval o).run Tryd.prog w = .ok (.value v') w' ∧ w'.ownsRow base e k v' (l0 ++ l).length (flat enc (l0 ++ l)) ∧ w.grownBy w' v.ownBlock := by
  rcases hy with ⟨A, c, rfl, rfl, hA⟩ | ⟨g, off, c, rfl, hc, hg, hl⟩
  · cases A with
    | none =>
      have hA := hA rfl
      subst hA
      have hrun := run_append_owned_none (P := Tryd.prog) (w := w) base ty o.type e i k ht hi v l0.length (flat enc l0) hown
      refine ⟨v, w, ?_, by simpa using hown, grownBy_refl _ _⟩
      unfold execOp
      simp [ho, resolve, invoke, builtin, hs, hx, hrun, Result.andThen]
    | some ad =>
      obtain ⟨v', w', hr, h2, h3, _⟩ := run_append_own (P := Tryd.prog) w base ty o.type e i z k bytes ht hi hz hsize hby hzs hk v l0.length (flat enc l0) hown ad 0 c [] (by simp) (fun j u hu => by simp at hu) (fun u hu => by simp at hu) (by unfold maxLen; omega) (by simpa using hlen2) hbase
      refine ⟨v', w', ?_, by simpa using h2, h3⟩
      unfold execOp
      simp only [ho, resolve, invoke, builtin, Sem.run_bind, Sem.run_pure, Result.andThen_ok, List.map_toArray, List.map_cons, List.map_nil, hs, hx, hr]
  · obtain ⟨v', w', h1, h2, h3, _⟩ := exec_appendW ty e bytes i z ht hi hz hsize hby hzs hk he h1 s x ho base v l0 l hs hown g off c hx hl hlen hlen2 hbase
    exact ⟨v', w', h1, h2, h3⟩
end
theorem right_sub {l m : List En} {e : En} (hr : rightS 32 l = true) (he : goodE e = true) (hs : ∀ x ∈ m, x ∈ l ∨ x = e) : rightS 32 m = true := by
  have hg := right_good hr
  simp only [rightS, badsB, Bool.and_eq_true, decide_eq_true_eq, Bool.not_eq_true'] at hr ⊢
  refine ⟨hr.1, hr.2.1, List.any_eq_false.2 fun x hx => ?_⟩
  rcases hs x hx with h | rfl
  · rw [hg x h]; decide
  · rw [he]; decide
theorem conv_any (n : Int) (w : World) : (convert 3 45 (.int .i64 n)).run Tryd.prog w = .ok (.int .u64 (IntKind.u64.wrap n)) w := by
  simp [convert, run_underlying Tryd.underlying3, run_underlying Tryd.underlying45, Conv.intToInt]
theorem conv_back (n : Nat) (h : n < 9223372036854775808) (w : World) : (convert 45 3 (.int .u64 (n : Int))).run Tryd.prog w = .ok (.int .i64 (n : Int)) w := by
  have e : IntKind.i64.wrap (n : Int) = (n : Int) := by rw [IntKind.wrap_i64]; omega
  simp [convert, run_underlying Tryd.underlying3, run_underlying Tryd.underlying45, Conv.intToInt, e]
theorem exec_rem {o : Oper} {a : Act} (x y : Operand) (ho : o.op = .binOp .rem 45 x y 45) (u v : Nat) (hx : a.eval x = .int .u64 (u : Int)) (hy : a.eval y = .int .u64 (v : Int)) (hu : u < 18446744073709551616) (hv : 0 < v) (w : World) : (execOp a.eval o).run Tryd.prog w = .ok (.value (.int .u64 ((u % v : Nat) : Int))) w := by
  have hl : u % v ≤ u := Nat.mod_le _ _
  have hw : IntKind.u64.wrap (Int.tmod (u : Int) (v : Int)) = ((u % v : Nat) : Int) := by
    rw [IntKind.wrap_u64, Int.tmod_eq_emod_of_nonneg (by omega)]; omega
  have hv2 : ¬ (v : Int) = 0 := by omega
  unfold execOp
  simp [ho, hx, hy, eqGuard, binOp_rem, Op.intDiv, hv2, hw]
  rw [if_neg (by omega), Int.tmod_eq_emod_of_nonneg (by omega)]
end Go.Proofs.YtadopkifpfmhcaaDoor
namespace Go.Proofs.YtadopkifpfmhcaaDoor
open Go.RowKit
open Sha (vals Bytes Lies bytesC sumB)
open Go.Proofs.YtadopkifpfmhcaaDoorW.PrintWords Go.Proofs.YtadopkifpfmhcaaDoorW.PrintLast Go.Proofs.YtadopkifpfmhcaaDoorW.PrintMore
theorem exec_convU {o : Oper} {a : Act} (x : Operand) (ho : o.op = .convert 45 3 x) (n : Nat) (hx : a.eval x = .int .u64 (n : Int)) (h : n < 9223372036854775808) (w : World) : (execOp a.eval o).run Tryd.prog w = .ok (.value (.int .i64 (n : Int))) w := by
  unfold execOp
  simp [ho, hx, conv_back n h]
theorem Kp.heapx {w w' : World} {g b : Nat} {o : Obj} (h : Kp w g w') (hb : w.heap[b]? = some o) (hne : b ≠ g) : w'.heap[b]? = some o := (h.block b (Array.getElem?_eq_some_iff.1 hb).1 hne).trans hb
theorem _root_.Go.RowKit.Below.kpx {w0 w w' : World} {g : Nat} (h : Below w0.heap.size w0 w) (hk : Kp w g w') (hg : w0.heap.size ≤ g) : Below w0.heap.size w0 w' :=
  ⟨hk.os.trans h.os, hk.tape.trans h.tape, hk.output.trans h.output, Nat.le_trans h.size hk.size, fun q hq => (hk.block q (by have := h.size; omega) (by omega)).trans (h.block q hq)⟩
theorem rw_kp {w w' : World} {v : Value} {l : List En} {g : Nat} (h : Rw 35 encE w v l) (hk : Kp w g w') (hne : ∀ q, v.ownBlock = some q → q ≠ g) : Rw 35 encE w' v l :=
  h.kept hk.size (fun hl q hq => hk.block q (h.lt hl q hq) (hne q hq))
theorem bytes_kp {w w' : World} {v : Value} {l : List Nat} {g : Nat} (h : Bytes w v l) (hk : Kp w g w') (hne : l ≠ [] → ∀ q, v.ownBlock = some q → q ≠ g) : Bytes w' v l :=
  h.kept hk.size (fun hl q hq => hk.block q (h.lt hl q hq) (hne hl q hq))
theorem kp_trans {a b c : World} {g : Nat} (h : Kp a g b) (k : Kp b g c) : Kp a g c := ⟨k.os.trans h.os, k.tape.trans h.tape, k.output.trans h.output, Nat.le_trans h.size k.size, fun i hi hn => (k.block i (Nat.lt_of_lt_of_le hi h.size) hn).trans (h.block i hi hn)⟩
theorem verS_self (cut : Int) (l : List En) : verS cut l (headS cut l).1 = (headS cut l).2 := by unfold verS; simp
theorem set_getD_self {l : List En} {k : Nat} (h : k < l.length) : l.set k (l.getD k default) = l := by
  apply List.ext_getElem (by simp)
  intro i h1 h2
  rw [List.getElem_set]
  split
  · subst_vars; simp [h]
  · rfl
theorem held_did {P : Program} {ops : Array Oper} {Q : Exit → Act → World → Prop} {md : Region.Mode} {S : World → Prop} {fuel : Nat} {listed : Array Bool} {a : Act} {w : World} (i : Nat) {oi : Oper} (hi : ops[i]? = some oi) (hr : Region.ready md ops listed = [i]) (hw : Region.wanted oi (yielded ops a.tmps) = true) (w' : World)
    (he : (execOp a.eval oi).run P w = .ok .skip w') (hS : S w') (h : wpAnyH P md ops Q S fuel (listed.setIfInBounds i true) (a.put oi.dst undef) w') : wpAnyH P md ops Q S (fuel + 1) listed a w :=
  held_one i hi hr hw fun K hK => by
    unfold Oper.wp; rw [he]; exact hK _ _ hS h
theorem rw_one24 {w : World} {g : Nat} {e : En} {fr : Nat × Nat} (h : w.heap[g]? = some (.cells (encE e) 24 fr)) : Rw 35 encE w (.slice (some ⟨g, 0, none⟩) 1 1) [e] :=
  rw_new encE_size' (t := 24) (fr := fr) [e] (by rw [h]; simp [flat])
/-- Row 0 and row k change places. -/
def swapL (l : List En) (k : Nat) : List En := (l.set 0 (l.getD k default)).set k (l.getD 0 default)
theorem mem_getD {l : List En} {k : Nat} (h : k < l.length) : l.getD k default ∈ l := by simp [h]
theorem swap_mem {l : List En} {k : Nat} (h : k < l.length) : ∀ x ∈ swapL l k, x ∈ l := fun x hx => by
  unfold swapL at hx
  rcases List.mem_or_eq_of_mem_set hx with hx | rfl
  · rcases List.mem_or_eq_of_mem_set hx with hx | rfl
    · exact hx
    · exact mem_getD h
  · exact mem_getD (by omega)
set_option maxRecDepth 100000 in
set_option maxHeartbeats 64000000 in
theorem lturned_calls (l : List En) (hok : ∀ x ∈ l, x.ok) (A : Option Addr) (n c : Nat) (hn : n = l.length) (k0 : Int) (e : En) (he : e.ok) (w : World) (ht : Tab w) (hy : Rw 35 encE w (.slice A n c) l) :
    Calls Tryd.prog 10 #[.slice A n c, .int .i64 k0, .agg (encE e)] w fun z w' => z = .returned (.bool true) ∧ Below w.heap.size w w' := by
  have htH : Hid (Tab w) := ht
  have hy0 : Hid (Rw 35 encE w (.slice A n c) l) := hy
  have hokH : Hid (∀ x ∈ l, x.ok) := hok
  have heH : Hid e.ok := he
  have hn' : Hid (n = l.length) := hn
  clear hy hok ht hn he
  go_enter Tryd.func10, Tryd.ntmps10
  go_upto_region 1 with fail
  generalize hW : World.alloc _ _ = W
  have hW0 : W.heap[w.heap.size]? = some (.cells (encE e) 24 (0, 0)) := by rw [← hW]; exact heap_alloc_new _ _
  have hWB : Below w.heap.size w W := by rw [← hW]; exact (Below.refl _ _).alloc (Nat.le_refl _) _
  clear hW
  obtain ⟨B, hB⟩ : ∃ B, B = w.heap.size := ⟨_, rfl⟩
  rw [← hB] at hW0 ⊢
  have hSW : Hid (BS w B e W) := ⟨hW0, hWB⟩
  clear hW0 hWB hB
  have hyW : Hid (Rw 35 encE W (.slice A n c) l) := hy0.out.below hSW.out.bel
  have hWl : 0 < W.heap.size := Nat.lt_of_lt_of_le htH.out.1 hSW.out.bel.size
  refine wp_region_lit ?_
  refine sg_call (by kernel_rfl) 13 #[] (by kernel_rfl) (R := fun v w' => v = .bool true ∧ Below W.heap.size W w') ((fixed_calls W hWl (htH.out.below htH.out.1 hSW.out.bel)).mono fun e w' h => ⟨_, h.1, rfl, h.2⟩) ?_
  rintro _ w1 ⟨rfl, hb⟩
  simp only [Act.put, fl1, fl2, fl3]
  have hSw1 : Hid (BS w B e w1) := (hSW.out).below hb
  have hyw1 : Hid (Rw 35 encE w1 (.slice A n c) l) := (hyW.out).below hb
  clear hSW hyW
  clear hb
  refine sl_run rfl (.bool false) w1 (by kernel_rfl) ?_
  simp only [Act.put, fl1, fl2, fl3]
  refine wpList_nil ?_
  by_cases h20 : 20 < n
  case pos =>
    have hI : (n : Int) > 20 := by omega
    have hF : Hid (Below w.heap.size w w1) := hSw1.out.bel
    clear hSw1 hyw1
    go_wp2_with fail
    go_ret
    exact ⟨rfl, hF.out⟩
  case neg =>
  have hI : ¬ (n : Int) > 20 := by omega
  by_cases h0 : n = 0
  case pos =>
    subst h0
    clear hn'
    have hF : Hid (Below w.heap.size w w1) := hSw1.out.bel
    clear hSw1 hyw1
    go_wp2_with fail
    go_ret
    exact ⟨rfl, hF.out⟩
  case neg =>
  have hI2 : ¬ (n : Int) = 0 := by omega
  have hI3 : ((n : Int) == 0) = false := by rw [beq_eq_false_iff_ne]; omega
  have hn1 : 0 < n := by omega
  have hn9 : n ≤ 20 := by omega
  obtain ⟨H, er, hR⟩ : ∃ p q, headS 32 l = (p, q) := ⟨_, _, rfl⟩
  have hRH : Hid (headS 32 l = (H, er)) := hR
  clear h20 h0 hR
  go_upto_region 5 with fail
  refine wp_region_lit ?_
  refine sl_run rfl (.slice A n c) w1 (by kernel_rfl) ?_
  simp only [Act.put, fl1, fl2, fl3]
  refine sg_call (by kernel_rfl) 16 #[.int .i64 32, .slice A n c] (by kernel_rfl) (R := fun v w' => ∃ u, v = .tuple #[u, .int .i64 (er : Int)] ∧ Bytes w' u H ∧ Below w1.heap.size w1 w') ((Head_calls 32 l hokH.out A n c hn'.out (by omega) w1 hyw1.out).mono fun e w' h => by
    obtain ⟨v, h1, h2, h3⟩ := h
    rw [hRH.out] at h1 h2
    exact ⟨_, h1, v, rfl, h2, h3⟩) ?_
  rintro _ w2 ⟨u, rfl, hby, hb⟩
  simp only [Act.put, fl1, fl2, fl3]
  have hSw2 : Hid (BS w B e w2) := (hSw1.out).below hb
  have hyw2 : Hid (Rw 35 encE w2 (.slice A n c) l) := (hyw1.out).below hb
  clear hSw1 hyw1
  have huw2 : Hid (Bytes w2 u H) := hby
  clear hb hby
  refine sl_run rfl (.tuple #[u, .int .i64 (er : Int)]) w2 (by kernel_rfl) ?_
  simp only [Act.put, fl1, fl2, fl3]
  refine sl_run rfl (u) w2 (by kernel_rfl) ?_
  simp only [Act.put, fl1, fl2, fl3]
  refine sl_run rfl (.int .i64 (er : Int)) w2 (by kernel_rfl) ?_
  simp only [Act.put, fl1, fl2, fl3]
  refine sl_run rfl (u) w2 (by kernel_rfl) ?_
  simp only [Act.put, fl1, fl2, fl3]
  refine sl_run rfl (.int .i64 (er : Int)) w2 (by kernel_rfl) ?_
  simp only [Act.put, fl1, fl2, fl3]
  refine wpList_nil ?_
  go_upto_region 6 with fail
  refine wp_region_lit ?_
  by_cases her : er = 0
  case neg =>
    refine sl_run rfl (.int .i64 (er : Int)) w2 (by kernel_rfl) ?_
    simp only [Act.put, fl1, fl2, fl3]
    refine sl_run rfl (.bool true) w2 (exec_neI 26 _ _ rfl (er : Int) 0 (by kernel_rfl) (by kernel_rfl) true (by rw [bne_iff_ne]; omega)) ?_
    simp only [Act.put, fl1, fl2, fl3]
    refine sl_run rfl (.bool true) w2 (by kernel_rfl) ?_
    simp only [Act.put, fl1, fl2, fl3]
    refine wpList_skip ?hw ?_
    case hw => kernel_rfl
    simp only [Act.put, fl1, fl2, fl3]
    refine wpList_skip ?hw ?_
    case hw => kernel_rfl
    simp only [Act.put, fl1, fl2, fl3]
    refine wpList_skip ?hw ?_
    case hw => kernel_rfl
    simp only [Act.put, fl1, fl2, fl3]
    refine sl_run rfl (.bool true) w2 (by kernel_rfl) ?_
    simp only [Act.put, fl1, fl2, fl3]
    refine wpList_nil ?_
    clear huw2
    have hF : Hid (Below w.heap.size w w2) := hSw2.out.bel
    clear hSw2 hyw2
    go_wp2_with fail
    go_ret
    exact ⟨rfl, hF.out⟩
  case pos =>
  obtain ⟨gd, hgd⟩ : ∃ b, b = goodE e := ⟨_, rfl⟩
  refine sl_run rfl (.int .i64 (er : Int)) w2 (by kernel_rfl) ?_
  simp only [Act.put, fl1, fl2, fl3]
  refine sl_run rfl (.bool false) w2 (exec_neI 26 _ _ rfl (er : Int) 0 (by kernel_rfl) (by kernel_rfl) false (by rw [her]; rfl)) ?_
  simp only [Act.put, fl1, fl2, fl3]
  refine sl_run rfl (.bool false) w2 (by kernel_rfl) ?_
  simp only [Act.put, fl1, fl2, fl3]
  refine sg_run (by kernel_rfl) (.agg (encE e)) w2 (exec_load_row 24 w2 _ rfl B (by kernel_rfl) 24 (encE e) (0, 0) _ hSw2.out.box Tryd.underlying24 rfl (by rw [encE_size']; kernel_rfl)) ?_
  simp only [Act.put, fl1, fl2, fl3]
  refine sg_call (by kernel_rfl) 14 #[.agg (encE e)] (by kernel_rfl) (R := fun v w' => v = .bool gd ∧ Below w2.heap.size w2 w') ((hgd ▸ good_calls e w2).mono fun e w' h => ⟨_, h.1, rfl, h.2⟩) ?_
  rintro _ w3 ⟨rfl, hb⟩
  simp only [Act.put, fl1, fl2, fl3]
  have hSw3 : Hid (BS w B e w3) := (hSw2.out).below hb
  have hyw3 : Hid (Rw 35 encE w3 (.slice A n c) l) := (hyw2.out).below hb
  have huw3 : Hid (Bytes w3 u H) := (huw2.out).below hb
  clear hSw2 hyw2 huw2
  clear hb
  cases gd with
  | false =>
    refine sg_run (by kernel_rfl) (.bool true) w3 (by kernel_rfl) ?_
    simp only [Act.put, fl1, fl2, fl3]
    refine sl_run rfl (.bool true) w3 (by kernel_rfl) ?_
    simp only [Act.put, fl1, fl2, fl3]
    refine wpList_nil ?_
    clear huw3
    have hF : Hid (Below w.heap.size w w3) := hSw3.out.bel
    clear hSw3 hyw3
    go_wp2_with fail
    go_ret
    exact ⟨rfl, hF.out⟩
  | true =>
    refine sg_run (by kernel_rfl) (.bool false) w3 (by kernel_rfl) ?_
    simp only [Act.put, fl1, fl2, fl3]
    refine sl_run rfl (.bool false) w3 (by kernel_rfl) ?_
    simp only [Act.put, fl1, fl2, fl3]
    refine wpList_nil ?_
    subst her
    have hgood : Hid (goodE e = true) := hgd.symm
    have hrl : rightS 32 l = true := by
      rcases headS_ok hRH.out with ⟨_, h2, _⟩ | ⟨h1, _⟩
      · exact h2
      · exact absurd rfl h1
    have hHE : H = headP 32 l l.length := by
      rcases headS_ok hRH.out with ⟨_, _, h3⟩ | ⟨h1, _⟩
      · exact h3
      · exact absurd rfl h1
    have hrlH : Hid (rightS 32 l = true) := hrl
    have hHEH : Hid (H = headP 32 l l.length) := hHE
    obtain ⟨ga, oa, rfl, hnc, _, _⟩ := hyw3.out.elem 0 (by rw [← hn'.out]; exact hn1)
    obtain ⟨K, hK⟩ : ∃ K : Nat, IntKind.u64.wrap k0 = (K : Int) ∧ K < 18446744073709551616 := by
      refine ⟨(IntKind.u64.wrap k0).toNat, ?_, ?_⟩ <;> rw [IntKind.wrap_u64] <;> omega
    have hKH : Hid (IntKind.u64.wrap k0 = (K : Int)) := hK.1
    have hKl := hK.2
    obtain ⟨k, hk⟩ : ∃ k, k = K % n := ⟨_, rfl⟩
    have hkH : Hid (k = K % n) := hk
    have hkn : k < n := by rw [hk]; exact Nat.mod_lt _ hn1
    have hRH2 : Hid (headS 32 l = (H, 0)) := hRH.out
    clear hgd hrl hHE hK hk hRH
    go_upto_region 8 with fail
    refine wp_region_lit ?_
    refine sl_run rfl (.int .i64 k0) w3 (by kernel_rfl) ?_
    simp only [Act.put, fl1, fl2, fl3]
    refine sl_run rfl (.int .u64 (K : Int)) w3 (exec_convI 3 45 _ rfl k0 .u64 (K : Int) (by kernel_rfl) ((conv_any k0 _).trans (by rw [hKH.out]))) ?_
    simp only [Act.put, fl1, fl2, fl3]
    refine sl_run rfl (.slice (some ⟨ga, oa, none⟩) n c) w3 (by kernel_rfl) ?_
    simp only [Act.put, fl1, fl2, fl3]
    refine sl_run rfl (.int .i64 (n : Int)) w3 (by kernel_rfl) ?_
    simp only [Act.put, fl1, fl2, fl3]
    refine sl_run rfl (.int .u64 (n : Int)) w3 (exec_convI 3 45 _ rfl (n : Int) .u64 (n : Int) (by kernel_rfl) (conv_u64 3 _ (by omega) (by omega) _ (.inl rfl))) ?_
    simp only [Act.put, fl1, fl2, fl3]
    refine sl_run rfl (.int .u64 (k : Int)) w3 ((exec_rem _ _ rfl K n (by kernel_rfl) (by kernel_rfl) hKl hn1 _).trans (by rw [hkH.out])) ?_
    simp only [Act.put, fl1, fl2, fl3]
    refine sl_run rfl (.int .i64 (k : Int)) w3 (exec_convU _ rfl k (by kernel_rfl) (by omega) _) ?_
    simp only [Act.put, fl1, fl2, fl3]
    refine sl_run rfl (.int .i64 (k : Int)) w3 (by kernel_rfl) ?_
    simp only [Act.put, fl1, fl2, fl3]
    refine wpList_nil ?_
    clear hKH hkH hKl
    have hy3lt : Hid (ga < w3.heap.size) := by
      obtain ⟨_, _, e1, _, h2, _⟩ := hyw3.out.elem 0 (by rw [← hn'.out]; exact hn1)
      simp only [Option.some.injEq, Addr.mk.injEq] at e1
      show ga < _
      rw [e1.1]; exact h2
    have hu3lt : Hid (H ≠ [] → ∀ q, u.ownBlock = some q → q < w3.heap.size) := fun h0 q hq => huw3.out.lt h0 q hq
    have hS3 : Hid (BS w B e w3) := hSw3.out
    have hszw3 : Hid (w3.heap.size ≤ w3.heap.size) := Nat.le_refl _
    go_upto_region 9 with fail
    refine wp_region_lit ?_
    refine sg_run (by kernel_rfl) (.slice (some ⟨w3.heap.size, 0, none⟩) 0 0) (w3.alloc (.cells #[] 24)) (by kernel_rfl) ?_
    simp only [Act.put, fl1, fl2, fl3]
    refine sl_run rfl (.slice (some ⟨ga, oa, none⟩) n c) (w3.alloc (.cells #[] 24)) (by kernel_rfl) ?_
    simp only [Act.put, fl1, fl2, fl3]
    obtain ⟨i24, z24, hi24, hz24, hs24, hb24, hc24⟩ := inf24p
    refine appendRw (k := 35) (enc := encE) 34 24 72 i24 z24 un34 hi24 hz24 hs24 hb24 hc24 (by decide) encE_size' encE_one rfl _ _ rfl w3.heap.size (.slice (some ⟨w3.heap.size, 0, none⟩) 0 0) [] l (by kernel_rfl) (World.ownsRow_made w3 #[] 0 (Nat.le_refl _) (by decide) rfl) (.slice (some ⟨ga, oa, none⟩) n c) (by kernel_rfl) (hyw3.out.below ((Below.refl _ _).alloc (Nat.le_refl _) _)) (by rw [← hn'.out]; simp; omega) (by rw [← hn'.out]; simp; omega) (by simp) (fun v9 w4 hown9 hgr9 => ?_)
    clear hi24 hz24 hs24 hb24 hc24
    rw [List.nil_append, ← hn'.out] at hown9
    have hb : Below w3.heap.size w3 w4 := ((Below.refl _ _).alloc (Nat.le_refl _) _).grown hgr9 (by simp) (fun q hq => by simp [Value.ownBlock] at hq; omega)
    obtain ⟨g9, c9, rfl⟩ : ∃ g9 c9, v9 = .slice (some ⟨g9, 0, none⟩) n c9 := by
      rcases hown9.2 with ⟨_, h0⟩ | ⟨g9, c9, _, h1, _⟩
      · omega
      · exact ⟨g9, c9, h1⟩
    have hge6g9 : Hid (w3.heap.size ≤ g9) := (hown9.lt g9 rfl).1
    have hgeg9 : Hid (w3.heap.size ≤ g9) := by show _ ≤ _; have h1 := (hown9.lt g9 rfl).1; have h2 := hszw3.out; omega
    simp only [Act.put, fl1, fl2, fl3]
    have hSw4 : Hid (BS w B e w4) := (hSw3.out).below hb
    have hyw4 : Hid (Rw 35 encE w4 (.slice (some ⟨ga, oa, none⟩) n c) l) := (hyw3.out).below hb
    have huw4 : Hid (Bytes w4 u H) := (huw3.out).below hb
    have hszw4 : Hid (w3.heap.size ≤ w4.heap.size) := Nat.le_trans hszw3.out (hb).size
    clear hSw3 hyw3 huw3 hszw3
    have how4 : Hid (Wr w4 g9 n c9 l) := Wr.own hn'.out hown9
    clear hb hown9 hgr9
    refine sl_run rfl (.slice (some ⟨g9, 0, none⟩) n c9) w4 (by kernel_rfl) ?_
    simp only [Act.put, fl1, fl2, fl3]
    refine wpList_nil ?_
    go_upto_region 10 with fail
    refine wp_region_lit ?_
    have hyltH : Hid (∀ q, (Value.slice (some ⟨ga, oa, none⟩) n c).ownBlock = some q → q < w3.heap.size) := fun q hq => by
      have := hy3lt.out
      simp [Value.ownBlock] at hq; omega
    have hultH : Hid (H ≠ [] → ∀ q, u.ownBlock = some q → q < w3.heap.size) := hu3lt.out
    refine sl_run rfl (.slice (some ⟨g9, 0, none⟩) n c9) w4 (by kernel_rfl) ?_
    simp only [Act.put, fl1, fl2, fl3]
    refine sl_run rfl (.int .i64 (k : Int)) w4 (by kernel_rfl) ?_
    simp only [Act.put, fl1, fl2, fl3]
    refine sg_run (by kernel_rfl) (.agg (encE e)) w4 (exec_load_row 24 w4 _ rfl B (by kernel_rfl) 24 (encE e) (0, 0) _ hSw4.out.box Tryd.underlying24 rfl (by rw [encE_size']; kernel_rfl)) ?_
    simp only [Act.put, fl1, fl2, fl3]
    refine sl_run rfl (.pointer (some ⟨g9, 0 + k * 35, none⟩)) w4 (exec_index un34 sz34 _ _ rfl g9 0 n c9 k (by kernel_rfl) (by kernel_rfl) hkn _) ?_
    simp only [Act.put, fl1, fl2, fl3]
    refine sl_skipped (by kernel_rfl) (w4.setCells g9 (k * 35) (encE e).toList) (exec_store_mid24 _ _ rfl g9 n c9 k how4.out hkn (0 + k * 35) (by omega) (by kernel_rfl) e (by kernel_rfl)) ?_
    simp only [Act.put, fl1, fl2, fl3]
    have hk9 := setCells_kp g9 (encE e).toList (k * 35) w4
    have hwr9 := how4.out.set hkn e
    generalize World.setCells _ _ _ _ = w5 at hk9 hwr9 ⊢
    have hSw5 : Hid (BS w B e w5) := ⟨hk9.heapx hSw4.out.box (by have := (Array.getElem?_eq_some_iff.1 hS3.out.box).1; have := hgeg9.out; omega), hSw4.out.bel.kpx hk9 (by have := hgeg9.out; have := hS3.out.bel.size; omega)⟩
    have hyw5 : Hid (Rw 35 encE w5 (.slice (some ⟨ga, oa, none⟩) n c) l) := rw_kp hyw4.out hk9 (fun q hq => by have h8 := hyltH.out q hq; have := hgeg9.out; omega)
    have huw5 : Hid (Bytes w5 u H) := bytes_kp huw4.out hk9 (fun h0 q hq => by have h8 := hultH.out h0 q hq; have := hgeg9.out; omega)
    have hszw5 : Hid (w3.heap.size ≤ w5.heap.size) := Nat.le_trans hszw4.out hk9.size
    have how5 : Hid (Wr w5 g9 n c9 (l.set k e)) := hwr9
    clear hk9 hwr9 hSw4 hyw4 huw4 hszw4 how4
    refine wpList_nil ?_
    go_upto_region 11 with fail
    refine wp_normalG ?_
    refine wp_region_held_drew (S := fun w' => Below w5.heap.size w5 w') (by kernel_rfl) (Below.refl _ _).drew (fun hS => ?_)
    change wpAnyH _ _ _ _ _ 11 (Array.replicate 11 false) _ _
    generalize hx : w5.drew = y at hS ⊢
    clear hx
    have hyb := hyw5.out.below hS
    refine held_take 1 rfl (by kernel_rfl) (by kernel_rfl) (by kernel_rfl) (.slice (some ⟨ga, oa, none⟩) n c) (fun _ _ _ h => nomatch h.1) (by kernel_rfl) (fun w' h => (by kernel_rfl)) hS ?_
    simp only [Act.put, fl1, fl2, fl3, fl4, fl5, fl6]
    refine held_take 2 rfl (by kernel_rfl) (by kernel_rfl) (by kernel_rfl) (.int .i64 (k : Int)) (fun _ _ _ h => nomatch h.1) (by kernel_rfl) (fun w' h => (by kernel_rfl)) hS ?_
    simp only [Act.put, fl1, fl2, fl3, fl4, fl5, fl6]
    refine held_take 3 rfl (by kernel_rfl) (by kernel_rfl) (by kernel_rfl) (.slice (some ⟨ga, oa, none⟩) k c) (fun _ _ _ h => nomatch h.1) (by kernel_rfl) (fun w' h => (exec_takeS un34 sz34 _ _ rfl (some ⟨ga, oa, none⟩) n c k (by kernel_rfl) (by kernel_rfl) (by omega) _).trans (by rw [if_neg (by omega), Option.map_some, Addr.add_mid, Nat.add_zero])) hS ?_
    simp only [Act.put, fl1, fl2, fl3, fl4, fl5, fl6]
    refine held_take 5 rfl (by kernel_rfl) (by kernel_rfl) (by kernel_rfl) (.slice (some ⟨ga, oa, none⟩) n c) (fun _ _ _ h => nomatch h.1) (by kernel_rfl) (fun w' h => (by kernel_rfl)) hS ?_
    simp only [Act.put, fl1, fl2, fl3, fl4, fl5, fl6]
    refine held_take 6 rfl (by kernel_rfl) (by kernel_rfl) (by kernel_rfl) (.int .i64 (k : Int)) (fun _ _ _ h => nomatch h.1) (by kernel_rfl) (fun w' h => (by kernel_rfl)) hS ?_
    simp only [Act.put, fl1, fl2, fl3, fl4, fl5, fl6]
    refine held_take 7 rfl (by kernel_rfl) (by kernel_rfl) (by kernel_rfl) (.int .i64 ((k + 1 : Nat) : Int)) (fun _ _ _ h => nomatch h.1) (by kernel_rfl) (fun w' h => (exec_add2 _ _ rfl (k : Int) 1 (by kernel_rfl) (by kernel_rfl) (by omega) (by omega) _).trans (by rw [show (k : Int) + 1 = ((k + 1 : Nat) : Int) by omega])) hS ?_
    simp only [Act.put, fl1, fl2, fl3, fl4, fl5, fl6]
    refine held_take 8 rfl (by kernel_rfl) (by kernel_rfl) (by kernel_rfl) (.slice (if c = k + 1 then some ⟨ga, oa, none⟩ else (some ⟨ga, oa, none⟩ : Option Addr).map (·.add ((k + 1) * 35))) (n - (k + 1)) (c - (k + 1))) (fun _ _ _ h => nomatch h.1) (by kernel_rfl) (fun w' h => exec_fromS un34 sz34 _ _ rfl (some ⟨ga, oa, none⟩) n c (k + 1) (by kernel_rfl) (by kernel_rfl) (by omega) _) hS ?_
    simp only [Act.put, fl1, fl2, fl3, fl4, fl5, fl6]
    refine held_new 0 rfl (by kernel_rfl) (by kernel_rfl) (.slice (some ⟨y.heap.size, 0, none⟩) 0 0) (y.alloc (.cells #[] 24)) (by kernel_rfl) (fun w' => Below w5.heap.size w5 w' ∧ w'.ownsRow w5.heap.size 24 35 (.slice (some ⟨y.heap.size, 0, none⟩) 0 0) ([] : List En).length (flat encE [])) ⟨hS.alloc hS.size _, World.ownsRow_made y #[] 0 hS.size (by decide) rfl⟩ ?_
    rintro y1 ⟨hS1, hown1⟩
    refine ⟨hS1, ?_⟩
    simp only [Act.put, fl1, fl2, fl3, fl4, fl5, fl6]
    clear hS
    obtain ⟨i24, z24, hi24, hz24, hs24, hb24, hc24⟩ := inf24p
    have hyr1 := hyw5.out.below hS1
    have htk := (rw_take (k := 35) (enc := encE) hn'.out hyr1 k (by omega)).2
    rw [if_neg (by omega), Option.map_some, Addr.add_mid, Nat.add_zero] at htk
    have hltk : (l.take k).length = k := by rw [List.length_take]; have := hn'.out; omega
    have hldr : (l.drop (k + 1)).length = n - (k + 1) := by rw [List.length_drop]; have := hn'.out; omega
    generalize (Value.slice (some ⟨y.heap.size, 0, none⟩) 0 0) = v1 at hown1 ⊢
    refine held_got 4 rfl (by kernel_rfl) (by kernel_rfl) (R := fun v w' => w'.ownsRow w5.heap.size 24 35 v ([] ++ l.take k).length (flat encE ([] ++ l.take k)) ∧ y1.grownBy w' v1.ownBlock) ?he ?_
    case he => exact exec_appendR 34 24 72 i24 z24 un34 hi24 hz24 hs24 hb24 hc24 (by decide) encE_size' encE_one _ _ rfl w5.heap.size v1 [] (l.take k) (by kernel_rfl) hown1 (.slice (some ⟨ga, oa, none⟩) k c) (by kernel_rfl) htk (by simp; omega) (by simp; omega) hS1.size
    rintro v2 y2 ⟨hown2, hgr2⟩
    have hS2 : Below w5.heap.size w5 y2 := hS1.grown hgr2 hS1.size (fun q hq => (hown1.lt q hq).1)
    refine ⟨hS2, ?_⟩
    simp only [Act.put, fl1, fl2, fl3, fl4, fl5, fl6]
    rw [List.nil_append] at hown2
    have hdr := rw_drop (k := 35) (enc := encE) hn'.out (hyw5.out.below hS2) (k + 1) (by omega)
    refine held_got 9 rfl (by kernel_rfl) (by kernel_rfl) (R := fun v w' => w'.ownsRow w5.heap.size 24 35 v (l.take k ++ l.drop (k + 1)).length (flat encE (l.take k ++ l.drop (k + 1))) ∧ y2.grownBy w' v2.ownBlock) ?he ?_
    case he => exact exec_appendR 34 24 72 i24 z24 un34 hi24 hz24 hs24 hb24 hc24 (by decide) encE_size' encE_one _ _ rfl w5.heap.size v2 (l.take k) (l.drop (k + 1)) (by kernel_rfl) hown2 (.slice (if c = k + 1 then some ⟨ga, oa, none⟩ else (some ⟨ga, oa, none⟩ : Option Addr).map (·.add ((k + 1) * 35))) (n - (k + 1)) (c - (k + 1))) (by kernel_rfl) hdr (by omega) (by omega) hS2.size
    rintro v3 y3 ⟨hown3, hgr3⟩
    have hS3' : Below w5.heap.size w5 y3 := hS2.grown hgr3 hS2.size (fun q hq => (hown2.lt q hq).1)
    refine ⟨hS3', ?_⟩
    simp only [Act.put, fl1, fl2, fl3, fl4, fl5, fl6]
    have hS := hS3'
    obtain ⟨A3, c3, rfl⟩ := own_form hown3
    have hll : (l.take k ++ l.drop (k + 1)).length = n - 1 := by rw [List.length_append, hltk, hldr]; omega
    rw [hll] at hown3 ⊢
    have hl9l : Hid (∀ q, (Value.slice A3 (n - 1) c3).ownBlock = some q → q < y3.heap.size) := fun q hq => (hown3.lt q hq).2
    have hlr : Rw 35 encE y3 (.slice A3 (n - 1) c3) (l.take k ++ l.drop (k + 1)) := by rw [← hll]; exact Rw.own encE_size' (by decide) (by rw [hll]; exact hown3)
    clear hi24 hz24 hs24 hb24 hc24 hyr1 htk hdr hown1 hown2 hown3 hgr2 hgr3 hS1 hS2 hyb hltk hldr hll
    refine held_take 10 rfl (by kernel_rfl) (by kernel_rfl) (by kernel_rfl) (.slice A3 (n - 1) c3) (fun _ _ _ h => nomatch h.1) (by kernel_rfl) (fun w' h => (by kernel_rfl)) hS ?_
    simp only [Act.put, fl1, fl2, fl3, fl4, fl5, fl6]
    have hb5 : Below w5.heap.size w5 y3 := hS
    clear hS hS3'
    refine wpAnyH_done (by kernel_rfl) ?_ _
    refine ⟨rfl, ?_⟩
    rename_i hK
    refine hK _ _ ?_
    clear hK
    have hSy3 : Hid (BS w B e y3) := (hSw5.out).below hb5
    have hyy3 : Hid (Rw 35 encE y3 (.slice (some ⟨ga, oa, none⟩) n c) l) := (hyw5.out).below hb5
    have huy3 : Hid (Bytes y3 u H) := (huw5.out).below hb5
    have hszy3 : Hid (w3.heap.size ≤ y3.heap.size) := Nat.le_trans hszw5.out (hb5).size
    have hoy3 : Hid (Wr y3 g9 n c9 (l.set k e)) := (how5.out).below hb5
    clear hSw5 hyw5 huw5 hszw5 how5
    have hl9y3 : Hid (Rw 35 encE y3 (.slice A3 (n - 1) c3) (l.take k ++ l.drop (k + 1))) := hlr
    clear hlr hb5
    obtain ⟨i24, z24, hi24, hz24, hs24, hb24, hc24⟩ := inf24p
    have hi24H : Hid (Tryd.prog.info? 24 = some i24) := hi24
    have hz24H : Hid (i24.zero = some z24) := hz24
    have hs24H : Hid (i24.size = 35) := hs24
    have hb24H : Hid (i24.bytes = 72) := hb24
    have hc24H : Hid (z24.cells.size = 35) := hc24
    clear hi24 hz24 hs24 hb24 hc24
    go_upto_region 12 with fail
    refine wp_normalG ?_
    refine wp_leaves (α := Value × Value × Value × Option Addr × Nat) (fun d a => ((((((a.put (some 59) d.1).put (some 60) (.slice (some ⟨ga, oa, none⟩) n c)).put (some 61) d.2.1).put (some 62) (.agg (encE e))).put (some 63) d.2.2.1).put (some 64) (.slice d.2.2.2.1 (n + 1) d.2.2.2.2)).put (some 11) (.slice d.2.2.2.1 (n + 1) d.2.2.2.2))
      (fun d w' => Rw 35 encE w' (.slice d.2.2.2.1 (n + 1) d.2.2.2.2) (l ++ [e]) ∧ Below y3.heap.size y3 w') ?_ ?_
    · refine wp_region_held_drew (S := fun w' => Below y3.heap.size y3 w') (by kernel_rfl) (Below.refl _ _).drew (fun hS => ?_)
      change wpAnyH _ _ _ _ _ 7 (Array.replicate 7 false) _ _
      generalize hx : y3.drew = y at hS
      clear hx
      refine held_take 1 rfl (by kernel_rfl) (by kernel_rfl) (by kernel_rfl) (.slice (some ⟨ga, oa, none⟩) n c) (fun _ _ _ h => nomatch h.1) (by kernel_rfl) (fun w' h => by kernel_rfl) hS ?_
      simp only [Act.put, fl1, fl2, fl3, fl4, fl5, fl6]
      refine held_take 3 rfl (by kernel_rfl) (by kernel_rfl) (by kernel_rfl) (.agg (encE e)) (fun _ _ _ h => nomatch h.1) (by kernel_rfl) (fun w' h => exec_load_row 24 w' _ rfl B (by kernel_rfl) 24 (encE e) (0, 0) _ (heap_kept hSy3.out.box h) Tryd.underlying24 rfl (by rw [encE_size']; kernel_rfl)) hS ?_
      simp only [Act.put, fl1, fl2, fl3, fl4, fl5, fl6]
      refine held_both 0 4 rfl rfl (by kernel_rfl) (by kernel_rfl) (by kernel_rfl) (fun K hK => ?_) (fun K hK => ?_)
      · refine wp_ran (.slice (some ⟨y.heap.size, 0, none⟩) 0 0) (y.alloc (.cells #[] 24)) (by kernel_rfl) ?_
        refine hK _ _ (hS.alloc hS.size _) ?_
        simp only [Act.put, fl1, fl2, fl3, fl4, fl5, fl6]
        have hS1 : Below y3.heap.size y3 (y.alloc (.cells #[] 24)) := hS.alloc hS.size _
        have hown1 : (y.alloc (.cells #[] 24)).ownsRow y3.heap.size 24 35 (.slice (some ⟨y.heap.size, 0, none⟩) 0 0) (([] : List En)).length (flat encE (([] : List En))) := World.ownsRow_made y #[] 0 hS.size (by decide) rfl
        have hlt1 : ∀ q, (Value.slice (some ⟨y.heap.size, 0, none⟩) 0 0).ownBlock = some q → q < (y.alloc (.cells #[] 24)).heap.size := fun q hq => (hown1.lt q hq).2
        clear hS hK
        generalize (y.alloc (.cells #[] 24)) = y1 at hS1 hown1 hlt1 ⊢
        generalize (Value.slice (some ⟨y.heap.size, 0, none⟩) 0 0) = v59 at hown1 hlt1 ⊢
        have hyr1 := hyy3.out.below hS1
        refine held_both 2 4 rfl rfl (by kernel_rfl) (by kernel_rfl) (by kernel_rfl) (fun K hK => ?_) (fun K hK => ?_)
        · refine wp_got (R := fun v w' => w'.ownsRow y3.heap.size 24 35 v ([] ++ l).length (flat encE ([] ++ l)) ∧ y1.grownBy w' v59.ownBlock) ?he ?_
          case he => exact exec_appendR 34 24 72 i24 z24 un34 hi24H.out hz24H.out hs24H.out hb24H.out hc24H.out (by decide) encE_size' encE_one _ _ rfl y3.heap.size v59 [] l (by kernel_rfl) hown1 (.slice (some ⟨ga, oa, none⟩) n c) (by kernel_rfl) hyr1 (by rw [← hn'.out]; simp; omega) (by rw [← hn'.out]; simp; omega) hS1.size
          rintro v61 y2 ⟨hown2, hgr2⟩
          have hS2 : Below y3.heap.size y3 y2 := hS1.grown hgr2 hS1.size (fun q hq => (hown1.lt q hq).1)
          refine hK _ _ hS2 ?_
          simp only [Act.put, fl1, fl2, fl3, fl4, fl5, fl6]
          clear hK hS1 hown1 hlt1 hyr1 hgr2
          have hA9 : Below y3.heap.size y3 (y2.alloc (.cells (encE e) 24)) := hS2.alloc hS2.size _
          have hB9 : (y2.alloc (.cells (encE e) 24)).ownsRow y3.heap.size 24 35 v61 ([] ++ l).length (flat encE ([] ++ l)) := own_keep hown2 (fun q hq => heap_alloc_old _ _ (hown2.lt q hq).2)
          have hC9 : (y2.alloc (.cells (encE e) 24)).heap[y2.heap.size]? = some (.cells (encE e) 24 (0, 0)) := heap_alloc_new _ _
          refine held_new 4 rfl (by kernel_rfl) (by kernel_rfl) (.slice (some ⟨y2.heap.size, 0, none⟩) 1 1) (y2.alloc (.cells (encE e) 24)) ?he (fun w' => Below y3.heap.size y3 w' ∧ w'.ownsRow y3.heap.size 24 35 v61 ([] ++ l).length (flat encE ([] ++ l)) ∧ w'.heap[y2.heap.size]? = some (.cells (encE e) 24 (0, 0))) ?hR ?_
          case he => exact exec_bs24 _ rfl e (by kernel_rfl) _
          case hR => exact ⟨hA9, hB9, hC9⟩
          clear hA9 hB9 hC9
          rintro y4 ⟨hS, hown, hd⟩
          refine ⟨hS, ?_⟩
          simp only [Act.put, fl1, fl2, fl3, fl4, fl5, fl6]
          have hby : Rw 35 encE y4 (.slice (some ⟨y2.heap.size, 0, none⟩) 1 1) [e] := rw_one24 hd
          clear hd hS2 hown2
          generalize (Value.slice (some ⟨y2.heap.size, 0, none⟩) 1 1) = v63 at hby ⊢
          refine held_got 5 rfl (by kernel_rfl) (by kernel_rfl) (R := fun v w' => w'.ownsRow y3.heap.size 24 35 v ([] ++ l ++ [e]).length (flat encE ([] ++ l ++ [e])) ∧ y4.grownBy w' v61.ownBlock) ?he ?_
          case he => exact exec_appendR 34 24 72 i24 z24 un34 hi24H.out hz24H.out hs24H.out hb24H.out hc24H.out (by decide) encE_size' encE_one _ _ rfl y3.heap.size v61 ([] ++ l) [e] (by kernel_rfl) hown v63 (by kernel_rfl) hby (by rw [List.nil_append, ← hn'.out]; simp; omega) (by rw [List.nil_append, ← hn'.out]; simp; omega) hS.size
          rintro v9 y9 ⟨hown9, hgr9⟩
          have hS9 : Below y3.heap.size y3 y9 := hS.grown hgr9 hS.size (fun q hq => (hown.lt q hq).1)
          refine ⟨hS9, ?_⟩
          simp only [Act.put, fl1, fl2, fl3, fl4, fl5, fl6]
          obtain ⟨A4, c4, rfl⟩ := own_form hown9
          have hll : ([] ++ l ++ [e]).length = n + 1 := by rw [List.nil_append, List.length_append, ← hn'.out]; rfl
          rw [hll] at hown9 ⊢
          refine held_take 6 rfl (by kernel_rfl) (by kernel_rfl) (by kernel_rfl) (.slice A4 (n + 1) c4) (fun _ _ _ h => nomatch h.1) (by kernel_rfl) (fun w' h => by kernel_rfl) hS9 ?_
          simp only [Act.put, fl1, fl2, fl3, fl4, fl5, fl6]
          refine wpAnyH_done (by kernel_rfl) ?_ _
          have hlr : Rw 35 encE y9 (.slice A4 (n + 1) c4) (l ++ [e]) := by
            have h8 := Rw.own encE_size' (by decide) (show y9.ownsRow y3.heap.size 24 35 (.slice A4 (n + 1) c4) ([] ++ l ++ [e]).length (flat encE ([] ++ l ++ [e])) by rw [hll]; exact hown9)
            rwa [List.nil_append] at h8
          exact ⟨rfl, (v59, v61, v63, A4, c4), by kernel_rfl, hlr, hS9⟩
        · refine wp_ran (.slice (some ⟨y1.heap.size, 0, none⟩) 1 1) (y1.alloc (.cells (encE e) 24)) ?he ?_
          case he => exact exec_bs24 _ rfl e (by kernel_rfl) _
          have hS2 : Below y3.heap.size y3 (y1.alloc (.cells (encE e) 24)) := hS1.alloc hS1.size _
          refine hK _ _ hS2 ?_
          simp only [Act.put, fl1, fl2, fl3, fl4, fl5, fl6]
          have hown2 : (y1.alloc (.cells (encE e) 24)).ownsRow y3.heap.size 24 35 v59 (([] : List En)).length (flat encE (([] : List En))) := own_keep hown1 (fun q hq => heap_alloc_old _ _ (hown1.lt q hq).2)
          have hd2 : (y1.alloc (.cells (encE e) 24)).heap[y1.heap.size]? = some (.cells (encE e) 24 (0, 0)) := heap_alloc_new _ _
          have hne2 : some y1.heap.size ≠ v59.ownBlock := fun h => by have := hlt1 _ h.symm; omega
          clear hK hS1 hown1 hlt1 hyr1
          generalize (y1.alloc (.cells (encE e) 24)) = y2 at hS2 hown2 hd2 ⊢
          generalize y1.heap.size = gb at hd2 hne2 ⊢
          have hyr2 := hyy3.out.below hS2
          refine held_got 2 rfl (by kernel_rfl) (by kernel_rfl) (R := fun v w' => w'.ownsRow y3.heap.size 24 35 v ([] ++ l).length (flat encE ([] ++ l)) ∧ y2.grownBy w' v59.ownBlock) ?he ?_
          case he => exact exec_appendR 34 24 72 i24 z24 un34 hi24H.out hz24H.out hs24H.out hb24H.out hc24H.out (by decide) encE_size' encE_one _ _ rfl y3.heap.size v59 [] l (by kernel_rfl) hown2 (.slice (some ⟨ga, oa, none⟩) n c) (by kernel_rfl) hyr2 (by rw [← hn'.out]; simp; omega) (by rw [← hn'.out]; simp; omega) hS2.size
          rintro v61 y4 ⟨hown, hgr⟩
          have hS : Below y3.heap.size y3 y4 := hS2.grown hgr hS2.size (fun q hq => (hown2.lt q hq).1)
          refine ⟨hS, ?_⟩
          simp only [Act.put, fl1, fl2, fl3, fl4, fl5, fl6]
          have hby : Rw 35 encE y4 (.slice (some ⟨gb, 0, none⟩) 1 1) [e] := rw_one24 ((hgr.block _ (Array.getElem?_eq_some_iff.1 hd2).1 hne2).trans hd2)
          clear hd2 hne2 hS2 hown2 hgr hyr2
          generalize (Value.slice (some ⟨gb, 0, none⟩) 1 1) = v63 at hby ⊢
          refine held_got 5 rfl (by kernel_rfl) (by kernel_rfl) (R := fun v w' => w'.ownsRow y3.heap.size 24 35 v ([] ++ l ++ [e]).length (flat encE ([] ++ l ++ [e])) ∧ y4.grownBy w' v61.ownBlock) ?he ?_
          case he => exact exec_appendR 34 24 72 i24 z24 un34 hi24H.out hz24H.out hs24H.out hb24H.out hc24H.out (by decide) encE_size' encE_one _ _ rfl y3.heap.size v61 ([] ++ l) [e] (by kernel_rfl) hown v63 (by kernel_rfl) hby (by rw [List.nil_append, ← hn'.out]; simp; omega) (by rw [List.nil_append, ← hn'.out]; simp; omega) hS.size
          rintro v9 y9 ⟨hown9, hgr9⟩
          have hS9 : Below y3.heap.size y3 y9 := hS.grown hgr9 hS.size (fun q hq => (hown.lt q hq).1)
          refine ⟨hS9, ?_⟩
          simp only [Act.put, fl1, fl2, fl3, fl4, fl5, fl6]
          obtain ⟨A4, c4, rfl⟩ := own_form hown9
          have hll : ([] ++ l ++ [e]).length = n + 1 := by rw [List.nil_append, List.length_append, ← hn'.out]; rfl
          rw [hll] at hown9 ⊢
          refine held_take 6 rfl (by kernel_rfl) (by kernel_rfl) (by kernel_rfl) (.slice A4 (n + 1) c4) (fun _ _ _ h => nomatch h.1) (by kernel_rfl) (fun w' h => by kernel_rfl) hS9 ?_
          simp only [Act.put, fl1, fl2, fl3, fl4, fl5, fl6]
          refine wpAnyH_done (by kernel_rfl) ?_ _
          have hlr : Rw 35 encE y9 (.slice A4 (n + 1) c4) (l ++ [e]) := by
            have h8 := Rw.own encE_size' (by decide) (show y9.ownsRow y3.heap.size 24 35 (.slice A4 (n + 1) c4) ([] ++ l ++ [e]).length (flat encE ([] ++ l ++ [e])) by rw [hll]; exact hown9)
            rwa [List.nil_append] at h8
          exact ⟨rfl, (v59, v61, v63, A4, c4), by kernel_rfl, hlr, hS9⟩
      · refine wp_ran (.slice (some ⟨y.heap.size, 0, none⟩) 1 1) (y.alloc (.cells (encE e) 24)) ?he ?_
        case he => exact exec_bs24 _ rfl e (by kernel_rfl) _
        have hS1 : Below y3.heap.size y3 (y.alloc (.cells (encE e) 24)) := hS.alloc hS.size _
        refine hK _ _ hS1 ?_
        simp only [Act.put, fl1, fl2, fl3, fl4, fl5, fl6]
        have hd1 : (y.alloc (.cells (encE e) 24)).heap[y.heap.size]? = some (.cells (encE e) 24 (0, 0)) := heap_alloc_new _ _
        clear hS hK
        generalize (y.alloc (.cells (encE e) 24)) = y1 at hS1 hd1 ⊢
        generalize y.heap.size = gb at hd1 ⊢
        have hgb : gb < y1.heap.size := (Array.getElem?_eq_some_iff.1 hd1).1
        have hA9 : Below y3.heap.size y3 (y1.alloc (.cells #[] 24)) := hS1.alloc hS1.size _
        have hB9 : (y1.alloc (.cells #[] 24)).ownsRow y3.heap.size 24 35 (.slice (some ⟨y1.heap.size, 0, none⟩) 0 0) (([] : List En)).length (flat encE (([] : List En))) := World.ownsRow_made y1 #[] 0 hS1.size (by decide) rfl
        have hC9 : (y1.alloc (.cells #[] 24)).heap[gb]? = some (.cells (encE e) 24 (0, 0)) := (heap_alloc_old _ _ hgb).trans hd1
        refine held_new 0 rfl (by kernel_rfl) (by kernel_rfl) (.slice (some ⟨y1.heap.size, 0, none⟩) 0 0) (y1.alloc (.cells #[] 24)) (by kernel_rfl) (fun w' => Below y3.heap.size y3 w' ∧ w'.ownsRow y3.heap.size 24 35 (.slice (some ⟨y1.heap.size, 0, none⟩) 0 0) (([] : List En)).length (flat encE (([] : List En))) ∧ w'.heap[gb]? = some (.cells (encE e) 24 (0, 0))) ?hR ?_
        case hR => exact ⟨hA9, hB9, hC9⟩
        clear hA9 hB9 hC9
        rintro y2 ⟨hS2, hown2, hd2⟩
        refine ⟨hS2, ?_⟩
        simp only [Act.put, fl1, fl2, fl3, fl4, fl5, fl6]
        have hne2 : some gb ≠ (Value.slice (some ⟨y1.heap.size, 0, none⟩) 0 0).ownBlock := fun h => by simp [Value.ownBlock] at h; omega
        clear hS1 hd1 hgb
        generalize (Value.slice (some ⟨y1.heap.size, 0, none⟩) 0 0) = v59 at hown2 hne2 ⊢
        have hyr2 := hyy3.out.below hS2
        refine held_got 2 rfl (by kernel_rfl) (by kernel_rfl) (R := fun v w' => w'.ownsRow y3.heap.size 24 35 v ([] ++ l).length (flat encE ([] ++ l)) ∧ y2.grownBy w' v59.ownBlock) ?he ?_
        case he => exact exec_appendR 34 24 72 i24 z24 un34 hi24H.out hz24H.out hs24H.out hb24H.out hc24H.out (by decide) encE_size' encE_one _ _ rfl y3.heap.size v59 [] l (by kernel_rfl) hown2 (.slice (some ⟨ga, oa, none⟩) n c) (by kernel_rfl) hyr2 (by rw [← hn'.out]; simp; omega) (by rw [← hn'.out]; simp; omega) hS2.size
        rintro v61 y4 ⟨hown, hgr⟩
        have hS : Below y3.heap.size y3 y4 := hS2.grown hgr hS2.size (fun q hq => (hown2.lt q hq).1)
        refine ⟨hS, ?_⟩
        simp only [Act.put, fl1, fl2, fl3, fl4, fl5, fl6]
        have hby : Rw 35 encE y4 (.slice (some ⟨gb, 0, none⟩) 1 1) [e] := rw_one24 ((hgr.block _ (Array.getElem?_eq_some_iff.1 hd2).1 hne2).trans hd2)
        clear hd2 hne2 hS2 hown2 hgr hyr2
        generalize (Value.slice (some ⟨gb, 0, none⟩) 1 1) = v63 at hby ⊢
        refine held_got 5 rfl (by kernel_rfl) (by kernel_rfl) (R := fun v w' => w'.ownsRow y3.heap.size 24 35 v ([] ++ l ++ [e]).length (flat encE ([] ++ l ++ [e])) ∧ y4.grownBy w' v61.ownBlock) ?he ?_
        case he => exact exec_appendR 34 24 72 i24 z24 un34 hi24H.out hz24H.out hs24H.out hb24H.out hc24H.out (by decide) encE_size' encE_one _ _ rfl y3.heap.size v61 ([] ++ l) [e] (by kernel_rfl) hown v63 (by kernel_rfl) hby (by rw [List.nil_append, ← hn'.out]; simp; omega) (by rw [List.nil_append, ← hn'.out]; simp; omega) hS.size
        rintro v9 y9 ⟨hown9, hgr9⟩
        have hS9 : Below y3.heap.size y3 y9 := hS.grown hgr9 hS.size (fun q hq => (hown.lt q hq).1)
        refine ⟨hS9, ?_⟩
        simp only [Act.put, fl1, fl2, fl3, fl4, fl5, fl6]
        obtain ⟨A4, c4, rfl⟩ := own_form hown9
        have hll : ([] ++ l ++ [e]).length = n + 1 := by rw [List.nil_append, List.length_append, ← hn'.out]; rfl
        rw [hll] at hown9 ⊢
        refine held_take 6 rfl (by kernel_rfl) (by kernel_rfl) (by kernel_rfl) (.slice A4 (n + 1) c4) (fun _ _ _ h => nomatch h.1) (by kernel_rfl) (fun w' h => by kernel_rfl) hS9 ?_
        simp only [Act.put, fl1, fl2, fl3, fl4, fl5, fl6]
        refine wpAnyH_done (by kernel_rfl) ?_ _
        have hlr : Rw 35 encE y9 (.slice A4 (n + 1) c4) (l ++ [e]) := by
          have h8 := Rw.own encE_size' (by decide) (show y9.ownsRow y3.heap.size 24 35 (.slice A4 (n + 1) c4) ([] ++ l ++ [e]).length (flat encE ([] ++ l ++ [e])) by rw [hll]; exact hown9)
          rwa [List.nil_append] at h8
        exact ⟨rfl, (v59, v61, v63, A4, c4), by kernel_rfl, hlr, hS9⟩
    rintro ⟨v59, v61, v63, A4, c4⟩ w6 ⟨hlr, hb6⟩
    refine ⟨rfl, ?_⟩
    rename_i hK
    refine hK _ _ ?_
    clear hK hi24H hz24H hs24H hb24H hc24H
    simp only [Act.put, fl1, fl2, fl3]
    have hSw6 : Hid (BS w B e w6) := (hSy3.out).below hb6
    have hyw6 : Hid (Rw 35 encE w6 (.slice (some ⟨ga, oa, none⟩) n c) l) := (hyy3.out).below hb6
    have huw6 : Hid (Bytes w6 u H) := (huy3.out).below hb6
    have hszw6 : Hid (w3.heap.size ≤ w6.heap.size) := Nat.le_trans hszy3.out (hb6).size
    have how6 : Hid (Wr w6 g9 n c9 (l.set k e)) := (hoy3.out).below hb6
    have hl9w6 : Hid (Rw 35 encE w6 (.slice A3 (n - 1) c3) (l.take k ++ l.drop (k + 1))) := (hl9y3.out).below hb6
    clear hSy3 hyy3 huy3 hszy3 hoy3 hl9y3
    have hm9w6 : Hid (Rw 35 encE w6 (.slice A4 (n + 1) c4) (l ++ [e])) := hlr
    clear hlr
    have hl9ltH : Hid (∀ q, (Value.slice A3 (n - 1) c3).ownBlock = some q → q < w6.heap.size) := fun q hq => Nat.lt_of_lt_of_le (hl9l.out q hq) hb6.size
    have hm9ltH : Hid (∀ q, (Value.slice A4 (n + 1) c4).ownBlock = some q → q < w6.heap.size) := fun q hq => hm9w6.out.lt (by simp) q hq
    have hoG : Hid (g9 < w6.heap.size) := how6.out.lt
    clear hl9l hb6
    go_upto_region 13 with fail
    refine wp_region_lit ?_
    refine sg_run (by kernel_rfl) (.slice (some ⟨w6.heap.size, 0, none⟩) 0 0) (w6.alloc (.cells #[] 24)) (by kernel_rfl) ?_
    simp only [Act.put, fl1, fl2, fl3]
    refine sl_run rfl (.slice (some ⟨ga, oa, none⟩) n c) (w6.alloc (.cells #[] 24)) (by kernel_rfl) ?_
    simp only [Act.put, fl1, fl2, fl3]
    obtain ⟨i24, z24, hi24, hz24, hs24, hb24, hc24⟩ := inf24p
    refine appendRw (k := 35) (enc := encE) 34 24 72 i24 z24 un34 hi24 hz24 hs24 hb24 hc24 (by decide) encE_size' encE_one rfl _ _ rfl w6.heap.size (.slice (some ⟨w6.heap.size, 0, none⟩) 0 0) [] l (by kernel_rfl) (World.ownsRow_made w6 #[] 0 (Nat.le_refl _) (by decide) rfl) (.slice (some ⟨ga, oa, none⟩) n c) (by kernel_rfl) (hyw6.out.below ((Below.refl _ _).alloc (Nat.le_refl _) _)) (by rw [← hn'.out]; simp; omega) (by rw [← hn'.out]; simp; omega) (by simp) (fun v9 w7 hown9 hgr9 => ?_)
    clear hi24 hz24 hs24 hb24 hc24
    rw [List.nil_append, ← hn'.out] at hown9
    have hb : Below w6.heap.size w6 w7 := ((Below.refl _ _).alloc (Nat.le_refl _) _).grown hgr9 (by simp) (fun q hq => by simp [Value.ownBlock] at hq; omega)
    obtain ⟨g12, c12, rfl⟩ : ∃ g9 c9, v9 = .slice (some ⟨g9, 0, none⟩) n c9 := by
      rcases hown9.2 with ⟨_, h0⟩ | ⟨g9, c9, _, h1, _⟩
      · omega
      · exact ⟨g9, c9, h1⟩
    have hge6g12 : Hid (w6.heap.size ≤ g12) := (hown9.lt g12 rfl).1
    have hgeg12 : Hid (w3.heap.size ≤ g12) := by show _ ≤ _; have h1 := (hown9.lt g12 rfl).1; have h2 := hszw6.out; omega
    simp only [Act.put, fl1, fl2, fl3]
    have hSw7 : Hid (BS w B e w7) := (hSw6.out).below hb
    have hyw7 : Hid (Rw 35 encE w7 (.slice (some ⟨ga, oa, none⟩) n c) l) := (hyw6.out).below hb
    have huw7 : Hid (Bytes w7 u H) := (huw6.out).below hb
    have hszw7 : Hid (w3.heap.size ≤ w7.heap.size) := Nat.le_trans hszw6.out (hb).size
    have how7 : Hid (Wr w7 g9 n c9 (l.set k e)) := (how6.out).below hb
    have hl9w7 : Hid (Rw 35 encE w7 (.slice A3 (n - 1) c3) (l.take k ++ l.drop (k + 1))) := (hl9w6.out).below hb
    have hm9w7 : Hid (Rw 35 encE w7 (.slice A4 (n + 1) c4) (l ++ [e])) := (hm9w6.out).below hb
    clear hSw6 hyw6 huw6 hszw6 how6 hl9w6 hm9w6
    have ht9w7 : Hid (Wr w7 g12 n c12 l) := Wr.own hn'.out hown9
    clear hb hown9 hgr9
    refine sl_run rfl (.slice (some ⟨g12, 0, none⟩) n c12) w7 (by kernel_rfl) ?_
    simp only [Act.put, fl1, fl2, fl3]
    refine wpList_nil ?_
    have hgtht9 : Hid (w6.heap.size ≤ g12) := hge6g12.out
    have hnehoht9 : Hid (g9 ≠ g12) := by show ¬ _; have h1 := hoG.out; have h2 := hgtht9.out; omega
    go_upto_region 14 with fail
    refine wp_normalG ?_
    refine wp_leaves (α := Unit) (fun _ a => ((((((((((((a.put (some 68) (.slice (some ⟨g12, 0, none⟩) n c12)).put (some 69) (.slice (some ⟨g12, 0, none⟩) n c12)).put (some 70) (.int .i64 (k : Int))).put (some 71) (.slice (some ⟨g12, 0, none⟩) n c12)).put (some 72) (.int .i64 (k : Int))).put (some 73) (.pointer (some ⟨g12, 0 + k * 35, none⟩))).put (some 74) (.agg (encE (l.getD k default)))).put (some 75) (.slice (some ⟨g12, 0, none⟩) n c12)).put (some 76) (.pointer (some ⟨g12, 0, none⟩))).put (some 77) (.agg (encE (l.getD 0 default)))).put (some 78) (.pointer (some ⟨g12, 0, none⟩))).put (some 79) (.pointer (some ⟨g12, 0 + k * 35, none⟩)))) (fun _ w' => Kp w7 g12 w' ∧ Wr w' g12 n c12 (swapL l k)) ?_ ?_
    · refine wp_region_held_drew (S := fun w' => Kp w7 g12 w') (by kernel_rfl) (Kp.of (Below.refl _ _).drew) (fun hS => ?_)
      change wpAnyH _ _ _ _ _ 14 (Array.replicate 14 false) _ _
      have hWy : Wr w7.drew g12 n c12 l := ht9w7.out.below (Below.refl _ _).drew
      generalize hx : w7.drew = y at hS hWy
      clear hx
      refine held_take 0 rfl (by kernel_rfl) (by kernel_rfl) (by kernel_rfl) (.slice (some ⟨g12, 0, none⟩) n c12) (fun _ _ _ h => nomatch h.1) (by kernel_rfl) (fun w' h => by kernel_rfl) hS ?_
      simp only [Act.put, fl1, fl2, fl3, fl4, fl5, fl6]
      refine held_take 1 rfl (by kernel_rfl) (by kernel_rfl) (by kernel_rfl) (.slice (some ⟨g12, 0, none⟩) n c12) (fun _ _ _ h => nomatch h.1) (by kernel_rfl) (fun w' h => by kernel_rfl) hS ?_
      simp only [Act.put, fl1, fl2, fl3, fl4, fl5, fl6]
      refine held_take 2 rfl (by kernel_rfl) (by kernel_rfl) (by kernel_rfl) (.int .i64 (k : Int)) (fun _ _ _ h => nomatch h.1) (by kernel_rfl) (fun w' h => by kernel_rfl) hS ?_
      simp only [Act.put, fl1, fl2, fl3, fl4, fl5, fl6]
      refine held_take 3 rfl (by kernel_rfl) (by kernel_rfl) (by kernel_rfl) (.slice (some ⟨g12, 0, none⟩) n c12) (fun _ _ _ h => nomatch h.1) (by kernel_rfl) (fun w' h => by kernel_rfl) hS ?_
      simp only [Act.put, fl1, fl2, fl3, fl4, fl5, fl6]
      refine held_take 4 rfl (by kernel_rfl) (by kernel_rfl) (by kernel_rfl) (.int .i64 (k : Int)) (fun _ _ _ h => nomatch h.1) (by kernel_rfl) (fun w' h => by kernel_rfl) hS ?_
      simp only [Act.put, fl1, fl2, fl3, fl4, fl5, fl6]
      refine held_take 5 rfl (by kernel_rfl) (by kernel_rfl) (by kernel_rfl) (.pointer (some ⟨g12, 0 + k * 35, none⟩)) (fun _ _ _ h => nomatch h.1) (by kernel_rfl) (fun w' h => exec_index un34 sz34 _ _ rfl g12 0 n c12 k (by kernel_rfl) (by kernel_rfl) hkn _) hS ?_
      simp only [Act.put, fl1, fl2, fl3, fl4, fl5, fl6]
      refine held_take 7 rfl (by kernel_rfl) (by kernel_rfl) (by kernel_rfl) (.slice (some ⟨g12, 0, none⟩) n c12) (fun _ _ _ h => nomatch h.1) (by kernel_rfl) (fun w' h => by kernel_rfl) hS ?_
      simp only [Act.put, fl1, fl2, fl3, fl4, fl5, fl6]
      refine held_take 8 rfl (by kernel_rfl) (by kernel_rfl) (by kernel_rfl) (.pointer (some ⟨g12, 0, none⟩)) (fun _ _ _ h => nomatch h.1) (by kernel_rfl) (fun w' h => exec_index un34 sz34 _ _ rfl g12 0 n c12 0 (by kernel_rfl) (by kernel_rfl) hn1 _) hS ?_
      simp only [Act.put, fl1, fl2, fl3, fl4, fl5, fl6]
      refine held_two 6 9 rfl rfl (by kernel_rfl) (by kernel_rfl) (by kernel_rfl) (.agg (encE (l.getD k default))) y ?he1 hS (.agg (encE (l.getD 0 default))) y ?he2 hS ?_ ?_
      case he1 => exact load_en _ _ rfl g12 (0 + k * 35) (by kernel_rfl) _ (by rw [show 0 + k * 35 = k * 35 by omega]; exact hWy.el k hkn)
      case he2 => exact load_en _ _ rfl g12 (0) (by kernel_rfl) _ (by rw [show 0 = 0 * 35 by omega]; exact hWy.el 0 hn1)
      · simp only [Act.put, fl1, fl2, fl3, fl4, fl5, fl6]
        refine held_run 9 rfl (by kernel_rfl) (by kernel_rfl) (.agg (encE (l.getD 0 default))) y ?he hS ?_
        case he => exact load_en _ _ rfl g12 (0) (by kernel_rfl) _ (by rw [show 0 = 0 * 35 by omega]; exact hWy.el 0 hn1)
        simp only [Act.put, fl1, fl2, fl3, fl4, fl5, fl6]
        refine held_take 10 rfl (by kernel_rfl) (by kernel_rfl) (by kernel_rfl) (.pointer (some ⟨g12, 0, none⟩)) (fun _ _ _ h => nomatch h.1) (by kernel_rfl) (fun w' h => exec_index un34 sz34 _ _ rfl g12 0 n c12 0 (by kernel_rfl) (by kernel_rfl) hn1 _) hS ?_
        simp only [Act.put, fl1, fl2, fl3, fl4, fl5, fl6]
        refine held_did 11 rfl (by kernel_rfl) (by kernel_rfl) (y.setCells g12 (0 * 35) (encE (l.getD k default)).toList) ?he ?hS2 ?_
        case he => exact exec_store_mid24 _ _ rfl g12 n c12 0 hWy hn1 0 (by omega) (by kernel_rfl) _ (by kernel_rfl)
        case hS2 => exact kp_trans hS (setCells_kp _ _ _ _)
        simp only [Act.put, fl1, fl2, fl3, fl4, fl5, fl6]
        have hS2 : Kp w7 g12 (y.setCells g12 (0 * 35) (encE (l.getD k default)).toList) := kp_trans hS (setCells_kp _ _ _ _)
        have hW2 := hWy.set hn1 (l.getD k default)
        generalize (y.setCells g12 (0 * 35) (encE (l.getD k default)).toList) = y2 at hS2 hW2
        refine held_take 12 rfl (by kernel_rfl) (by kernel_rfl) (by kernel_rfl) (.pointer (some ⟨g12, 0 + k * 35, none⟩)) (fun _ _ _ h => nomatch h.1) (by kernel_rfl) (fun w' h => exec_index un34 sz34 _ _ rfl g12 0 n c12 k (by kernel_rfl) (by kernel_rfl) hkn _) hS2 ?_
        simp only [Act.put, fl1, fl2, fl3, fl4, fl5, fl6]
        have hS3' := kp_trans hS2 (setCells_kp g12 (encE (l.getD 0 default)).toList (k * 35) y2)
        have hW3' := hW2.set hkn (l.getD 0 default)
        refine held_did 13 rfl (by kernel_rfl) (by kernel_rfl) (y2.setCells g12 (k * 35) (encE (l.getD 0 default)).toList) ?he ?hS4 ?_
        case he => exact exec_store_mid24 _ _ rfl g12 n c12 k hW2 hkn (0 + k * 35) (by omega) (by kernel_rfl) _ (by kernel_rfl)
        case hS4 => exact hS3'
        simp only [Act.put, fl1, fl2, fl3, fl4, fl5, fl6]
        refine wpAnyH_done (by kernel_rfl) ?_ _
        exact ⟨rfl, (), by kernel_rfl, hS3', hW3'⟩
      · simp only [Act.put, fl1, fl2, fl3, fl4, fl5, fl6]
        refine held_run 6 rfl (by kernel_rfl) (by kernel_rfl) (.agg (encE (l.getD k default))) y ?he hS ?_
        case he => exact load_en _ _ rfl g12 (0 + k * 35) (by kernel_rfl) _ (by rw [show 0 + k * 35 = k * 35 by omega]; exact hWy.el k hkn)
        simp only [Act.put, fl1, fl2, fl3, fl4, fl5, fl6]
        refine held_take 10 rfl (by kernel_rfl) (by kernel_rfl) (by kernel_rfl) (.pointer (some ⟨g12, 0, none⟩)) (fun _ _ _ h => nomatch h.1) (by kernel_rfl) (fun w' h => exec_index un34 sz34 _ _ rfl g12 0 n c12 0 (by kernel_rfl) (by kernel_rfl) hn1 _) hS ?_
        simp only [Act.put, fl1, fl2, fl3, fl4, fl5, fl6]
        refine held_did 11 rfl (by kernel_rfl) (by kernel_rfl) (y.setCells g12 (0 * 35) (encE (l.getD k default)).toList) ?he ?hS2 ?_
        case he => exact exec_store_mid24 _ _ rfl g12 n c12 0 hWy hn1 0 (by omega) (by kernel_rfl) _ (by kernel_rfl)
        case hS2 => exact kp_trans hS (setCells_kp _ _ _ _)
        simp only [Act.put, fl1, fl2, fl3, fl4, fl5, fl6]
        have hS2 : Kp w7 g12 (y.setCells g12 (0 * 35) (encE (l.getD k default)).toList) := kp_trans hS (setCells_kp _ _ _ _)
        have hW2 := hWy.set hn1 (l.getD k default)
        generalize (y.setCells g12 (0 * 35) (encE (l.getD k default)).toList) = y2 at hS2 hW2
        refine held_take 12 rfl (by kernel_rfl) (by kernel_rfl) (by kernel_rfl) (.pointer (some ⟨g12, 0 + k * 35, none⟩)) (fun _ _ _ h => nomatch h.1) (by kernel_rfl) (fun w' h => exec_index un34 sz34 _ _ rfl g12 0 n c12 k (by kernel_rfl) (by kernel_rfl) hkn _) hS2 ?_
        simp only [Act.put, fl1, fl2, fl3, fl4, fl5, fl6]
        have hS3' := kp_trans hS2 (setCells_kp g12 (encE (l.getD 0 default)).toList (k * 35) y2)
        have hW3' := hW2.set hkn (l.getD 0 default)
        refine held_did 13 rfl (by kernel_rfl) (by kernel_rfl) (y2.setCells g12 (k * 35) (encE (l.getD 0 default)).toList) ?he ?hS4 ?_
        case he => exact exec_store_mid24 _ _ rfl g12 n c12 k hW2 hkn (0 + k * 35) (by omega) (by kernel_rfl) _ (by kernel_rfl)
        case hS4 => exact hS3'
        simp only [Act.put, fl1, fl2, fl3, fl4, fl5, fl6]
        refine wpAnyH_done (by kernel_rfl) ?_ _
        exact ⟨rfl, (), by kernel_rfl, hS3', hW3'⟩
    rintro ⟨⟩ w8 ⟨hk9, hwr9⟩
    refine ⟨rfl, ?_⟩
    rename_i hK
    refine hK _ _ ?_
    clear hK
    simp only [Act.put, fl1, fl2, fl3]
    have hSw8 : Hid (BS w B e w8) := ⟨hk9.heapx hSw7.out.box (by have := (Array.getElem?_eq_some_iff.1 hS3.out.box).1; have := hgeg12.out; omega), hSw7.out.bel.kpx hk9 (by have := hgeg12.out; have := hS3.out.bel.size; omega)⟩
    have hyw8 : Hid (Rw 35 encE w8 (.slice (some ⟨ga, oa, none⟩) n c) l) := rw_kp hyw7.out hk9 (fun q hq => by have h8 := hyltH.out q hq; have := hgeg12.out; omega)
    have huw8 : Hid (Bytes w8 u H) := bytes_kp huw7.out hk9 (fun h0 q hq => by have h8 := hultH.out h0 q hq; have := hgeg12.out; omega)
    have hszw8 : Hid (w3.heap.size ≤ w8.heap.size) := Nat.le_trans hszw7.out hk9.size
    have how8 : Hid (Wr w8 g9 n c9 (l.set k e)) := how7.out.kp hk9 (by have := hnehoht9.out; omega)
    have hl9w8 : Hid (Rw 35 encE w8 (.slice A3 (n - 1) c3) (l.take k ++ l.drop (k + 1))) := rw_kp hl9w7.out hk9 (fun q hq => by have h8 := hl9ltH.out q hq; have := hgtht9.out; omega)
    have hm9w8 : Hid (Rw 35 encE w8 (.slice A4 (n + 1) c4) (l ++ [e])) := rw_kp hm9w7.out hk9 (fun q hq => by have h8 := hm9ltH.out q hq; have := hgtht9.out; omega)
    have ht9w8 : Hid (Wr w8 g12 n c12 (swapL l k)) := hwr9
    clear hk9 hwr9 hSw7 hyw7 huw7 hszw7 how7 hl9w7 hm9w7 ht9w7
    have hl0 : Hid (l ≠ []) := fun h0 => by have := hn'.out; rw [h0] at this; simp at this; omega
    have hokS : Hid (∀ x ∈ l.set k e, x.ok) := fun x hx => by
      rcases List.mem_or_eq_of_mem_set hx with hx | rfl
      · exact hokH.out x hx
      · exact heH.out
    have hokL : Hid (∀ x ∈ l.take k ++ l.drop (k + 1), x.ok) := fun x hx => by
      rcases List.mem_append.1 hx with hx | hx
      · exact hokH.out x (List.mem_of_mem_take hx)
      · exact hokH.out x (List.mem_of_mem_drop hx)
    have hokM : Hid (∀ x ∈ l ++ [e], x.ok) := fun x hx => by
      rcases List.mem_append.1 hx with hx | hx
      · exact hokH.out x hx
      · rw [List.mem_singleton.1 hx]; exact heH.out
    have hokT : Hid (∀ x ∈ swapL l k, x.ok) := fun x hx => hokH.out x (swap_mem (by rw [← hn'.out]; exact hkn) x hx)
    have hrS : Hid (rightS 32 (l.set k e) = true) := right_sub hrlH.out hgood.out fun x hx => List.mem_or_eq_of_mem_set hx
    have hrL : Hid (rightS 32 (l.take k ++ l.drop (k + 1)) = true) := right_sub hrlH.out hgood.out fun x hx => by
      rcases List.mem_append.1 hx with hx | hx
      · exact .inl (List.mem_of_mem_take hx)
      · exact .inl (List.mem_of_mem_drop hx)
    have hrM : Hid (rightS 32 (l ++ [e]) = true) := right_sub hrlH.out hgood.out fun x hx => by
      rcases List.mem_append.1 hx with hx | hx
      · exact .inl hx
      · exact .inr (List.mem_singleton.1 hx)
    have hrT : Hid (rightS 32 (swapL l k) = true) := right_sub hrlH.out hgood.out fun x hx => .inl (swap_mem (by rw [← hn'.out]; exact hkn) x hx)
    have hlnS : n = (l.set k e).length := by rw [List.length_set]; exact hn'.out
    have hlnL : n - 1 = (l.take k ++ l.drop (k + 1)).length := by rw [List.length_append, List.length_take, List.length_drop, ← hn'.out]; omega
    have hlnM : n + 1 = (l ++ [e]).length := by rw [List.length_append, ← hn'.out]; rfl
    have hlnT : n = (swapL l k).length := by unfold swapL; rw [List.length_set, List.length_set]; exact hn'.out
    go_upto_region 15 with fail
    refine wp_region_lit ?_
    refine sl_run rfl (.slice (some ⟨ga, oa, none⟩) n c) w8 (by kernel_rfl) ?_
    simp only [Act.put, fl1, fl2, fl3]
    refine sl_run rfl (.slice (some ⟨g9, 0, none⟩) n c9) w8 (by kernel_rfl) ?_
    simp only [Act.put, fl1, fl2, fl3]
    refine sl_run rfl (u) w8 (by kernel_rfl) ?_
    simp only [Act.put, fl1, fl2, fl3]
    refine sg_call (by kernel_rfl) 31 #[.slice (some ⟨ga, oa, none⟩) n c, .slice (some ⟨g9, 0, none⟩) n c9, u] (by kernel_rfl) (R := fun v w' => v = .bool true ∧ Below w8.heap.size w8 w') ((bound_calls l _ hokH.out hokS.out hrlH.out hrS.out hl0.out (some ⟨ga, oa, none⟩) n c hn'.out (by omega) (some ⟨g9, 0, none⟩) n c9 hlnS (by omega) u w8 hyw8.out how8.out.rw (hHEH.out ▸ huw8.out)).mono fun e w' h => ⟨_, h.1, rfl, h.2⟩) ?_
    rintro _ w9 ⟨rfl, hb⟩
    simp only [Act.put, fl1, fl2, fl3]
    have hSw9 : Hid (BS w B e w9) := (hSw8.out).below hb
    have hyw9 : Hid (Rw 35 encE w9 (.slice (some ⟨ga, oa, none⟩) n c) l) := (hyw8.out).below hb
    have huw9 : Hid (Bytes w9 u H) := (huw8.out).below hb
    have hszw9 : Hid (w3.heap.size ≤ w9.heap.size) := Nat.le_trans hszw8.out (hb).size
    have how9 : Hid (Wr w9 g9 n c9 (l.set k e)) := (how8.out).below hb
    have hl9w9 : Hid (Rw 35 encE w9 (.slice A3 (n - 1) c3) (l.take k ++ l.drop (k + 1))) := (hl9w8.out).below hb
    have hm9w9 : Hid (Rw 35 encE w9 (.slice A4 (n + 1) c4) (l ++ [e])) := (hm9w8.out).below hb
    have ht9w9 : Hid (Wr w9 g12 n c12 (swapL l k)) := (ht9w8.out).below hb
    clear hSw8 hyw8 huw8 hszw8 how8 hl9w8 hm9w8 ht9w8
    clear hb
    refine sl_run rfl (.bool false) w9 (by kernel_rfl) ?_
    simp only [Act.put, fl1, fl2, fl3]
    refine sl_run rfl (.bool false) w9 (by kernel_rfl) ?_
    simp only [Act.put, fl1, fl2, fl3]
    refine sg_run (by kernel_rfl) (.slice (some ⟨ga, oa, none⟩) n c) w9 (by kernel_rfl) ?_
    simp only [Act.put, fl1, fl2, fl3]
    refine sg_run (by kernel_rfl) (.slice A3 (n - 1) c3) w9 (by kernel_rfl) ?_
    simp only [Act.put, fl1, fl2, fl3]
    refine sg_run (by kernel_rfl) (u) w9 (by kernel_rfl) ?_
    simp only [Act.put, fl1, fl2, fl3]
    refine sg_call (by kernel_rfl) 31 #[.slice (some ⟨ga, oa, none⟩) n c, .slice A3 (n - 1) c3, u] (by kernel_rfl) (R := fun v w' => v = .bool true ∧ Below w9.heap.size w9 w') ((bound_calls l _ hokH.out hokL.out hrlH.out hrL.out hl0.out (some ⟨ga, oa, none⟩) n c hn'.out (by omega) A3 (n - 1) c3 hlnL (by omega) u w9 hyw9.out hl9w9.out (hHEH.out ▸ huw9.out)).mono fun e w' h => ⟨_, h.1, rfl, h.2⟩) ?_
    rintro _ wa ⟨rfl, hb⟩
    simp only [Act.put, fl1, fl2, fl3]
    have hSwa : Hid (BS w B e wa) := (hSw9.out).below hb
    have hywa : Hid (Rw 35 encE wa (.slice (some ⟨ga, oa, none⟩) n c) l) := (hyw9.out).below hb
    have huwa : Hid (Bytes wa u H) := (huw9.out).below hb
    have hszwa : Hid (w3.heap.size ≤ wa.heap.size) := Nat.le_trans hszw9.out (hb).size
    have howa : Hid (Wr wa g9 n c9 (l.set k e)) := (how9.out).below hb
    have hl9wa : Hid (Rw 35 encE wa (.slice A3 (n - 1) c3) (l.take k ++ l.drop (k + 1))) := (hl9w9.out).below hb
    have hm9wa : Hid (Rw 35 encE wa (.slice A4 (n + 1) c4) (l ++ [e])) := (hm9w9.out).below hb
    have ht9wa : Hid (Wr wa g12 n c12 (swapL l k)) := (ht9w9.out).below hb
    clear hSw9 hyw9 huw9 hszw9 how9 hl9w9 hm9w9 ht9w9
    clear hb
    refine sg_run (by kernel_rfl) (.bool false) wa (by kernel_rfl) ?_
    simp only [Act.put, fl1, fl2, fl3]
    refine sl_run rfl (.bool false) wa (by kernel_rfl) ?_
    simp only [Act.put, fl1, fl2, fl3]
    refine sl_run rfl (.bool false) wa (by kernel_rfl) ?_
    simp only [Act.put, fl1, fl2, fl3]
    refine sg_run (by kernel_rfl) (.slice (some ⟨ga, oa, none⟩) n c) wa (by kernel_rfl) ?_
    simp only [Act.put, fl1, fl2, fl3]
    refine sg_run (by kernel_rfl) (.slice A4 (n + 1) c4) wa (by kernel_rfl) ?_
    simp only [Act.put, fl1, fl2, fl3]
    refine sg_run (by kernel_rfl) (u) wa (by kernel_rfl) ?_
    simp only [Act.put, fl1, fl2, fl3]
    refine sg_call (by kernel_rfl) 31 #[.slice (some ⟨ga, oa, none⟩) n c, .slice A4 (n + 1) c4, u] (by kernel_rfl) (R := fun v w' => v = .bool true ∧ Below wa.heap.size wa w') ((bound_calls l _ hokH.out hokM.out hrlH.out hrM.out hl0.out (some ⟨ga, oa, none⟩) n c hn'.out (by omega) A4 (n + 1) c4 hlnM (by omega) u wa hywa.out hm9wa.out (hHEH.out ▸ huwa.out)).mono fun e w' h => ⟨_, h.1, rfl, h.2⟩) ?_
    rintro _ wb ⟨rfl, hb⟩
    simp only [Act.put, fl1, fl2, fl3]
    have hSwb : Hid (BS w B e wb) := (hSwa.out).below hb
    have hywb : Hid (Rw 35 encE wb (.slice (some ⟨ga, oa, none⟩) n c) l) := (hywa.out).below hb
    have huwb : Hid (Bytes wb u H) := (huwa.out).below hb
    have hszwb : Hid (w3.heap.size ≤ wb.heap.size) := Nat.le_trans hszwa.out (hb).size
    have howb : Hid (Wr wb g9 n c9 (l.set k e)) := (howa.out).below hb
    have hl9wb : Hid (Rw 35 encE wb (.slice A3 (n - 1) c3) (l.take k ++ l.drop (k + 1))) := (hl9wa.out).below hb
    have hm9wb : Hid (Rw 35 encE wb (.slice A4 (n + 1) c4) (l ++ [e])) := (hm9wa.out).below hb
    have ht9wb : Hid (Wr wb g12 n c12 (swapL l k)) := (ht9wa.out).below hb
    clear hSwa hywa huwa hszwa howa hl9wa hm9wa ht9wa
    clear hb
    refine sg_run (by kernel_rfl) (.bool false) wb (by kernel_rfl) ?_
    simp only [Act.put, fl1, fl2, fl3]
    refine sl_run rfl (.bool false) wb (by kernel_rfl) ?_
    simp only [Act.put, fl1, fl2, fl3]
    refine sl_run rfl (.bool false) wb (by kernel_rfl) ?_
    simp only [Act.put, fl1, fl2, fl3]
    refine sg_run (by kernel_rfl) (.slice (some ⟨ga, oa, none⟩) n c) wb (by kernel_rfl) ?_
    simp only [Act.put, fl1, fl2, fl3]
    refine sg_run (by kernel_rfl) (.slice (some ⟨g12, 0, none⟩) n c12) wb (by kernel_rfl) ?_
    simp only [Act.put, fl1, fl2, fl3]
    refine sg_run (by kernel_rfl) (u) wb (by kernel_rfl) ?_
    simp only [Act.put, fl1, fl2, fl3]
    refine sg_call (by kernel_rfl) 31 #[.slice (some ⟨ga, oa, none⟩) n c, .slice (some ⟨g12, 0, none⟩) n c12, u] (by kernel_rfl) (R := fun v w' => v = .bool true ∧ Below wb.heap.size wb w') ((bound_calls l _ hokH.out hokT.out hrlH.out hrT.out hl0.out (some ⟨ga, oa, none⟩) n c hn'.out (by omega) (some ⟨g12, 0, none⟩) n c12 hlnT (by omega) u wb hywb.out ht9wb.out.rw (hHEH.out ▸ huwb.out)).mono fun e w' h => ⟨_, h.1, rfl, h.2⟩) ?_
    rintro _ wc ⟨rfl, hb⟩
    simp only [Act.put, fl1, fl2, fl3]
    have hSwc : Hid (BS w B e wc) := (hSwb.out).below hb
    have hywc : Hid (Rw 35 encE wc (.slice (some ⟨ga, oa, none⟩) n c) l) := (hywb.out).below hb
    have huwc : Hid (Bytes wc u H) := (huwb.out).below hb
    have hszwc : Hid (w3.heap.size ≤ wc.heap.size) := Nat.le_trans hszwb.out (hb).size
    have howc : Hid (Wr wc g9 n c9 (l.set k e)) := (howb.out).below hb
    have hl9wc : Hid (Rw 35 encE wc (.slice A3 (n - 1) c3) (l.take k ++ l.drop (k + 1))) := (hl9wb.out).below hb
    have hm9wc : Hid (Rw 35 encE wc (.slice A4 (n + 1) c4) (l ++ [e])) := (hm9wb.out).below hb
    have ht9wc : Hid (Wr wc g12 n c12 (swapL l k)) := (ht9wb.out).below hb
    clear hSwb hywb huwb hszwb howb hl9wb hm9wb ht9wb
    clear hb
    refine sg_run (by kernel_rfl) (.bool false) wc (by kernel_rfl) ?_
    simp only [Act.put, fl1, fl2, fl3]
    refine sl_run rfl (.bool false) wc (by kernel_rfl) ?_
    simp only [Act.put, fl1, fl2, fl3]
    refine wpList_nil ?_
    have hv1 : Hid (verS 32 l H = 0) := by
      have h8 := verS_self 32 l
      rw [hRH2.out] at h8
      exact h8
    have hHl : Hid (∀ x ∈ H, x < 256) := by have h8 := headS_fine 32 l; rw [hRH2.out] at h8; exact h8.1
    have hHn : H.length ≤ 32 := by have h8 := headS_fine 32 l; rw [hRH2.out] at h8; exact h8.2
    by_cases hek : e = l.getD k default
    case neg =>
      go_upto_region 17 with fail
      refine wp_normalG ?_
      refine wp_region_held_drew (S := fun w' => Below wc.heap.size wc w') (by kernel_rfl) (Below.refl _ _).drew (fun hS => ?_)
      change wpAnyH _ _ _ _ _ 19 (Array.replicate 19 false) _ _
      generalize hx : wc.drew = y at hS ⊢
      clear hx
      refine held_take 0 rfl (by kernel_rfl) (by kernel_rfl) (by kernel_rfl) (.slice (some ⟨ga, oa, none⟩) n c) (fun _ _ _ h => nomatch h.1) (by kernel_rfl) (fun w' h => (by kernel_rfl)) hS ?_
      simp only [Act.put, fl1, fl2, fl3, fl4, fl5, fl6]
      refine held_take 1 rfl (by kernel_rfl) (by kernel_rfl) (by kernel_rfl) (u) (fun _ _ _ h => nomatch h.1) (by kernel_rfl) (fun w' h => (by kernel_rfl)) hS ?_
      simp only [Act.put, fl1, fl2, fl3, fl4, fl5, fl6]
      refine held_call 2 rfl (by kernel_rfl) (by kernel_rfl) 18 #[.int .i64 32, .slice (some ⟨ga, oa, none⟩) n c, u] (by kernel_rfl) (R := fun v w' => v = .int .i64 0 ∧ Below y.heap.size y w') ?hc ?_
      case hc =>
        refine (Verify_calls 32 l hokH.out _ n c hn'.out (by omega) H hHl.out (by omega) u y (hywc.out.below hS) (huwc.out.below hS)).mono fun e w' h => ⟨_, h.1, ?_, h.2⟩
        rw [hv1.out]; rfl
      rintro _ y1 ⟨rfl, hb⟩
      have hS9 : Below wc.heap.size wc y1 := hS.trans (hb.mono hS.size)
      clear hS
      have hS := hS9
      clear hS9 hb
      refine ⟨hS, ?_⟩
      simp only [Act.put, fl1, fl2, fl3, fl4, fl5, fl6]
      refine held_take 3 rfl (by kernel_rfl) (by kernel_rfl) (by kernel_rfl) (.bool true) (fun _ _ _ h => nomatch h.1) (by kernel_rfl) (fun w' h => by kernel_rfl) hS ?_
      simp only [Act.put, fl1, fl2, fl3, fl4, fl5, fl6]
      refine held_take 4 rfl (by kernel_rfl) (by kernel_rfl) (by kernel_rfl) (.bool true) (fun _ _ _ h => nomatch h.1) (by kernel_rfl) (fun w' h => (by kernel_rfl)) hS ?_
      simp only [Act.put, fl1, fl2, fl3, fl4, fl5, fl6]
      refine held_take 5 rfl (by kernel_rfl) (by kernel_rfl) (by kernel_rfl) (.agg (encE e)) (fun _ _ _ h => nomatch h.1) (by kernel_rfl) (fun w' h => exec_load_row 24 w' _ rfl B (by kernel_rfl) 24 (encE e) (0, 0) _ (heap_kept hSwc.out.box h) Tryd.underlying24 rfl (by rw [encE_size']; kernel_rfl)) hS ?_
      simp only [Act.put, fl1, fl2, fl3, fl4, fl5, fl6]
      refine held_take 6 rfl (by kernel_rfl) (by kernel_rfl) (by kernel_rfl) (.slice (some ⟨ga, oa, none⟩) n c) (fun _ _ _ h => nomatch h.1) (by kernel_rfl) (fun w' h => (by kernel_rfl)) hS ?_
      simp only [Act.put, fl1, fl2, fl3, fl4, fl5, fl6]
      refine held_take 7 rfl (by kernel_rfl) (by kernel_rfl) (by kernel_rfl) (.int .i64 (k : Int)) (fun _ _ _ h => nomatch h.1) (by kernel_rfl) (fun w' h => (by kernel_rfl)) hS ?_
      simp only [Act.put, fl1, fl2, fl3, fl4, fl5, fl6]
      refine held_take 8 rfl (by kernel_rfl) (by kernel_rfl) (by kernel_rfl) (.pointer (some ⟨ga, oa + k * 35, none⟩)) (fun _ _ _ h => nomatch h.1) (by kernel_rfl) (fun w' h => exec_index un34 sz34 _ _ rfl ga oa n c k (by kernel_rfl) (by kernel_rfl) hkn _) hS ?_
      simp only [Act.put, fl1, fl2, fl3, fl4, fl5, fl6]
      refine held_take 9 rfl (by kernel_rfl) (by kernel_rfl) (by kernel_rfl) (.agg (encE (l.getD k default))) (fun _ _ _ h => nomatch h.1) (by kernel_rfl) (fun w' h => load_en _ _ rfl ga (oa + k * 35) (by kernel_rfl) _ (run_elem (hywc.out.below h) k (by rw [← hn'.out]; exact hkn))) hS ?_
      simp only [Act.put, fl1, fl2, fl3, fl4, fl5, fl6]
      refine held_take 10 rfl (by kernel_rfl) (by kernel_rfl) (by kernel_rfl) (.bool true) (fun _ _ _ h => nomatch h.1) (by kernel_rfl) (fun w' h => (exec_neE _ _ rfl e (l.getD k default) (by kernel_rfl) (by kernel_rfl) w').trans (by rw [decide_eq_false hek]; rfl)) hS ?_
      simp only [Act.put, fl1, fl2, fl3, fl4, fl5, fl6]
      refine held_take 11 rfl (by kernel_rfl) (by kernel_rfl) (by kernel_rfl) (.bool true) (fun _ _ _ h => nomatch h.1) (by kernel_rfl) (fun w' h => (by kernel_rfl)) hS ?_
      simp only [Act.put, fl1, fl2, fl3, fl4, fl5, fl6]
      refine held_skip 12 rfl (by kernel_rfl) (by kernel_rfl) (by kernel_rfl) (fun _ _ _ h => nomatch h.1) (by kernel_rfl) hS ?_
      simp only [Act.put, fl1, fl2, fl3, fl4, fl5, fl6]
      refine held_skip 13 rfl (by kernel_rfl) (by kernel_rfl) (by kernel_rfl) (fun _ _ _ h => nomatch h.1) (by kernel_rfl) hS ?_
      simp only [Act.put, fl1, fl2, fl3, fl4, fl5, fl6]
      refine held_skip 14 rfl (by kernel_rfl) (by kernel_rfl) (by kernel_rfl) (fun _ _ _ h => nomatch h.1) (by kernel_rfl) hS ?_
      simp only [Act.put, fl1, fl2, fl3, fl4, fl5, fl6]
      refine held_skip 15 rfl (by kernel_rfl) (by kernel_rfl) (by kernel_rfl) (fun _ _ _ h => nomatch h.1) (by kernel_rfl) hS ?_
      simp only [Act.put, fl1, fl2, fl3, fl4, fl5, fl6]
      refine held_take 16 rfl (by kernel_rfl) (by kernel_rfl) (by kernel_rfl) (.bool true) (fun _ _ _ h => nomatch h.1) (by kernel_rfl) (fun w' h => (by kernel_rfl)) hS ?_
      simp only [Act.put, fl1, fl2, fl3, fl4, fl5, fl6]
      refine held_take 17 rfl (by kernel_rfl) (by kernel_rfl) (by kernel_rfl) (.bool true) (fun _ _ _ h => nomatch h.1) (by kernel_rfl) (fun w' h => (by kernel_rfl)) hS ?_
      simp only [Act.put, fl1, fl2, fl3, fl4, fl5, fl6]
      refine held_take 18 rfl (by kernel_rfl) (by kernel_rfl) (by kernel_rfl) (.bool true) (fun _ _ _ h => nomatch h.1) (by kernel_rfl) (fun w' h => (by kernel_rfl)) hS ?_
      simp only [Act.put, fl1, fl2, fl3, fl4, fl5, fl6]
      have hF : Hid (Below w.heap.size w y1) := hSwc.out.bel.trans (hS.mono hSwc.out.bel.size)
      clear hS hSwc hywc huwc hszwc howc hl9wc hm9wc ht9wc
      refine wpAnyH_done (by kernel_rfl) ?_ _
      refine ⟨rfl, ?_⟩
      rename_i hK
      refine hK _ _ ?_
      clear hK
      go_wp2_with fail
      all_goals
        go_ret
        exact ⟨rfl, hF.out⟩
    case pos =>
      go_upto_region 17 with fail
      refine wp_normalG ?_
      refine wp_region_held_drew (S := fun w' => Below wc.heap.size wc w') (by kernel_rfl) (Below.refl _ _).drew (fun hS => ?_)
      change wpAnyH _ _ _ _ _ 19 (Array.replicate 19 false) _ _
      generalize hx : wc.drew = y at hS ⊢
      clear hx
      refine held_take 0 rfl (by kernel_rfl) (by kernel_rfl) (by kernel_rfl) (.slice (some ⟨ga, oa, none⟩) n c) (fun _ _ _ h => nomatch h.1) (by kernel_rfl) (fun w' h => (by kernel_rfl)) hS ?_
      simp only [Act.put, fl1, fl2, fl3, fl4, fl5, fl6]
      refine held_take 1 rfl (by kernel_rfl) (by kernel_rfl) (by kernel_rfl) (u) (fun _ _ _ h => nomatch h.1) (by kernel_rfl) (fun w' h => (by kernel_rfl)) hS ?_
      simp only [Act.put, fl1, fl2, fl3, fl4, fl5, fl6]
      refine held_call 2 rfl (by kernel_rfl) (by kernel_rfl) 18 #[.int .i64 32, .slice (some ⟨ga, oa, none⟩) n c, u] (by kernel_rfl) (R := fun v w' => v = .int .i64 0 ∧ Below y.heap.size y w') ?hc ?_
      case hc =>
        refine (Verify_calls 32 l hokH.out _ n c hn'.out (by omega) H hHl.out (by omega) u y (hywc.out.below hS) (huwc.out.below hS)).mono fun e w' h => ⟨_, h.1, ?_, h.2⟩
        rw [hv1.out]; rfl
      rintro _ y1 ⟨rfl, hb⟩
      have hS9 : Below wc.heap.size wc y1 := hS.trans (hb.mono hS.size)
      clear hS
      have hS := hS9
      clear hS9 hb
      refine ⟨hS, ?_⟩
      simp only [Act.put, fl1, fl2, fl3, fl4, fl5, fl6]
      refine held_take 3 rfl (by kernel_rfl) (by kernel_rfl) (by kernel_rfl) (.bool true) (fun _ _ _ h => nomatch h.1) (by kernel_rfl) (fun w' h => by kernel_rfl) hS ?_
      simp only [Act.put, fl1, fl2, fl3, fl4, fl5, fl6]
      refine held_take 4 rfl (by kernel_rfl) (by kernel_rfl) (by kernel_rfl) (.bool true) (fun _ _ _ h => nomatch h.1) (by kernel_rfl) (fun w' h => (by kernel_rfl)) hS ?_
      simp only [Act.put, fl1, fl2, fl3, fl4, fl5, fl6]
      refine held_take 5 rfl (by kernel_rfl) (by kernel_rfl) (by kernel_rfl) (.agg (encE e)) (fun _ _ _ h => nomatch h.1) (by kernel_rfl) (fun w' h => exec_load_row 24 w' _ rfl B (by kernel_rfl) 24 (encE e) (0, 0) _ (heap_kept hSwc.out.box h) Tryd.underlying24 rfl (by rw [encE_size']; kernel_rfl)) hS ?_
      simp only [Act.put, fl1, fl2, fl3, fl4, fl5, fl6]
      refine held_take 6 rfl (by kernel_rfl) (by kernel_rfl) (by kernel_rfl) (.slice (some ⟨ga, oa, none⟩) n c) (fun _ _ _ h => nomatch h.1) (by kernel_rfl) (fun w' h => (by kernel_rfl)) hS ?_
      simp only [Act.put, fl1, fl2, fl3, fl4, fl5, fl6]
      refine held_take 7 rfl (by kernel_rfl) (by kernel_rfl) (by kernel_rfl) (.int .i64 (k : Int)) (fun _ _ _ h => nomatch h.1) (by kernel_rfl) (fun w' h => (by kernel_rfl)) hS ?_
      simp only [Act.put, fl1, fl2, fl3, fl4, fl5, fl6]
      refine held_take 8 rfl (by kernel_rfl) (by kernel_rfl) (by kernel_rfl) (.pointer (some ⟨ga, oa + k * 35, none⟩)) (fun _ _ _ h => nomatch h.1) (by kernel_rfl) (fun w' h => exec_index un34 sz34 _ _ rfl ga oa n c k (by kernel_rfl) (by kernel_rfl) hkn _) hS ?_
      simp only [Act.put, fl1, fl2, fl3, fl4, fl5, fl6]
      refine held_take 9 rfl (by kernel_rfl) (by kernel_rfl) (by kernel_rfl) (.agg (encE (l.getD k default))) (fun _ _ _ h => nomatch h.1) (by kernel_rfl) (fun w' h => load_en _ _ rfl ga (oa + k * 35) (by kernel_rfl) _ (run_elem (hywc.out.below h) k (by rw [← hn'.out]; exact hkn))) hS ?_
      simp only [Act.put, fl1, fl2, fl3, fl4, fl5, fl6]
      refine held_take 10 rfl (by kernel_rfl) (by kernel_rfl) (by kernel_rfl) (.bool false) (fun _ _ _ h => nomatch h.1) (by kernel_rfl) (fun w' h => (exec_neE _ _ rfl e (l.getD k default) (by kernel_rfl) (by kernel_rfl) w').trans (by rw [decide_eq_true hek]; rfl)) hS ?_
      simp only [Act.put, fl1, fl2, fl3, fl4, fl5, fl6]
      refine held_take 11 rfl (by kernel_rfl) (by kernel_rfl) (by kernel_rfl) (.bool false) (fun _ _ _ h => nomatch h.1) (by kernel_rfl) (fun w' h => (by kernel_rfl)) hS ?_
      simp only [Act.put, fl1, fl2, fl3, fl4, fl5, fl6]
      refine held_take 12 rfl (by kernel_rfl) (by kernel_rfl) (by kernel_rfl) (.slice (some ⟨g9, 0, none⟩) n c9) (fun _ _ _ h => nomatch h.1) (by kernel_rfl) (fun w' h => (by kernel_rfl)) hS ?_
      simp only [Act.put, fl1, fl2, fl3, fl4, fl5, fl6]
      refine held_take 13 rfl (by kernel_rfl) (by kernel_rfl) (by kernel_rfl) (u) (fun _ _ _ h => nomatch h.1) (by kernel_rfl) (fun w' h => (by kernel_rfl)) hS ?_
      simp only [Act.put, fl1, fl2, fl3, fl4, fl5, fl6]
      refine held_call 14 rfl (by kernel_rfl) (by kernel_rfl) 18 #[.int .i64 32, .slice (some ⟨g9, 0, none⟩) n c9, u] (by kernel_rfl) (R := fun v w' => v = .int .i64 0 ∧ Below y1.heap.size y1 w') ?hc ?_
      case hc =>
        have hls : l.set k e = l := by rw [hek]; exact set_getD_self (by rw [← hn'.out]; exact hkn)
        refine (Verify_calls 32 (l.set k e) hokS.out _ n c9 hlnS (by omega) H hHl.out (by omega) u y1 (howc.out.rw.below hS) (huwc.out.below hS)).mono fun e w' h => ⟨_, h.1, ?_, h.2⟩
        rw [hls, hv1.out]; rfl
      rintro _ y2 ⟨rfl, hb⟩
      have hS9 : Below wc.heap.size wc y2 := hS.trans (hb.mono hS.size)
      clear hS
      have hS := hS9
      clear hS9 hb
      refine ⟨hS, ?_⟩
      simp only [Act.put, fl1, fl2, fl3, fl4, fl5, fl6]
      refine held_take 15 rfl (by kernel_rfl) (by kernel_rfl) (by kernel_rfl) (.bool true) (fun _ _ _ h => nomatch h.1) (by kernel_rfl) (fun w' h => by kernel_rfl) hS ?_
      simp only [Act.put, fl1, fl2, fl3, fl4, fl5, fl6]
      refine held_take 16 rfl (by kernel_rfl) (by kernel_rfl) (by kernel_rfl) (.bool true) (fun _ _ _ h => nomatch h.1) (by kernel_rfl) (fun w' h => (by kernel_rfl)) hS ?_
      simp only [Act.put, fl1, fl2, fl3, fl4, fl5, fl6]
      refine held_take 17 rfl (by kernel_rfl) (by kernel_rfl) (by kernel_rfl) (.bool true) (fun _ _ _ h => nomatch h.1) (by kernel_rfl) (fun w' h => (by kernel_rfl)) hS ?_
      simp only [Act.put, fl1, fl2, fl3, fl4, fl5, fl6]
      refine held_take 18 rfl (by kernel_rfl) (by kernel_rfl) (by kernel_rfl) (.bool true) (fun _ _ _ h => nomatch h.1) (by kernel_rfl) (fun w' h => (by kernel_rfl)) hS ?_
      simp only [Act.put, fl1, fl2, fl3, fl4, fl5, fl6]
      have hF : Hid (Below w.heap.size w y2) := hSwc.out.bel.trans (hS.mono hSwc.out.bel.size)
      clear hS hSwc hywc huwc hszwc howc hl9wc hm9wc ht9wc
      refine wpAnyH_done (by kernel_rfl) ?_ _
      refine ⟨rfl, ?_⟩
      rename_i hK
      refine hK _ _ ?_
      clear hK
      go_wp2_with fail
      all_goals
        go_ret
        exact ⟨rfl, hF.out⟩
end Go.Proofs.YtadopkifpfmhcaaDoor
namespace Go.Proofs.YtadopkifpfmhcaaDoor.chainTurned
open Go.ChangeShapes Go.WideShapes Go.ChangeAt Go.RowKit

theorem own : ownKnob Tryd.prog.godebug = none := by kernel_rfl
theorem laidOut : laidOutB Tryd.prog = true := by kernel_rfl
set_option maxRecDepth 100000 in
theorem lifted (os : Os) (started : os.Started) (H : Type) (enc : TypeId × Value → H) :
    ReturnsInHanded {} Tryd.checked os 10 .any (fun w args => (Rows.chainTurnedSpec.pre enc Tryd.prog Tryd.f10 Rows.chainTurnedRow.domain false w args ∧ laidMet Tryd.prog [("math/bits.deBruijn64tab", Rows.laid_math_bits_deBruijn64tab)] w) ∧ sizedMet enc Tryd.prog Tryd.f10 (OpenSpec.ofChange Rows.chainTurnedSpec) false w args)
      (Rows.chainTurnedSpec.post enc Tryd.prog Tryd.f10 false true false false) := by
  refine returnsInHanded_of_change_and (C := Tryd.checked) (X := fun w _ => laidMet Tryd.prog [("math/bits.deBruijn64tab", Rows.laid_math_bits_deBruijn64tab)] w) (fun _ _ _ hh h => h.of_heap hh) own started (by kernel_rfl) Tryd.func10
    (ChangeSpec.witness_at (enc := enc) (C := Tryd.checked) (os := os) (X := fun w _ => laidMet Tryd.prog [("math/bits.deBruijn64tab", Rows.laid_math_bits_deBruijn64tab)] w) false (laidWorld os) #[.slice none 0 0, .int .i64 0, .agg #[.string ByteArray.empty, .int .i64 0, .string ByteArray.empty, .int .u8 0, .int .u8 0, .int .u8 0, .int .u8 0, .int .u8 0, .int .u8 0, .int .u8 0, .int .u8 0, .int .u8 0, .int .u8 0, .int .u8 0, .int .u8 0, .int .u8 0, .int .u8 0, .int .u8 0, .int .u8 0, .int .u8 0, .int .u8 0, .int .u8 0, .int .u8 0, .int .u8 0, .int .u8 0, .int .u8 0, .int .u8 0, .int .u8 0, .int .u8 0, .int .u8 0, .int .u8 0, .int .u8 0, .int .u8 0, .int .u8 0, .int .u8 0]] 8 rfl (by kernel_rfl) (by kernel_rfl) (by kernel_rfl) (by kernel_rfl) (by kernel_rfl) (laidWorld_met os _)) ?_
  intro W base args ds gs before hval0 hW hcnd hsz hL _
  have hval : ∀ (j : Nat) t v, Tryd.f10.params[j]? = some t → args[j]? = some v → Value.okWide Tryd.prog W .any base t v := hval0
  have htab := tab_of_laid hL
  have hW' := hW
  obtain ⟨p, q, hA0, hV, rfl, hfz, hnd⟩ := hW
  have hA : DataW.TrodAll enc Tryd.prog W 0 (fun _ => true) true Tryd.f10.params.toList args.toList ds p := hA0
  have hsz2 : (DataW.weightsEach Tryd.prog ([34, 3, 24] ++ Rows.chainTurnedSpec.plain.varTypes Tryd.prog) (ds ++ gs)).all (· ≤ reachBytes) = true := by
    have := hsz; rw [Tryd.params10] at this; exact this
  rw [Tryd.params10] at hA hval
  obtain ⟨v0, vs0, d0, ds0, p0, q0, hargs, rfl, rfl, h0, r0⟩ := trodAll_cons hA
  obtain ⟨v1, vs1, d1, ds1, p1, q1, rfl, rfl, rfl, h1, r1⟩ := trodAll_cons r0
  obtain ⟨v2, vs2, d2, ds2, p2, q2, rfl, rfl, rfl, h2, r2⟩ := trodAll_cons r1
  obtain ⟨rfl, rfl, rfl⟩ := trodAll_nil r2
  obtain rfl : args = #[v0, v1, v2] := by cases args; simp_all
  obtain ⟨rfl, rfl⟩ := trodVars_none hV
  have k0 := h0
  have lt0 : ∀ x ∈ p0, x.block < W.heap.size := by obtain ⟨m, hm⟩ := k0; exact DataW.trod_lt m _ _ _ hm
  obtain ⟨a0, n0, c0, l0, rfl, e0, y0, g0, z0⟩ := arg_ens (hval 0 34 v0 rfl rfl) h0
  have m0 : n0 * 72 ≤ 140737488351232 := arg_room hsz2 (j := 0) (t := 34) (e := 24) rfl rfl Tryd.underlying34 (by kernel_rfl) (by decide) z0
  have k1 := h1
  have lt1 : ∀ x ∈ p1, x.block < W.heap.size := by obtain ⟨m, hm⟩ := k1; exact DataW.trod_lt m _ _ _ hm
  obtain ⟨n1, rfl, rfl, rfl, wf1⟩ := open_int Tryd.underlying3 (hval 1 3 v1 rfl rfl) h1
  have b1 := int_wf wf1
  have k2 := h2
  have lt2 : ∀ x ∈ p2, x.block < W.heap.size := by obtain ⟨m, hm⟩ := k2; exact DataW.trod_lt m _ _ _ hm
  obtain ⟨x2, rfl, g2⟩ := arg_en (hval 2 24 v2 rfl rfl) h2
  clear hA0 hval0
  refine (lturned_calls l0 g0 a0 n0 c0 e0 n1 x2 g2 W htab y0).mono fun e W' ⟨he, bel⟩ => ?_
  subst he
  exact ⟨_, rfl, _, _, _, [], _, [], hW', trodAll_mk1 (shut_bool Tryd.underlying4 _), (trodAll_cons_mk (Below.trod laidOut (by kernel_rfl) (of_decide_eq_true (by kernel_rfl)) k0 bel lt0) (trodAll_cons_mk (Below.trod laidOut (by kernel_rfl) (of_decide_eq_true (by kernel_rfl)) k1 bel lt1) (trodAll_cons_mk (Below.trod laidOut (by kernel_rfl) (of_decide_eq_true (by kernel_rfl)) k2 bel lt2) trodAll_mk0))), rfl, bel.frame _, fun h => by cases h⟩
theorem over : Rows.ChainTurnedSaid :=
  OpenClaim.holds_of_wide 10 Tryd.f10 rfl rfl rfl rfl rfl rfl rfl ⟨rfl, rfl, rfl, rfl, rfl⟩ rfl rfl rfl rfl rfl (by kernel_rfl) Tryd.func10 (by kernel_rfl)
    (of_decide_eq_true (by kernel_rfl)) (by unfold Func.isWrapper; first | (rw [if_pos (by decide +kernel)]; kernel_rfl) | (rw [if_neg (by decide +kernel)]; exact ⟨rfl, rfl⟩))
    (fun os started H enc _ => lifted os started H enc)
theorem card : Rows.ChainTurnedCardSaid :=
  Claim7.holds_tied_plain_at .later [] [.data] true (true, "eaf48906fbdc0550d943cf212d39e566490c253f0718d60b671d22ae1cd4fb08") false
    over (fun _ h => by cases h) (by kernel_rfl) (fun _ h => by cases h) chainTurned_row_tie rfl ⟨rfl, rfl⟩ (by kernel_rfl) rfl
    (fun f fn hf hfn => by
      obtain rfl : f = 10 := Option.some.inj ((show Tryd.prog.funcNamed "mandate/mandatelaw18.ChainTurned" = some 10 by kernel_rfl).symm.trans hf) |>.symm
      obtain rfl : fn = Tryd.f10 := (Option.some.inj (Tryd.func10.symm.trans hfn)).symm
      exact ⟨by kernel_rfl, fun j t ht => by
        rw [Tryd.params10] at ht
        have h3 : t = 3 ∨ t = 24 ∨ t = 34 := by
          rcases j with _ | j
          · simp at ht; subst ht; simp
          rcases j with _ | j
          · simp at ht; subst ht; simp
          rcases j with _ | j
          · simp at ht; subst ht; simp
          · simp at ht
        rcases h3 with rfl | rfl | rfl
        all_goals exact (show Tryd.prog.wantsStandIn _ = false by kernel_rfl)⟩)
    (by kernel_rfl)
end Go.Proofs.YtadopkifpfmhcaaDoor.chainTurned
namespace Go.Proofs.YtadopkifpfmhcaaDoor
/-- The statement. -/
theorem chainTurned_holds : Rows.ChainTurnedCardSaid := chainTurned.card
#print axioms chainTurned_holds
end Go.Proofs.YtadopkifpfmhcaaDoor
