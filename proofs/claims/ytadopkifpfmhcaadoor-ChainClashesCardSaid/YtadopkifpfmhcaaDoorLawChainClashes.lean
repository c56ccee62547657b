/-
  The law ChainClashes holds: for every input it answers true, and what came in reads as it did; its card.
-/
import Derived.Test.YtadopkifpfmhcaaDoorMgC
import Derived.Test.YtadopkifpfmhcaaDoorMgB
import Derived.Test.YtadopkifpfmhcaaDoorRows
import Derived.Test.YtadopkifpfmhcaaDoorCards
import Derived.Test.YtadopkifpfmhcaaDoorTie
import Derived.WalkKit
import Derived.ProofKit
import Derived.OpenShut
import Derived.ShutString
import Derived.ChangeOld
import Derived.Below
import Derived.SevenTiedAt
import Derived.LaidHandle
set_option linter.unusedVariables false
set_option linter.unusedSimpArgs false
namespace Go.Proofs.YtadopkifpfmhcaaDoor
open Go.RowKit
open Sha (vals Bytes Lies bytesC sumB)
section
variable {ty : TypeId} {k : Nat} {o : Oper} {a : Act}
theorem exec_takeS (hu : Tryd.prog.underlying ty = some (.slice (Tryd.prog.elem ty))) (hsz : ∀ w, (sizeOf (Tryd.prog.elem ty)).run Tryd.prog w = .ok k w) (x hi : Operand) (ho : o.op = .slice ty x none (some hi) none) (A : Option Addr) (n c q : Nat) (hx : a.eval x = .slice A n c)
    (hh : a.eval hi = .int .i64 (q : Int)) (hc : q ≤ c) (w : World) : (execOp a.eval o).run Tryd.prog w = .ok (.value (.slice (if c = 0 then A else A.map (·.add 0)) q c)) w := by
  unfold execOp
  simp only [ho, Option.map_some, Option.map_none, hx, hh, Sem.run_bind, run_sliceAt_slice w ty _ _ _ _ hu, run_slice_h w ty _ n c hu .i64 (q : Int) (by omega) (by omega), hsz, Result.andThen_ok, Sem.run_pure, sliced, Int.toNat_natCast, Nat.zero_mul, Nat.sub_zero]
theorem exec_fromS (hu : Tryd.prog.underlying ty = some (.slice (Tryd.prog.elem ty))) (hsz : ∀ w, (sizeOf (Tryd.prog.elem ty)).run Tryd.prog w = .ok k w) (x lo : Operand) (ho : o.op = .slice ty x (some lo) none none) (A : Option Addr) (n c q : Nat) (hx : a.eval x = .slice A n c)
    (hh : a.eval lo = .int .i64 (q : Int)) (hc : q ≤ n) (w : World) : (execOp a.eval o).run Tryd.prog w = .ok (.value (.slice (if c = q then A else A.map (·.add (q * k))) (n - q) (c - q))) w := by
  unfold execOp
  simp only [ho, Option.map_some, Option.map_none, hx, hh, Sem.run_bind, run_sliceAt_slice w ty _ _ _ _ hu, run_slice_l w ty _ n c hu .i64 (q : Int) (by omega) (by omega), hsz, Result.andThen_ok, Sem.run_pure, sliced, Int.toNat_natCast]
end
theorem rw_drop {α : Type} [Inhabited α] {k : Nat} {enc : α → Array Value} {w : World} {l : List α} {A : Option Addr} {n c : Nat} (hn : n = l.length) (hy : Rw k enc w (.slice A n c) l) (q : Nat) (hq : q ≤ n) :
    Rw k enc w (.slice (if c = q then A else A.map (·.add (q * k))) (n - q) (c - q)) (l.drop q) := by
  rcases hy with ⟨A', c', h, rfl, h2⟩ | ⟨g, o, c', h, h2, h3, h4⟩
  · injection h with h5 h6 h7
    subst h5 h6
    have hq0 : q = 0 := by omega
    subst hq0
    subst h7
    refine .inl ⟨if c = 0 then A else A.map (·.add (0 * k)), c - 0, rfl, by simp, fun h => ?_⟩
    rw [Nat.sub_zero]
    by_cases hc : c = 0
    · rw [if_pos hc] at h; exact h2 h
    · rw [if_neg hc] at h
      cases A with
      | none => exact h2 rfl
      | some ad => simp at h
  · injection h with h5 h6 h7
    subst h5 h7
    by_cases hql : q = l.length
    · have : l.drop q = [] := by rw [hql]; simp
      rw [this]
      refine .inl ⟨_, c - q, by congr 1; omega, rfl, fun h => ?_⟩
      split at h
      · cases h
      · simp at h
    · refine .inr ⟨g, o + q * k, c - q, ?_, by rw [List.length_drop]; omega, h3, fun i hi => ?_⟩
      · rw [if_neg (by omega), Option.map_some, Addr.add_mid, List.length_drop, hn]
      · rw [List.length_drop] at hi
        have h5 := h4 (q + i) (by omega)
        have e1 : (l.drop q).getD i default = l.getD (q + i) default := by simp [List.getD_eq_getElem?_getD]
        have e2 : o + q * k + i * k = o + (q + i) * k := by rw [Nat.add_mul]; omega
        rw [e1, e2]; exact h5
theorem subI {o : Oper} {a : Act} (x : Operand) (ho : o.op = .binOp .sub 3 x (.const (.int .i64 1)) 3) (n : Nat) (hx : a.eval x = .int .i64 (n : Int)) (h1 : 1 ≤ n) (h2 : n ≤ 9223372036854775807) (w : World) : (execOp a.eval o).run Tryd.prog w = .ok (.value (.int .i64 ((n - 1 : Nat) : Int))) w := by
  unfold execOp
  have hw : IntKind.i64.wrap ((n : Int) - 1) = ((n - 1 : Nat) : Int) := by rw [IntKind.wrap_i64]; omega
  have hc : a.eval (.const (.int .i64 1)) = .int .i64 1 := rfl
  simp [ho, hx, hc, eqGuard, binOp_sub, Op.intArith, hw]
end Go.Proofs.YtadopkifpfmhcaaDoor
namespace Go.Proofs.YtadopkifpfmhcaaDoor
open Go.RowKit
open Sha (vals Bytes Lies bytesC sumB)
open Go.Proofs.YtadopkifpfmhcaaDoorW.PrintWords Go.Proofs.YtadopkifpfmhcaaDoorW.PrintLast Go.Proofs.YtadopkifpfmhcaaDoorW.PrintMore
/-- What is summed for the k-th entry. -/
def textS (m : Nat) (l : List En) (k : Nat) : List Nat := headP m l k ++ (bytesS (k : Int) (l.getD k default)).1
theorem inf25 : (Tryd.prog.info? 25).map (fun i => (i.zero, i.size, i.bytes)) = some (some (.slice none 0 0), 1, 24) := by kernel_rfl
theorem un92 : Tryd.prog.underlying 92 = some (.slice (Tryd.prog.elem 92)) := by kernel_rfl
theorem sz92 : ∀ w, (sizeOf (Tryd.prog.elem 92)).run Tryd.prog w = .ok 1 w := fun w => by kernel_rfl
instance : Inhabited Value := ⟨undef⟩
def encV (v : Value) : Array Value := #[v]
theorem encV_size (v : Value) : (encV v).size = 1 := rfl
theorem flat_V (l : List Value) : flat encV l = l := by
  induction l with
  | nil => rfl
  | cons x l ih =>
    have : flat encV (x :: l) = x :: flat encV l := by simp [flat, encV]
    rw [this, ih]
/-- A chain that is summed, and the row of its texts. -/
structure TI (w0 : World) (D m : Nat) (l : List En) (i : Nat) (ov : Value) (vs : List Value) (w : World) : Prop where
  row : ∃ hv : Value, w.heap[D]? = some (.cells #[.int .i64 (m : Int), hv, .int .i64 (i : Int)] 72 (0, 0)) ∧ w.ownsRow w0.heap.size 5 1 hv (headP m l i).length (vals (headP m l i))
  out : w.ownsRow w0.heap.size 25 1 ov i vs
  el : ∀ j, j < i → w.ownsRow w0.heap.size 5 1 (vs.getD j undef) (textS m l j).length (vals (textS m l j))
  bel : Below w0.heap.size w0 w
theorem TI.below {w0 w w' : World} {D m i : Nat} {l : List En} {ov : Value} {vs : List Value} (h : TI w0 D m l i ov vs w) (hb : Below w.heap.size w w') : TI w0 D m l i ov vs w' := by
  obtain ⟨⟨hv, h1, h2⟩, h3, h4, h5⟩ := h
  have k : ∀ {b n k e v xs}, w.ownsRow b e k v n xs → w'.ownsRow b e k v n xs := fun h => own_keep h (fun q hq => hb.block q (h.lt q hq).2)
  exact ⟨⟨hv, heap_kept h1 hb, k h2⟩, k h3, fun j hj => k (h4 j hj), h5.trans (hb.mono h5.size)⟩
def TIx (w0 : World) (D m : Nat) (l : List En) (i : Nat) (ov : Value) (w : World) : Prop := ∃ vs, TI w0 D m l i ov vs w
theorem TIx.below {w0 w w' : World} {D m i : Nat} {l : List En} {ov : Value} (h : TIx w0 D m l i ov w) (hb : Below w.heap.size w w') : TIx w0 D m l i ov w' := by
  obtain ⟨vs, h⟩ := h; exact ⟨vs, h.below hb⟩
/-- Between the append and the link. -/
structure TI4 (w0 : World) (D m : Nat) (l : List En) (i : Nat) (ov : Value) (vs : List Value) (w : World) : Prop where
  row : ∃ hv : Value, w.heap[D]? = some (.cells #[.int .i64 (m : Int), hv, .int .i64 (i : Int)] 72 (0, 0)) ∧ w.ownsRow w0.heap.size 5 1 hv (headP m l i).length (vals (headP m l i))
  out : w.ownsRow w0.heap.size 25 1 ov (i + 1) vs
  el : ∀ j, j < i + 1 → w.ownsRow w0.heap.size 5 1 (vs.getD j undef) (textS m l j).length (vals (textS m l j))
  bel : Below w0.heap.size w0 w
/-- One value of one cell behind a list of such. -/
theorem appendRw1 {w : World} {ops : Array Oper} {rest : List Oper} {o : Oper} {a : Act} {Q : Exit → Act → World → Prop} {V : Value} (ty e : TypeId) (bytes : Nat) (i : TypeInfo) (z : Value) (ht : Tryd.prog.underlying ty = some (.slice e)) (hi : Tryd.prog.info? e = some i) (hz : i.zero = some z) (hsize : i.size = 1) (hby : i.bytes = bytes) (hzs : z.cells.size = 1) (hV : V.oneCell' = true)
    (hgd : o.guard = none) (s x : Operand) (ho : o.op = .call { callee := .builtin .append, args := #[s, x], argTypes := #[ty, ty] })
    (base : Nat) (v : Value) (l0 : List Value) (hs : a.eval s = v) (hown : w.ownsRow base e 1 v l0.length l0)
    (y : Value) (hx : a.eval x = y) (hy : Rw 1 encV w y [V]) (hlen : l0.length + 1 ≤ 140737488355327) (hlen2 : (l0.length + 1) * bytes ≤ 140737488355328) (hbase : base ≤ w.heap.size)
    (h : ∀ v' w', w'.ownsRow base e 1 v' (l0 ++ [V]).length (l0 ++ [V]) → w.grownBy w' v.ownBlock → wpList Tryd.prog ops Q rest (a.put o.dst v') w') : wpList Tryd.prog ops Q (o :: rest) a w := by
  rcases hy with ⟨A, c, rfl, h0, _⟩ | ⟨g, off, c, rfl, hc, hg, hl⟩
  · cases h0
  · refine wpList_append_own w hgd s x ty ho base e i z 1 bytes ht hi hz hsize hby hzs (by decide) v l0.length l0 hs hown ⟨g, off, none⟩ 1 c [V] hx rfl ?_ (by simpa using hV) (by unfold maxLen; omega) hlen2 hbase ?_
    · intro j u hu
      have hj : j = 0 := by
        have : j < 1 := (List.getElem?_eq_some_iff.1 hu).1
        omega
      subst hj
      have := hl 0 (by simp) 0 V rfl
      rw [Addr.add_mid]
      simp at hu
      subst hu
      simpa using this
    · intro v' w' h1 h2 h3
      exact h v' w' (by rw [List.length_append]; exact h1) h2
/-- What is handed back. -/
structure TxO (w0 : World) (m : Nat) (l : List En) (ov hv : Value) (w : World) : Prop where
  out : ∃ vs, w.ownsRow w0.heap.size 25 1 ov l.length vs ∧ ∀ j, j < l.length → Bytes w (vs.getD j undef) (textS m l j)
  head : Bytes w hv (headP m l l.length)
  bel : Below w0.heap.size w0 w
set_option maxRecDepth 100000 in
set_option maxHeartbeats 16000000 in
theorem texts_calls (m : Nat) (hm1 : 1 ≤ m) (hm32 : m ≤ 32) (l : List En) (hok : ∀ x ∈ l, x.ok) (A : Option Addr) (n c : Nat) (hn : n = l.length) (hn9 : n ≤ 1000000) (w : World) (hy : Rw 35 encE w (.slice A n c) l) :
    Calls Tryd.prog 51 #[.int .i64 (m : Int), .slice A n c] w fun e w' => ∃ ov hv, e = .returned (.tuple #[ov, hv]) ∧ TxO w m l ov hv w' := by
  have hn' : Hid (n = l.length) := hn
  have hyw : Hid (Rw 35 encE w (.slice A n c) l) := hy
  have hBw : Hid (Below w.heap.size w w) := Below.refl _ _
  have hokH : Hid (∀ x ∈ l, x.ok) := hok
  clear hn hy hok
  go_enter Tryd.func51, Tryd.ntmps51
  go_upto_region 1 with fail
  refine wp_region_lit ?_
  refine sl_run rfl (.int .i64 (m : Int)) w (by kernel_rfl) ?_
  simp only [Act.put, fl1, fl2, fl3]
  refine sg_call (by kernel_rfl) 38 #[.int .i64 (m : Int)] (by kernel_rfl) (R := fun v w' => ∃ hv, v = .agg #[.int .i64 (m : Int), hv, .int .i64 0] ∧ w'.ownsRow w.heap.size 5 1 hv (List.replicate m 0).length (vals (List.replicate m 0)) ∧ Below w.heap.size w w') ((begun_own m hm32 w).mono fun e w' h => by
    obtain ⟨v, h1, h2, h3⟩ := h
    exact ⟨_, h1, v, rfl, h2, h3⟩) ?_
  rintro _ w2 ⟨hv, rfl, hby, hb⟩
  simp only [Act.put, fl1, fl2, fl3]
  have hBw2 : Hid (Below w.heap.size w w2) := hBw.out.trans ((hb).mono (hBw.out).size)
  clear hBw
  clear hb
  obtain ⟨A0, c0, rfl⟩ := own_form hby
  refine sg_run (by kernel_rfl) (.pointer (some ⟨w2.heap.size, 0, none⟩)) (w2.alloc (.cells #[.int .i64 0, .slice none 0 0, .int .i64 0] 72)) (by kernel_rfl) ?_
  simp only [Act.put, fl1, fl2, fl3]
  refine wpList_store_row rfl 72 _ _ rfl w2.heap.size #[.int .i64 (m : Int), .slice A0 (List.replicate m 0).length c0, .int .i64 0] (by kernel_rfl) (by kernel_rfl) 72 _ (heap_alloc_new _ _) (by kernel_rfl) (by kernel_rfl) (by simp [Value.oneCell']) ?_
  simp only [Act.put, fl1, fl2, fl3]
  refine wpList_nil ?_
  have hD0 : ((w2.alloc (.cells #[.int .i64 0, .slice none 0 0, .int .i64 0] 72)).setRow w2.heap.size #[.int .i64 (m : Int), .slice A0 (List.replicate m 0).length c0, .int .i64 0]).heap[w2.heap.size]? = some (.cells #[.int .i64 (m : Int), .slice A0 (List.replicate m 0).length c0, .int .i64 0] 72 (0, 0)) := setRow_heap _ _ _ _ _ _ (heap_alloc_new _ _)
  have hDB : Below w2.heap.size w2 ((w2.alloc (.cells #[.int .i64 0, .slice none 0 0, .int .i64 0] 72)).setRow w2.heap.size #[.int .i64 (m : Int), .slice A0 (List.replicate m 0).length c0, .int .i64 0]) := below_setRow ((Below.refl _ _).alloc (Nat.le_refl _) _) (Nat.le_refl _) _
  obtain ⟨D, hDd⟩ : ∃ D, D = w2.heap.size := ⟨_, rfl⟩
  have hDw : Hid (w.heap.size ≤ D) := by show _ ≤ _; rw [hDd]; exact hBw2.out.size
  have hDB2 : Below w2.heap.size w2 ((w2.alloc (.cells #[.int .i64 0, .slice none 0 0, .int .i64 0] 72)).setRow D #[.int .i64 (m : Int), .slice A0 (List.replicate m 0).length c0, .int .i64 0]) := by rw [hDd]; exact hDB
  rw [← hDd] at hD0 ⊢
  clear hDd hDB
  generalize World.setRow _ _ _ = w3 at hD0 hDB2 ⊢
  have hTw3 : Hid (TIx w D m l 0 (.slice none 0 0) w3) := ⟨[], ⟨_, hD0, own_keep hby (fun q hq => hDB2.block q (hby.lt q hq).2)⟩, World.ownsRow_nil _ _ _ _, fun j hj => by omega, hBw2.out.trans (hDB2.mono hBw2.out.size)⟩
  clear hD0 hDB2 hby hBw2
  go_wp2_with fail
  go_loopw [7, 14] (fun o9 u wr => ∃ (i : Nat) (ov : Value), i ≤ n ∧ ov = o9 ∧ u = .int .i64 (i : Int) ∧ Hid (TIx w D m l i ov wr)) (fun _ u _ => n - (intOf u).toNat)
  case atStart => exact ⟨0, _, by omega, rfl, rfl, hTw3⟩
  case round =>
    obtain ⟨i, ov, hin, rfl, rfl, hT⟩ := hrel
    obtain ⟨wo, rfl⟩ : ∃ v : World, v = wr := ⟨_, rfl⟩
    clear hTw3
    by_cases hi : i < n
    · have hI : (i : Int) < (n : Int) := by omega
      obtain ⟨vs, hT⟩ := hT
      obtain ⟨g, o, rfl, hnc, hg, hel⟩ := (hyw.out.below hT.bel).elem i (by rw [← hn'.out]; exact hi)
      obtain ⟨x, hx⟩ : ∃ x, x = l.getD i default := ⟨_, rfl⟩
      rw [← hx] at hel
      have hxH : Hid (x = l.getD i default) := hx
      have hxok : Hid x.ok := hokH.out x (by rw [hx]; have := hn'.out; simp [show i < l.length by omega])
      have helH : Hid (wo.rangeAt g (o + i * 35) (encE x).toList) := hel
      have hTwo : Hid (TI w D m l i ov vs wo) := hT
      obtain ⟨Ao, co, hAo⟩ := own_form hT.out
      subst hAo
      clear hx hel hg hT
      go_upto_region 5 with fail
      refine wp_region_lit ?_
      refine sl_run rfl (.pointer (some ⟨g, o + i * 35, none⟩)) wo (exec_index un34 sz34 _ _ rfl g o n c i (by kernel_rfl) (by kernel_rfl) hi _) ?_
      simp only [Act.put, fl1, fl2, fl3]
      refine sl_run rfl (.agg (encE x)) wo (load_en _ _ rfl g (o + i * 35) (by kernel_rfl) x helH.out) ?_
      simp only [Act.put, fl1, fl2, fl3]
      refine sg_run (by kernel_rfl) (.pointer (some ⟨wo.heap.size, 0, none⟩)) (wo.alloc (.cells (encE default) 24)) (by kernel_rfl) ?_
      simp only [Act.put, fl1, fl2, fl3]
      refine wpList_store_row rfl 24 _ _ rfl wo.heap.size (encE x) (by kernel_rfl) (by kernel_rfl) 24 _ (heap_alloc_new _ _) (by rw [encE_size']; kernel_rfl) (by rw [encE_size', encE_size']) (encE_all x) ?_
      simp only [Act.put, fl1, fl2, fl3]
      refine wpList_nil ?_
      have hE0 : ((wo.alloc (.cells (encE default) 24)).setRow wo.heap.size (encE x)).heap[wo.heap.size]? = some (.cells (encE x) 24 (0, 0)) := setRow_heap _ _ _ _ _ _ (heap_alloc_new _ _)
      have hb : Below wo.heap.size wo ((wo.alloc (.cells (encE default) 24)).setRow wo.heap.size (encE x)) := below_setRow ((Below.refl _ _).alloc (Nat.le_refl _) _) (Nat.le_refl _) _
      obtain ⟨E, hE⟩ : ∃ E, E = wo.heap.size := ⟨_, rfl⟩
      have hb2 : Below wo.heap.size wo ((wo.alloc (.cells (encE default) 24)).setRow E (encE x)) := by rw [hE]; exact hb
      rw [← hE] at hE0 ⊢
      clear hE hb helH
      generalize World.setRow _ _ _ = z1 at hE0 hb2 ⊢
      have hTz1 : Hid (TI w D m l i (.slice Ao i co) vs z1) := hTwo.out.below hb2
      have hEz1 : Hid (z1.heap[E]? = some (.cells (encE x) 24 (0, 0))) := hE0
      clear hE0 hb2 hTwo
      go_upto_region 6 with fail
      refine wp_region_lit ?_
      have hZ : Hid (w.heap.size ≤ z1.heap.size) := hTz1.out.bel.size
      refine sl_run rfl (.slice Ao i co) z1 (by kernel_rfl) ?_
      simp only [Act.put, fl1, fl2, fl3]
      refine sg_run (by kernel_rfl) (.agg (encE x)) z1 (exec_load_row 24 z1 _ rfl E (by kernel_rfl) 24 (encE x) (0, 0) _ hEz1.out Tryd.underlying24 rfl (by rw [encE_size']; kernel_rfl)) ?_
      simp only [Act.put, fl1, fl2, fl3]
      obtain ⟨hv, hrow, hhead⟩ := hTz1.out.row
      obtain ⟨A1, c1, rfl⟩ := own_form hhead
      have hlen := @headP_len m hm32 l i
      refine sg_call (by kernel_rfl) 55 #[.pointer (some ⟨D, 0, none⟩), .agg (encE x)] (by kernel_rfl) (R := fun v w' => w'.ownsRow z1.heap.size 5 1 v (textS m l i).length (vals (textS m l i)) ∧ Below z1.heap.size z1 w') ((text_calls D 0 (m : Int) (i : Int) A1 _ c1 (headP m l i) rfl (by omega) x hxok.out (by omega) z1 ⟨cell_row hrow rfl, cell_row hrow rfl, cell_row hrow rfl, (Array.getElem?_eq_some_iff.1 hrow).1⟩ (own_bytes hhead)).mono fun e w' h => by
        obtain ⟨v, h1, h2, h3⟩ := h
        rw [hxH.out] at h2
        exact ⟨_, h1, h2, h3⟩) ?_
      rintro tv z2 ⟨hown, hb⟩
      obtain ⟨At, ct, rfl⟩ := own_form hown
      simp only [Act.put, fl1, fl2, fl3]
      have hTz2 : Hid (TI w D m l i (.slice Ao i co) vs z2) := (hTz1.out).below hb
      have hEz2 : Hid (z2.heap[E]? = some (.cells (encE x) 24 (0, 0))) := heap_kept hEz1.out hb
      clear hTz1 hEz1
      have htz2 : Hid (z2.ownsRow z1.heap.size 5 1 (.slice At (textS m l i).length ct) (textS m l i).length (vals (textS m l i))) := hown
      have hz12 : Hid (w.heap.size ≤ z1.heap.size) := by
        have := hTz2.out.bel.size; have h9 := hb.size
        exact hZ.out
      clear hb hown hrow hhead hlen hZ
      refine sg_run (by kernel_rfl) (.slice (some ⟨z2.heap.size, 0, none⟩) 1 1) (z2.alloc (.cells (encV (.slice At (textS m l i).length ct)) 25)) (by kernel_rfl) ?_
      simp only [Act.put, fl1, fl2, fl3]
      have hn0 : (z2.alloc (.cells (encV (.slice At (textS m l i).length ct)) 25)).heap[z2.heap.size]? = some (.cells (encV (.slice At (textS m l i).length ct)) 25 (0, 0)) := heap_alloc_new _ _
      have hb : Below z2.heap.size z2 (z2.alloc (.cells (encV (.slice At (textS m l i).length ct)) 25)) := (Below.refl _ _).alloc (Nat.le_refl _) _
      generalize z2.heap.size = R9 at hn0 ⊢
      generalize z2.alloc _ = z3 at hn0 hb ⊢
      have hTz3 : Hid (TI w D m l i (.slice Ao i co) vs z3) := (hTz2.out).below hb
      have hEz3 : Hid (z3.heap[E]? = some (.cells (encE x) 24 (0, 0))) := heap_kept hEz2.out hb
      clear hTz2 hEz2
      have htz3 : Hid (z3.ownsRow z1.heap.size 5 1 (.slice At (textS m l i).length ct) (textS m l i).length (vals (textS m l i))) := own_keep htz2.out (fun q hq => hb.block q (htz2.out.lt q hq).2)
      clear hb htz2
      obtain ⟨i25, hi25, hz25, hs25, hb25⟩ := info_parts inf25
      have hrg : ∀ j, j < [Value.slice At (textS m l i).length ct].length → z3.rangeAt R9 (0 + j * 1) (encV ([Value.slice At (textS m l i).length ct].getD j default)).toList := fun j hj => by
        have : j = 0 := by simpa using hj
        subst this
        intro r u hu
        simp only [Nat.zero_add, Nat.zero_mul]
        rw [cell_of_row _ _ _ _ _ _ hn0]
        simpa using hu
      have hlvs : vs.length = i := by have := hTz3.out.out.1; omega
      have hrw1 : Rw 1 encV z3 (.slice (some ⟨R9, 0, none⟩) 1 1) [Value.slice At (textS m l i).length ct] := .inr ⟨R9, 0, 1, rfl, Nat.le_refl _, (Array.getElem?_eq_some_iff.1 hn0).1, hrg⟩
      refine appendRw1 (V := .slice At (textS m l i).length ct) 92 25 24 i25 (.slice none 0 0) un92 hi25 hz25 hs25 hb25 rfl rfl rfl _ _ rfl w.heap.size (.slice Ao i co) vs (by kernel_rfl) (by rw [hlvs]; exact hTz3.out.out) (.slice (some ⟨R9, 0, none⟩) 1 1) (by kernel_rfl) hrw1 (by rw [hlvs]; omega) (by rw [hlvs]; omega) hTz3.out.bel.size (fun v9 z4 hown9 hgr9 => ?_)
      clear hi25 hz25 hs25 hb25 hrw1 hrg
      simp only [Act.put, fl1, fl2, fl3]
      have hEz4 : Hid (z4.heap[E]? = some (.cells (encE x) 24 (0, 0))) := (hgr9.block E (Array.getElem?_eq_some_iff.1 hEz3.out).1 (own_kind hTz3.out.out hEz3.out (by decide))).trans hEz3.out
      obtain ⟨hv, hrow, hhead⟩ := hTz3.out.row
      have hk5 : ∀ {b n k v xs}, z3.ownsRow b 5 k v n xs → z4.ownsRow b 5 k v n xs := fun h => h.kept hgr9 (by
        rename_i v _
        cases e : v.ownBlock with
        | none => exact .inl rfl
        | some q => exact .inr (own_other hTz3.out.out h (by decide) q e))
      have hTz4 : Hid (TI4 w D m l i v9 (vs ++ [Value.slice At (textS m l i).length ct]) z4) := by
        refine ⟨⟨hv, (hgr9.block D (Array.getElem?_eq_some_iff.1 hrow).1 (own_kind hTz3.out.out hrow (by decide))).trans hrow, hk5 hhead⟩, ?_, fun j hj => ?_, hTz3.out.bel.grown hgr9 hTz3.out.bel.size (fun q hq => (hTz3.out.out.lt q hq).1)⟩
        · rw [List.length_append, hlvs] at hown9
          exact hown9
        · by_cases e : j < i
          · rw [List.getD_eq_getElem?_getD, List.getElem?_append_left (by omega), ← List.getD_eq_getElem?_getD]
            exact hk5 (hTz3.out.el j e)
          · obtain rfl : j = i := by omega
            rw [List.getD_eq_getElem?_getD, List.getElem?_append_right (by omega), hlvs, Nat.sub_self]
            exact own_mono (hk5 htz3.out) hz12.out
      obtain ⟨A5, c5, rfl⟩ := own_form hown9
      rw [List.length_append, hlvs, List.length_singleton] at hTz4 ⊢
      clear hgr9 hown9 hn0 hlvs hrow hhead hTz3 hEz3 htz3 hz12 hk5
      refine sl_run rfl (.slice A5 (i + 1) c5) z4 (by kernel_rfl) ?_
      simp only [Act.put, fl1, fl2, fl3]
      refine wpList_nil ?_
      go_upto_region 7 with fail
      refine wp_region_lit ?_
      refine sg_run (by kernel_rfl) (.agg (encE x)) z4 (exec_load_row 24 z4 _ rfl E (by kernel_rfl) 24 (encE x) (0, 0) _ hEz4.out Tryd.underlying24 rfl (by rw [encE_size']; kernel_rfl)) ?_
      simp only [Act.put, fl1, fl2, fl3]
      obtain ⟨⟨hv, hrow, hhead⟩, hout, hels, hbel⟩ := hTz4.out
      obtain ⟨A1, c1, rfl⟩ := own_form hhead
      refine sg_call (by kernel_rfl) 39 #[.pointer (some ⟨D, 0, none⟩), .agg (encE x)] (by kernel_rfl) (R := fun v w' => v = .tuple #[] ∧ TIx w D m l (i + 1) (.slice A5 (i + 1) c5) w') ((link_calls D 0 _ 72 m i hm1 hm32 (by omega) A1 _ c1 (headP m l i) rfl (by rw [headP_len hm32]; omega) (headP_lt m l i) x hxok.out z4 hrow rfl rfl rfl (own_bytes hhead)).mono fun e w' h => by
        obtain ⟨q1, hv2, q2, q3, q4⟩ := h
        have hk5 : ∀ {b n k t v xs}, z4.ownsRow b t k v n xs → t ≠ 72 → w'.ownsRow b t k v n xs := fun h ht => own_keep h (fun q hq => q4.block q (h.lt q hq).2 (fun e => by subst e; exact own_kind h hrow ht hq.symm))
        refine ⟨_, q1, rfl, _, ⟨hv2, q2, ?_⟩, hk5 hout (by decide), fun j hj => hk5 (hels j hj) (by decide), q4.bel hbel hDw.out hbel.size⟩
        rw [headP, ← hxH.out]
        exact own_mono q3 hbel.size) ?_
      rintro _ z5 ⟨rfl, hTn⟩
      simp only [Act.put, fl1, fl2, fl3]
      have hTz5 : Hid (TIx w D m l (i + 1) (.slice A5 (i + 1) c5) z5) := hTn
      clear hTn hrow hhead hout hels hbel hTz4 hEz4
      refine wpList_nil ?_
      clear hxH hxok
      go_wp2_with fail
      go_roundw
      case rel => exact ⟨i + 1, _, by omega, rfl, by go_num, hTz5⟩
      case measure => simp [intOf]; omega
    · have hI : ¬ (i : Int) < (n : Int) := by omega
      obtain rfl : i = n := by omega
      obtain ⟨vs, hT⟩ := hT
      obtain ⟨Ao, co, hAo⟩ := own_form hT.out
      subst hAo
      obtain ⟨⟨hv, hrow, hhead⟩, hout, hels, hbel⟩ := hT
      have hF : Hid (TxO w m l (.slice Ao i co) hv wo.drew) := by
        have k : ∀ {b n k e v xs}, wo.ownsRow b e k v n xs → wo.drew.ownsRow b e k v n xs := fun h => own_keep h (fun q hq => rfl)
        have hil := hn'.out
        refine ⟨⟨vs, by rw [← hil]; exact k hout, fun j hj => own_bytes (k (hels j (by omega)))⟩, ?_, hbel.drew⟩
        rw [← hil]; exact own_bytes (k hhead)
      obtain ⟨A1, c1, rfl⟩ := own_form hhead
      have hc1 : wo.drew.cell? ⟨D, 1, none⟩ = some (.slice A1 (headP m l i).length c1) := cell_row (w := wo.drew) hrow rfl
      clear hrow hhead hout hels hbel
      go_upto_region 9 with fail
      refine wp_region_still_tail 4 (by kernel_rfl) (by kernel_rfl) ?_
      change wpStill _ _ wo.drew (fun a' => wpList _ _ _ _ a' wo.drew) _ _
      generalize wo.drew = y at hF hc1 ⊢
      simp only [List.take_succ_cons, List.take_zero, List.drop_succ_cons, List.drop_zero]
      refine still_run rfl (.slice Ao i co) (by kernel_rfl) ?_
      simp only [Act.put, fl1, fl2, fl3]
      refine still_run rfl (.pointer (some ⟨D, 1, none⟩)) (by kernel_rfl) ?_
      simp only [Act.put, fl1, fl2, fl3]
      refine still_run rfl (.slice A1 (headP m l i).length c1) (exec_load_cell 25 y _ rfl ⟨D, 1, none⟩ (by kernel_rfl) _ hc1 (fun _ => by kernel_rfl)) ?_
      simp only [Act.put, fl1, fl2, fl3]
      refine still_run rfl (.slice Ao i co) (by kernel_rfl) ?_
      simp only [Act.put, fl1, fl2, fl3]
      refine wpStill_nil ?_
      refine sl_run rfl (.slice A1 (headP m l i).length c1) y (by kernel_rfl) ?_
      simp only [Act.put, fl1, fl2, fl3]
      refine wpList_nil ?_
      clear hc1
      go_wp2_with fail
      go_ret2
      exact ⟨_, _, rfl, hF.out⟩
end Go.Proofs.YtadopkifpfmhcaaDoor
namespace Go.Proofs.YtadopkifpfmhcaaDoor
open Go.RowKit
open Sha (vals Bytes Lies bytesC sumB)
open Go.Proofs.YtadopkifpfmhcaaDoorW.PrintWords Go.Proofs.YtadopkifpfmhcaaDoorW.PrintLast Go.Proofs.YtadopkifpfmhcaaDoorW.PrintMore
def pairK (m : Nat) (a b : List En) (j : Nat) : Bool := decide (textS m a (a.length - 1 - j) = textS m b (b.length - 1 - j))
def clashK (m : Nat) (a b : List En) : Option Nat := (List.range (min a.length b.length)).find? fun j => !pairK m a b j
/-- Two texts that are summed, or none. -/
def clashR (cut : Int) (a b : List En) : List Nat × List Nat × Bool :=
  if rightS cut a = true ∧ rightS cut b = true ∧ headP cut.toNat a a.length = headP cut.toNat b b.length then
    match clashK cut.toNat a b with
    | some j => (textS cut.toNat a (a.length - 1 - j), textS cut.toNat b (b.length - 1 - j), true)
    | none => ([], [], false)
  else ([], [], false)
theorem clashK_some {m : Nat} {a b : List En} {j : Nat} (h1 : j < a.length) (h2 : j < b.length) (hall : ∀ i, i < j → pairK m a b i = true) (hj : pairK m a b j = false) : clashK m a b = some j := by
  unfold clashK
  rw [List.find?_range_eq_some]
  exact ⟨by rw [hj]; rfl, List.mem_range.2 (by omega), fun i hi => by rw [hall i hi]; rfl⟩
theorem clashK_none {m : Nat} {a b : List En} (hall : ∀ i, i < min a.length b.length → pairK m a b i = true) : clashK m a b = none := by
  unfold clashK
  rw [List.find?_eq_none]
  intro i hi
  rw [hall i (List.mem_range.1 hi)]; decide
theorem textS_lt {m : Nat} {l : List En} (hok : ∀ x ∈ l, x.ok) (k : Nat) (hk : k < l.length) : ∀ y ∈ textS m l k, y < 256 := fun y hy => by
  unfold textS at hy
  rcases List.mem_append.1 hy with h | h
  · exact headP_lt _ _ _ y h
  · exact bytesS_lt (hok _ (by simp [hk])) _ y h
theorem textS_len {m : Nat} (hm : m ≤ 32) (l : List En) (k : Nat) : (textS m l k).length ≤ 1000000 := by
  unfold textS
  rw [List.length_append, headP_len hm]
  have := @bytesS_len (l.getD k default) (k : Int)
  omega
/-- An element of a row of texts. -/
theorem TxO.elem {w0 w : World} {m : Nat} {l : List En} {ov hv : Value} (h : TxO w0 m l ov hv w) (hl : 0 < l.length) : ∃ g c, ov = .slice (some ⟨g, 0, none⟩) l.length c ∧ l.length ≤ c ∧ ∀ j, j < l.length → ∃ u, w.cell? ⟨g, j, none⟩ = some u ∧ Bytes w u (textS m l j) := by
  obtain ⟨vs, h1, h2⟩ := h.out
  rcases h1.2 with ⟨_, h0⟩ | ⟨g, cap, cur, rfl, h3, h4, h5, h6, h7, h8⟩
  · omega
  · refine ⟨g, cap, rfl, h5, fun j hj => ⟨vs.getD j undef, ?_, h2 j hj⟩⟩
    have hlen : vs.length = l.length := by have := h1.1; omega
    have := h1.cells (g := g) rfl j (vs.getD j undef) (by simp [show j < vs.length by omega])
    rwa [Addr.add_mid, Nat.zero_add] at this
theorem TxO.below {w0 w w' : World} {m : Nat} {l : List En} {ov hv : Value} (h : TxO w0 m l ov hv w) (hb : Below w.heap.size w w') : TxO w0 m l ov hv w' := by
  obtain ⟨⟨vs, h1, h2⟩, h3, h4⟩ := h
  exact ⟨⟨vs, own_keep h1 (fun q hq => hb.block q (h1.lt q hq).2), fun j hj => (h2 j hj).below hb⟩, h3.below hb, h4.trans (hb.mono h4.size)⟩
def lenOf : Value → Nat
  | .slice _ n _ => n
  | _ => 0
set_option maxRecDepth 100000 in
set_option maxHeartbeats 16000000 in
theorem Clash_calls (cut : Int) (a b : List En) (hoka : ∀ x ∈ a, x.ok) (hokb : ∀ x ∈ b, x.ok) (A : Option Addr) (na ca : Nat) (hna : na = a.length) (hna9 : na ≤ 1000000) (B : Option Addr) (nb cb : Nat) (hnb : nb = b.length) (hnb9 : nb ≤ 1000000) (w : World) (hya : Rw 35 encE w (.slice A na ca) a) (hyb : Rw 35 encE w (.slice B nb cb) b) :
    Calls Tryd.prog 27 #[.int .i64 cut, .slice A na ca, .slice B nb cb] w fun e w' => ∃ u v, e = .returned (.tuple #[u, v, .bool (clashR cut a b).2.2]) ∧ Bytes w' u (clashR cut a b).1 ∧ Bytes w' v (clashR cut a b).2.1 ∧ Below w.heap.size w w' := by
  have hna' : Hid (na = a.length) := hna
  have hnb' : Hid (nb = b.length) := hnb
  have hyaw : Hid (Rw 35 encE w (.slice A na ca) a) := hya
  have hybw : Hid (Rw 35 encE w (.slice B nb cb) b) := hyb
  have hBw : Hid (Below w.heap.size w w) := Below.refl _ _
  have hokaH : Hid (∀ x ∈ a, x.ok) := hoka
  have hokbH : Hid (∀ x ∈ b, x.ok) := hokb
  obtain ⟨R, hR⟩ : ∃ R, R = clashR cut a b := ⟨_, rfl⟩
  rw [← hR]
  have hRH : Hid (R = clashR cut a b) := hR
  clear hna hnb hya hyb hoka hokb hR
  obtain ⟨ra, hra⟩ : ∃ r, r = rightS cut a := ⟨_, rfl⟩
  obtain ⟨rb, hrb⟩ : ∃ r, r = rightS cut b := ⟨_, rfl⟩
  have hraH : Hid (ra = rightS cut a) := hra
  have hrbH : Hid (rb = rightS cut b) := hrb
  clear hra hrb
  go_enter Tryd.func27, Tryd.ntmps27
  go_upto_region 1 with fail
  refine wp_region_lit ?_
  refine sl_run rfl (.int .i64 cut) w (by kernel_rfl) ?_
  simp only [Act.put, fl1, fl2, fl3]
  refine sl_run rfl (.slice A na ca) w (by kernel_rfl) ?_
  simp only [Act.put, fl1, fl2, fl3]
  refine sg_call (by kernel_rfl) 37 #[.int .i64 cut, .slice A na ca] (by kernel_rfl) (R := fun v w' => v = .bool ra ∧ Below w.heap.size w w') ((hraH.out.symm ▸ right_calls cut a A na ca hna'.out (by omega) w hyaw.out).mono fun e w' h => ⟨_, h.1, rfl, h.2⟩) ?_
  rintro _ w1 ⟨rfl, hb⟩
  simp only [Act.put, fl1, fl2, fl3]
  have hBw1 : Hid (Below w.heap.size w w1) := hBw.out.trans ((hb).mono (hBw.out).size)
  have hyaw1 : Hid (Rw 35 encE w1 (.slice A na ca) a) := (hyaw.out).below hb
  have hybw1 : Hid (Rw 35 encE w1 (.slice B nb cb) b) := (hybw.out).below hb
  clear hBw hyaw hybw
  clear hb
  refine sl_run rfl (.bool (!ra)) w1 (by kernel_rfl) ?_
  simp only [Act.put, fl1, fl2, fl3]
  cases ra with
  | false =>
    refine sl_run rfl (.bool true) w1 (by kernel_rfl) ?_
    simp only [Act.put, fl1, fl2, fl3]
    refine wpList_skip ?hw ?_
    case hw => kernel_rfl
    simp only [Act.put, fl1, fl2, fl3]
    refine wpList_skip ?hw ?_
    case hw => kernel_rfl
    simp only [Act.put, fl1, fl2, fl3]
    refine wpList_skip ?hw ?_
    case hw => kernel_rfl
    simp only [Act.put, fl1, fl2, fl3]
    refine wpList_skip ?hw ?_
    case hw => kernel_rfl
    simp only [Act.put, fl1, fl2, fl3]
    refine sl_run rfl (.bool true) w1 (by kernel_rfl) ?_
    simp only [Act.put, fl1, fl2, fl3]
    refine wpList_nil ?_
    have hs : clashR cut a b = ([], [], false) := by unfold clashR; rw [if_neg (by rw [← hraH.out]; simp)]
    have hq := hRH.out
    rw [hs] at hq
    subst hq
    have hF := hBw1
    clear hRH hs hyaw1 hybw1 hBw1 hraH hrbH
    go_wp2_with fail
    refine bodyPost_ret (v := .tuple #[.slice none 0 0, .slice none 0 0, .bool false]) (by kernel_rfl) rfl ?_
    exact ⟨_, _, rfl, .inl ⟨none, 0, rfl, rfl, fun _ => rfl⟩, .inl ⟨none, 0, rfl, rfl, fun _ => rfl⟩, hF.out⟩
  | true =>
    refine sl_run rfl (.bool false) w1 (by kernel_rfl) ?_
    simp only [Act.put, fl1, fl2, fl3]
    refine sg_run (by kernel_rfl) (.int .i64 cut) w1 (by kernel_rfl) ?_
    simp only [Act.put, fl1, fl2, fl3]
    refine sg_run (by kernel_rfl) (.slice B nb cb) w1 (by kernel_rfl) ?_
    simp only [Act.put, fl1, fl2, fl3]
    refine sg_call (by kernel_rfl) 37 #[.int .i64 cut, .slice B nb cb] (by kernel_rfl) (R := fun v w' => v = .bool rb ∧ Below w1.heap.size w1 w') ((hrbH.out.symm ▸ right_calls cut b B nb cb hnb'.out (by omega) w1 hybw1.out).mono fun e w' h => ⟨_, h.1, rfl, h.2⟩) ?_
    rintro _ w2 ⟨rfl, hb⟩
    simp only [Act.put, fl1, fl2, fl3]
    have hBw2 : Hid (Below w.heap.size w w2) := hBw1.out.trans ((hb).mono (hBw1.out).size)
    have hyaw2 : Hid (Rw 35 encE w2 (.slice A na ca) a) := (hyaw1.out).below hb
    have hybw2 : Hid (Rw 35 encE w2 (.slice B nb cb) b) := (hybw1.out).below hb
    clear hBw1 hyaw1 hybw1
    clear hb
    refine sg_run (by kernel_rfl) (.bool (!rb)) w2 (by kernel_rfl) ?_
    simp only [Act.put, fl1, fl2, fl3]
    cases rb with
    | false =>
      refine sl_run rfl (.bool true) w2 (by kernel_rfl) ?_
      simp only [Act.put, fl1, fl2, fl3]
      refine wpList_nil ?_
      have hs : clashR cut a b = ([], [], false) := by unfold clashR; rw [if_neg (by rw [← hrbH.out]; simp)]
      have hq := hRH.out
      rw [hs] at hq
      subst hq
      have hF := hBw2
      clear hRH hs hyaw2 hybw2 hBw2 hraH hrbH
      go_wp2_with fail
      refine bodyPost_ret (v := .tuple #[.slice none 0 0, .slice none 0 0, .bool false]) (by kernel_rfl) rfl ?_
      exact ⟨_, _, rfl, .inl ⟨none, 0, rfl, rfl, fun _ => rfl⟩, .inl ⟨none, 0, rfl, rfl, fun _ => rfl⟩, hF.out⟩
    | true =>
      refine sl_run rfl (.bool false) w2 (by kernel_rfl) ?_
      simp only [Act.put, fl1, fl2, fl3]
      refine wpList_nil ?_
      obtain ⟨hc1, hc2⟩ := right_cut hraH.out.symm
      obtain ⟨m, rfl⟩ : ∃ m : Nat, cut = (m : Int) := ⟨cut.toNat, by omega⟩
      have hm1 : 1 ≤ m := by omega
      have hm32 : m ≤ 32 := by omega
      have hR2 : Hid (R = if headP m a na = headP m b nb then match clashK m a b with | some j => (textS m a (a.length - 1 - j), textS m b (b.length - 1 - j), true) | none => ([], [], false) else ([], [], false)) := by
        have h := hRH.out
        unfold clashR at h
        rw [← hraH.out, ← hrbH.out, Int.toNat_natCast, ← hna'.out, ← hnb'.out] at h
        simp only [true_and] at h
        rw [hna'.out, hnb'.out] at h ⊢
        exact h
      clear hRH hraH hrbH hc1 hc2
      go_upto_region 3 with fail
      refine wp_region_lit ?_
      refine sl_run rfl (.int .i64 (m : Int)) w2 (by kernel_rfl) ?_
      simp only [Act.put, fl1, fl2, fl3]
      refine sl_run rfl (.slice A na ca) w2 (by kernel_rfl) ?_
      simp only [Act.put, fl1, fl2, fl3]
      refine sg_call (by kernel_rfl) 51 #[.int .i64 (m : Int), .slice A na ca] (by kernel_rfl) (R := fun v w' => ∃ ov hv, v = .tuple #[ov, hv] ∧ TxO w2 m a ov hv w') ((texts_calls m hm1 hm32 a hokaH.out _ na ca hna'.out (by omega) w2 hyaw2.out).mono fun e w' h => by
        obtain ⟨ov, hv, h1, h2⟩ := h
        exact ⟨_, h1, ov, hv, rfl, h2⟩) ?_
      rintro _ w3 ⟨oa, ha, rfl, htx⟩
      have hb := htx.bel
      simp only [Act.put, fl1, fl2, fl3]
      have hBw3 : Hid (Below w.heap.size w w3) := hBw2.out.trans ((hb).mono (hBw2.out).size)
      have hyaw3 : Hid (Rw 35 encE w3 (.slice A na ca) a) := (hyaw2.out).below hb
      have hybw3 : Hid (Rw 35 encE w3 (.slice B nb cb) b) := (hybw2.out).below hb
      clear hBw2 hyaw2 hybw2
      have hoaw3 : Hid (TxO w2 m a oa ha w3) := htx
      clear hb htx
      refine sl_run rfl (.tuple #[oa, ha]) w3 (by kernel_rfl) ?_
      simp only [Act.put, fl1, fl2, fl3]
      refine sl_run rfl (oa) w3 (by kernel_rfl) ?_
      simp only [Act.put, fl1, fl2, fl3]
      refine sl_run rfl (ha) w3 (by kernel_rfl) ?_
      simp only [Act.put, fl1, fl2, fl3]
      refine sl_run rfl (oa) w3 (by kernel_rfl) ?_
      simp only [Act.put, fl1, fl2, fl3]
      refine sl_run rfl (ha) w3 (by kernel_rfl) ?_
      simp only [Act.put, fl1, fl2, fl3]
      refine wpList_nil ?_
      go_upto_region 4 with fail
      refine wp_region_lit ?_
      refine sl_run rfl (.int .i64 (m : Int)) w3 (by kernel_rfl) ?_
      simp only [Act.put, fl1, fl2, fl3]
      refine sl_run rfl (.slice B nb cb) w3 (by kernel_rfl) ?_
      simp only [Act.put, fl1, fl2, fl3]
      refine sg_call (by kernel_rfl) 51 #[.int .i64 (m : Int), .slice B nb cb] (by kernel_rfl) (R := fun v w' => ∃ ov hv, v = .tuple #[ov, hv] ∧ TxO w3 m b ov hv w') ((texts_calls m hm1 hm32 b hokbH.out _ nb cb hnb'.out (by omega) w3 hybw3.out).mono fun e w' h => by
        obtain ⟨ov, hv, h1, h2⟩ := h
        exact ⟨_, h1, ov, hv, rfl, h2⟩) ?_
      rintro _ w4 ⟨ob, hb9, rfl, htx⟩
      have hb := htx.bel
      simp only [Act.put, fl1, fl2, fl3]
      have hBw4 : Hid (Below w.heap.size w w4) := hBw3.out.trans ((hb).mono (hBw3.out).size)
      have hyaw4 : Hid (Rw 35 encE w4 (.slice A na ca) a) := (hyaw3.out).below hb
      have hybw4 : Hid (Rw 35 encE w4 (.slice B nb cb) b) := (hybw3.out).below hb
      have hoaw4 : Hid (TxO w2 m a oa ha w4) := (hoaw3.out).below hb
      clear hBw3 hyaw3 hybw3 hoaw3
      have hobw4 : Hid (TxO w3 m b ob hb9 w4) := htx
      clear hb htx
      refine sl_run rfl (.tuple #[ob, hb9]) w4 (by kernel_rfl) ?_
      simp only [Act.put, fl1, fl2, fl3]
      refine sl_run rfl (ob) w4 (by kernel_rfl) ?_
      simp only [Act.put, fl1, fl2, fl3]
      refine sl_run rfl (hb9) w4 (by kernel_rfl) ?_
      simp only [Act.put, fl1, fl2, fl3]
      refine sl_run rfl (ob) w4 (by kernel_rfl) ?_
      simp only [Act.put, fl1, fl2, fl3]
      refine sl_run rfl (hb9) w4 (by kernel_rfl) ?_
      simp only [Act.put, fl1, fl2, fl3]
      refine wpList_nil ?_
      obtain ⟨sm, hsm⟩ : ∃ s, s = decide (headP m a na = headP m b nb) := ⟨_, rfl⟩
      go_upto_region 5 with fail
      refine wp_region_lit ?_
      refine sl_run rfl (ha) w4 (by kernel_rfl) ?_
      simp only [Act.put, fl1, fl2, fl3]
      refine sl_run rfl (hb9) w4 (by kernel_rfl) ?_
      simp only [Act.put, fl1, fl2, fl3]
      refine sg_call (by kernel_rfl) 42 #[ha, hb9] (by kernel_rfl) (R := fun v w' => v = .bool sm ∧ Below w4.heap.size w4 w') (((show decide (headP m a a.length = headP m b b.length) = sm by rw [hsm, hna'.out, hnb'.out]) ▸ equal_calls (headP m a a.length) (headP m b b.length) (headP_lt m a _) (headP_lt m b _) (by rw [headP_len hm32]; omega) (by rw [headP_len hm32]; omega) ha hb9 w4 hoaw4.out.head hobw4.out.head).mono fun e w' h => ⟨_, h.1, rfl, h.2⟩) ?_
      rintro _ w5 ⟨rfl, hb⟩
      simp only [Act.put, fl1, fl2, fl3]
      have hBw5 : Hid (Below w.heap.size w w5) := hBw4.out.trans ((hb).mono (hBw4.out).size)
      have hyaw5 : Hid (Rw 35 encE w5 (.slice A na ca) a) := (hyaw4.out).below hb
      have hybw5 : Hid (Rw 35 encE w5 (.slice B nb cb) b) := (hybw4.out).below hb
      have hoaw5 : Hid (TxO w2 m a oa ha w5) := (hoaw4.out).below hb
      have hobw5 : Hid (TxO w3 m b ob hb9 w5) := (hobw4.out).below hb
      clear hBw4 hyaw4 hybw4 hoaw4 hobw4
      clear hb
      refine sl_run rfl (.bool (!sm)) w5 (by kernel_rfl) ?_
      simp only [Act.put, fl1, fl2, fl3]
      refine wpList_nil ?_
      clear hyaw5 hybw5
      cases sm with
      | false =>
        have hq := hR2.out
        rw [if_neg (of_decide_eq_false hsm.symm)] at hq
        subst hq
        have hF := hBw5
        clear hR2 hBw5 hoaw5 hobw5 hsm
        go_wp2_with fail
        refine bodyPost_ret (v := .tuple #[.slice none 0 0, .slice none 0 0, .bool false]) (by kernel_rfl) rfl ?_
        exact ⟨_, _, rfl, .inl ⟨none, 0, rfl, rfl, fun _ => rfl⟩, .inl ⟨none, 0, rfl, rfl, fun _ => rfl⟩, hF.out⟩
      | true =>
        have hR3 : Hid (R = match clashK m a b with | some j => (textS m a (a.length - 1 - j), textS m b (b.length - 1 - j), true) | none => ([], [], false)) := by
          have hq := hR2.out
          rw [if_pos (of_decide_eq_true hsm.symm)] at hq
          exact hq
        clear hR2 hsm
        obtain ⟨vsa, hva, _⟩ := hoaw5.out.out
        obtain ⟨vsb, hvb, _⟩ := hobw5.out.out
        obtain ⟨Pa, pa, hPa⟩ := own_formq hva hna'.out
        obtain ⟨Pb, pb, hPb⟩ := own_formq hvb hnb'.out
        subst hPa hPb
        clear hva hvb
        simp only [Bool.not_true]
        go_wp2_with fail
        go_loopw [9, 11] (fun p q wr => ∃ j : Nat, j ≤ na ∧ j ≤ nb ∧ p = .slice Pa (na - j) pa ∧ q = .slice Pb (nb - j) pb ∧ Hid (∀ i, i < j → pairK m a b i = true) ∧ Hid (Below w5.heap.size w5 wr)) (fun p _ _ => lenOf p)
        case atStart => exact ⟨0, by omega, by omega, rfl, rfl, fun i h => by omega, Below.refl _ _⟩
        case round =>
          obtain ⟨j, hj1, hj2, rfl, rfl, hall, hbw⟩ := hrel
          obtain ⟨wo, rfl⟩ : ∃ v : World, v = wr := ⟨_, rfl⟩
          have hallH : Hid (∀ i, i < j → pairK m a b i = true) := hall
          have hBwo : Hid (Below w.heap.size w wo) := hBw5.out.trans (hbw.out.mono hBw5.out.size)
          have hoawo : Hid (TxO w2 m a (.slice Pa na pa) ha wo) := hoaw5.out.below hbw.out
          have hobwo : Hid (TxO w3 m b (.slice Pb nb pb) hb9 wo) := hobw5.out.below hbw.out
          clear hall
          obtain ⟨ia, hia⟩ : ∃ x, x = na - j := ⟨_, rfl⟩
          obtain ⟨ib, hib⟩ : ∃ x, x = nb - j := ⟨_, rfl⟩
          rw [← hia, ← hib]
          by_cases h1 : j < na
          case neg =>
            have hI : ¬ (ia : Int) > 0 := by omega
            have hn : clashK m a b = none := clashK_none (fun i hi => hallH.out i (by have := hna'.out; omega))
            have hq := hR3.out
            rw [hn] at hq
            subst hq
            have hF := hBwo
            clear hR3 hn hallH hBwo hoawo hobwo hbw hBw5 hoaw5 hobw5 hia hib hj1 hj2 h1
            go_wp2_with fail
            refine bodyPost_ret (v := .tuple #[.slice none 0 0, .slice none 0 0, .bool false]) (by kernel_rfl) rfl ?_
            exact ⟨_, _, rfl, .inl ⟨none, 0, rfl, rfl, fun _ => rfl⟩, .inl ⟨none, 0, rfl, rfl, fun _ => rfl⟩, hF.out⟩
          case pos =>
          by_cases h2 : j < nb
          case neg =>
            have hI : (ia : Int) > 0 := by omega
            have hI2 : ¬ (ib : Int) > 0 := by omega
            have hn : clashK m a b = none := clashK_none (fun i hi => hallH.out i (by have := hnb'.out; omega))
            have hq := hR3.out
            rw [hn] at hq
            subst hq
            have hF := hBwo
            clear hR3 hn hallH hBwo hoawo hobwo hbw hBw5 hoaw5 hobw5 hia hib hj1 hj2 h1 h2
            go_wp2_with fail
            refine bodyPost_ret (v := .tuple #[.slice none 0 0, .slice none 0 0, .bool false]) (by kernel_rfl) rfl ?_
            exact ⟨_, _, rfl, .inl ⟨none, 0, rfl, rfl, fun _ => rfl⟩, .inl ⟨none, 0, rfl, rfl, fun _ => rfl⟩, hF.out⟩
          case pos =>
          have hI : (ia : Int) > 0 := by omega
          have hI2 : (ib : Int) > 0 := by omega
          obtain ⟨ga, c1, e1, hca, hea⟩ := hoawo.out.elem (by rw [← hna'.out]; omega)
          obtain ⟨gb, c2, e2, hcb, heb⟩ := hobwo.out.elem (by rw [← hnb'.out]; omega)
          injection e1 with q1 q2 q3
          injection e2 with q4 q5 q6
          subst q1 q3 q4 q6
          obtain ⟨ua, hca1, hua⟩ := hea (ia - 1) (by rw [← hna'.out]; omega)
          obtain ⟨ub, hcb1, hub⟩ := heb (ib - 1) (by rw [← hnb'.out]; omega)
          obtain ⟨Ta, hTa⟩ : ∃ t, t = textS m a (ia - 1) := ⟨_, rfl⟩
          obtain ⟨Tb, hTb⟩ : ∃ t, t = textS m b (ib - 1) := ⟨_, rfl⟩
          rw [← hTa] at hua
          rw [← hTb] at hub
          have hTa2 : Hid (Ta = textS m a (a.length - 1 - j)) := by show _ = _; rw [hTa, ← hna'.out]; congr 1; omega
          have hTb2 : Hid (Tb = textS m b (b.length - 1 - j)) := by show _ = _; rw [hTb, ← hnb'.out]; congr 1; omega
          have hTalt : Hid (∀ y ∈ Ta, y < 256) := by rw [hTa]; exact textS_lt hokaH.out _ (by rw [← hna'.out]; omega)
          have hTblt : Hid (∀ y ∈ Tb, y < 256) := by rw [hTb]; exact textS_lt hokbH.out _ (by rw [← hnb'.out]; omega)
          have hTal : Ta.length ≤ 1000000 := by rw [hTa]; exact textS_len hm32 _ _
          have hTbl : Tb.length ≤ 1000000 := by rw [hTb]; exact textS_len hm32 _ _
          have hia1 : 1 ≤ ia := by omega
          have hib1 : 1 ≤ ib := by omega
          have hiac : ia ≤ pa := by have := hna'.out; omega
          have hibc : ib ≤ pb := by have := hnb'.out; omega
          have hiaN : Hid (ia - 1 = na - (j + 1)) := by show _ = _; omega
          have hibN : Hid (ib - 1 = nb - (j + 1)) := by show _ = _; omega
          have hia9 : ia ≤ 1000000 := by omega
          have hib9 : ib ≤ 1000000 := by omega
          have hj1' : j + 1 ≤ na := by omega
          have hj2' : j + 1 ≤ nb := by omega
          have hca1H : Hid (wo.cell? ⟨ga, ia - 1, none⟩ = some ua) := hca1
          have hcb1H : Hid (wo.cell? ⟨gb, ib - 1, none⟩ = some ub) := hcb1
          have hyuawo : Hid (Bytes wo ua Ta) := hua
          have hyubwo : Hid (Bytes wo ub Tb) := hub
          have hxwo : Hid (Below w5.heap.size w5 wo) := hbw.out
          obtain ⟨Aua, cua, rfl⟩ := hua.form
          obtain ⟨Aub, cub, rfl⟩ := hub.form
          clear q2 q5 hea heb hua hub hca1 hcb1 hTa hTb hia hib hca hcb hoawo hobwo hbw h1 h2 hj1 hj2
          go_upto_region 8 with fail
          refine wp_region_still_tail 13 (by kernel_rfl) (by kernel_rfl) ?_
          change wpStill _ _ wo.drew (fun a' => wpList _ _ _ _ a' wo.drew) _ _
          have hBy : Hid (Below w.heap.size w wo.drew) := hBwo.out.drew
          have hxy : Hid (Below w5.heap.size w5 wo.drew) := hxwo.out.drew
          have hyuay : Hid (Bytes wo.drew (.slice Aua Ta.length cua) Ta) := hyuawo.out.below (Below.refl _ _).drew
          have hyuby : Hid (Bytes wo.drew (.slice Aub Tb.length cub) Tb) := hyubwo.out.below (Below.refl _ _).drew
          have hca1y : Hid (wo.drew.cell? ⟨ga, ia - 1, none⟩ = some (.slice Aua Ta.length cua)) := hca1H.out
          have hcb1y : Hid (wo.drew.cell? ⟨gb, ib - 1, none⟩ = some (.slice Aub Tb.length cub)) := hcb1H.out
          clear hBwo hxwo hyuawo hyubwo hca1H hcb1H
          generalize hx : wo.drew = y at hBy hxy hyuay hyuby hca1y hcb1y ⊢
          clear hx
          simp only [List.take_succ_cons, List.take_zero, List.drop_succ_cons, List.drop_zero]
          refine still_run rfl (.slice (some ⟨ga, 0, none⟩) ia pa) (by kernel_rfl) ?_
          simp only [Act.put, fl1, fl2, fl3]
          refine still_run rfl (.slice (some ⟨ga, 0, none⟩) ia pa) (by kernel_rfl) ?_
          simp only [Act.put, fl1, fl2, fl3]
          refine still_run rfl (.int .i64 (ia : Int)) (by kernel_rfl) ?_
          simp only [Act.put, fl1, fl2, fl3]
          refine still_run rfl (.int .i64 ((ia - 1 : Nat) : Int)) (subI _ rfl ia (by kernel_rfl) hia1 (by omega) _) ?_
          simp only [Act.put, fl1, fl2, fl3]
          refine still_run rfl (.pointer (some ⟨ga, 0 + (ia - 1) * 1, none⟩)) (exec_index un92 sz92 _ _ rfl ga 0 ia pa (ia - 1) (by kernel_rfl) (by kernel_rfl) (by omega) _) ?_
          simp only [Act.put, fl1, fl2, fl3]
          refine still_run rfl (.slice Aua Ta.length cua) (exec_load_cell 25 y _ rfl ⟨ga, 0 + (ia - 1) * 1, none⟩ (by kernel_rfl) _ (by rw [Nat.zero_add, Nat.mul_one]; exact hca1y.out) (fun _ => by kernel_rfl)) ?_
          simp only [Act.put, fl1, fl2, fl3]
          refine still_run rfl (.slice (some ⟨gb, 0, none⟩) ib pb) (by kernel_rfl) ?_
          simp only [Act.put, fl1, fl2, fl3]
          refine still_run rfl (.slice (some ⟨gb, 0, none⟩) ib pb) (by kernel_rfl) ?_
          simp only [Act.put, fl1, fl2, fl3]
          refine still_run rfl (.int .i64 (ib : Int)) (by kernel_rfl) ?_
          simp only [Act.put, fl1, fl2, fl3]
          refine still_run rfl (.int .i64 ((ib - 1 : Nat) : Int)) (subI _ rfl ib (by kernel_rfl) hib1 (by omega) _) ?_
          simp only [Act.put, fl1, fl2, fl3]
          refine still_run rfl (.pointer (some ⟨gb, 0 + (ib - 1) * 1, none⟩)) (exec_index un92 sz92 _ _ rfl gb 0 ib pb (ib - 1) (by kernel_rfl) (by kernel_rfl) (by omega) _) ?_
          simp only [Act.put, fl1, fl2, fl3]
          refine still_run rfl (.slice Aub Tb.length cub) (exec_load_cell 25 y _ rfl ⟨gb, 0 + (ib - 1) * 1, none⟩ (by kernel_rfl) _ (by rw [Nat.zero_add, Nat.mul_one]; exact hcb1y.out) (fun _ => by kernel_rfl)) ?_
          simp only [Act.put, fl1, fl2, fl3]
          refine still_run rfl (.slice Aua Ta.length cua) (by kernel_rfl) ?_
          simp only [Act.put, fl1, fl2, fl3]
          refine wpStill_nil ?_
          refine sl_run rfl (.slice Aub Tb.length cub) y (by kernel_rfl) ?_
          simp only [Act.put, fl1, fl2, fl3]
          refine wpList_nil ?_
          clear hca1y hcb1y
          obtain ⟨same, hsame⟩ : ∃ s, s = decide (Ta = Tb) := ⟨_, rfl⟩
          go_upto_region 9 with fail
          refine wp_region_lit ?_
          refine sl_run rfl (.slice Aua Ta.length cua) y (by kernel_rfl) ?_
          simp only [Act.put, fl1, fl2, fl3]
          refine sl_run rfl (.slice Aub Tb.length cub) y (by kernel_rfl) ?_
          simp only [Act.put, fl1, fl2, fl3]
          refine sg_call (by kernel_rfl) 42 #[.slice Aua Ta.length cua, .slice Aub Tb.length cub] (by kernel_rfl) (R := fun v w' => v = .bool same ∧ Below y.heap.size y w') ((hsame ▸ equal_calls Ta Tb hTalt.out hTblt.out (by omega) (by omega) (.slice Aua Ta.length cua) (.slice Aub Tb.length cub) y hyuay.out hyuby.out).mono fun e w' h => ⟨_, h.1, rfl, h.2⟩) ?_
          rintro _ z ⟨rfl, hb⟩
          simp only [Act.put, fl1, fl2, fl3]
          have hBz : Hid (Below w.heap.size w z) := hBy.out.trans ((hb).mono (hBy.out).size)
          have hxz : Hid (Below w5.heap.size w5 z) := hxy.out.trans ((hb).mono (hxy.out).size)
          have hyuaz : Hid (Bytes z (.slice Aua Ta.length cua) Ta) := (hyuay.out).below hb
          have hyubz : Hid (Bytes z (.slice Aub Tb.length cub) Tb) := (hyuby.out).below hb
          clear hBy hxy hyuay hyuby
          clear hb
          refine sl_run rfl (.bool (!same)) z (by kernel_rfl) ?_
          simp only [Act.put, fl1, fl2, fl3]
          refine wpList_nil ?_
          cases same with
          | false =>
            have hk : clashK m a b = some j := clashK_some (by rw [← hna'.out]; omega) (by rw [← hnb'.out]; omega) hallH.out (by unfold pairK; rw [← hTa2.out, ← hTb2.out]; exact hsame.symm)
            have hq := hR3.out
            rw [hk] at hq
            simp only [← hTa2.out, ← hTb2.out] at hq
            subst hq
            have hF : Hid (Bytes z (.slice Aua Ta.length cua) Ta ∧ Bytes z (.slice Aub Tb.length cub) Tb ∧ Below w.heap.size w z) := ⟨hyuaz.out, hyubz.out, hBz.out⟩
            clear hR3 hk hallH hBz hxz hyuaz hyubz hsame
            go_wp2_with fail
            refine bodyPost_ret (v := .tuple #[.slice Aua Ta.length cua, .slice Aub Tb.length cub, .bool true]) (by kernel_rfl) rfl ?_
            exact ⟨_, _, rfl, hF.out⟩
          | true =>
            have hall2 : Hid (∀ i, i < j + 1 → pairK m a b i = true) := fun i hi => by
              by_cases e : i < j
              · exact hallH.out i e
              · obtain rfl : i = j := by omega
                unfold pairK; rw [← hTa2.out, ← hTb2.out]; exact hsame.symm
            clear hsame hallH hTa2 hTb2 hyuaz hyubz hTalt hTblt
            go_upto_region 11 with fail
            refine wp_region_still_tail 11 (by kernel_rfl) (by kernel_rfl) ?_
            change wpStill _ _ z.drew (fun a' => wpList _ _ _ _ a' z.drew) _ _
            have hxy2 : Hid (Below w5.heap.size w5 z.drew) := hxz.out.drew
            clear hxz hBz
            generalize hx : z.drew = y2 at hxy2 ⊢
            clear hx
            simp only [List.take_succ_cons, List.take_zero, List.drop_succ_cons, List.drop_zero]
            refine still_run rfl (.slice (some ⟨ga, 0, none⟩) ia pa) (by kernel_rfl) ?_
            simp only [Act.put, fl1, fl2, fl3]
            refine still_run rfl (.slice (some ⟨ga, 0, none⟩) ia pa) (by kernel_rfl) ?_
            simp only [Act.put, fl1, fl2, fl3]
            refine still_run rfl (.int .i64 (ia : Int)) (by kernel_rfl) ?_
            simp only [Act.put, fl1, fl2, fl3]
            refine still_run rfl (.int .i64 ((ia - 1 : Nat) : Int)) (subI _ rfl ia (by kernel_rfl) hia1 (by omega) _) ?_
            simp only [Act.put, fl1, fl2, fl3]
            refine still_run rfl (.slice (some ⟨ga, 0, none⟩) (ia - 1) pa) ((exec_takeS un92 sz92 _ _ rfl (some ⟨ga, 0, none⟩) ia pa (ia - 1) (by kernel_rfl) (by kernel_rfl) (by omega) _).trans (by rw [if_neg (by omega), Option.map_some, Addr.add_mid, Nat.add_zero])) ?_
            simp only [Act.put, fl1, fl2, fl3]
            refine still_run rfl (.slice (some ⟨gb, 0, none⟩) ib pb) (by kernel_rfl) ?_
            simp only [Act.put, fl1, fl2, fl3]
            refine still_run rfl (.slice (some ⟨gb, 0, none⟩) ib pb) (by kernel_rfl) ?_
            simp only [Act.put, fl1, fl2, fl3]
            refine still_run rfl (.int .i64 (ib : Int)) (by kernel_rfl) ?_
            simp only [Act.put, fl1, fl2, fl3]
            refine still_run rfl (.int .i64 ((ib - 1 : Nat) : Int)) (subI _ rfl ib (by kernel_rfl) hib1 (by omega) _) ?_
            simp only [Act.put, fl1, fl2, fl3]
            refine still_run rfl (.slice (some ⟨gb, 0, none⟩) (ib - 1) pb) ((exec_takeS un92 sz92 _ _ rfl (some ⟨gb, 0, none⟩) ib pb (ib - 1) (by kernel_rfl) (by kernel_rfl) (by omega) _).trans (by rw [if_neg (by omega), Option.map_some, Addr.add_mid, Nat.add_zero])) ?_
            simp only [Act.put, fl1, fl2, fl3]
            refine still_run rfl (.slice (some ⟨ga, 0, none⟩) (ia - 1) pa) (by kernel_rfl) ?_
            simp only [Act.put, fl1, fl2, fl3]
            refine wpStill_nil ?_
            refine sl_run rfl (.slice (some ⟨gb, 0, none⟩) (ib - 1) pb) y2 (by kernel_rfl) ?_
            simp only [Act.put, fl1, fl2, fl3]
            refine wpList_nil ?_
            go_wp2_with fail
            go_roundw
            case rel => exact ⟨j + 1, hj1', hj2', by rw [hiaN.out], by rw [hibN.out], hall2, hxy2⟩
            case measure => simp [lenOf]; omega
end Go.Proofs.YtadopkifpfmhcaaDoor
namespace Go.Proofs.YtadopkifpfmhcaaDoor
open Go.RowKit
open Sha (vals Bytes Lies bytesC sumB)
open Go.Proofs.YtadopkifpfmhcaaDoorW.PrintWords Go.Proofs.YtadopkifpfmhcaaDoorW.PrintLast Go.Proofs.YtadopkifpfmhcaaDoorW.PrintMore
theorem headP_take {m : Nat} (l : List En) : ∀ k, k ≤ l.length → headP m (l.take k) k = headP m l k := fun k hk => by
  have := headP_app (cut := m) (l.take k) (l.drop k) k (by rw [List.length_take]; omega)
  rw [List.take_append_drop] at this
  exact this.symm
set_option maxRecDepth 100000 in
set_option maxHeartbeats 8000000 in
theorem Summed_calls (m : Nat) (hm32 : m ≤ 32) (l : List En) (hok : ∀ x ∈ l, x.ok) (A : Option Addr) (n c : Nat) (hn : n = l.length) (hn9 : n ≤ 1000000) (k : Nat) (hk : k < n) (w : World) (hy : Rw 35 encE w (.slice A n c) l) :
    Calls Tryd.prog 52 #[.int .i64 (m : Int), .slice A n c, .int .i64 (k : Int)] w fun e w' => ∃ v, e = .returned v ∧ Bytes w' v (textS m l k) ∧ Below w.heap.size w w' := by
  obtain ⟨g, o, rfl, hnc, hg, hel⟩ := hy.elem k (by omega)
  obtain ⟨x, hx⟩ : ∃ x, x = l.getD k default := ⟨_, rfl⟩
  rw [← hx] at hel
  have hxok : Hid x.ok := hok x (by rw [hx]; simp [show k < l.length by omega])
  have helH : Hid (∀ w', Below w.heap.size w w' → w'.rangeAt g (o + k * 35) (encE x).toList) := fun w' h => range_below hel h hg
  have htk := (rw_take (k := 35) (enc := encE) hn hy k (by omega)).2
  rw [if_neg (by omega), Option.map_some, Addr.add_mid, Nat.add_zero] at htk
  have htkH : Hid (Rw 35 encE w (.slice (some ⟨g, o, none⟩) k c) (l.take k)) := htk
  have hoktk : Hid (∀ x ∈ l.take k, x.ok) := fun x hx => hok x (List.mem_of_mem_take hx)
  obtain ⟨H, hH⟩ : ∃ H, H = headP m l k := ⟨_, rfl⟩
  have hHH : Hid (H = headP m (l.take k) k) := by show _ = _; rw [headP_take l k (by omega), hH]
  have hHl : H.length = m := by rw [hH]; exact headP_len hm32 _ _
  obtain ⟨b, er, hb9⟩ : ∃ b er, bytesS (k : Int) x = (b, er) := ⟨_, _, rfl⟩
  have hbH : Hid (bytesS (k : Int) x = (b, er)) := hb9
  have hbl : b.length ≤ 100000 := by have := @bytesS_len x (k : Int); rw [hb9] at this; exact this
  obtain ⟨T, hT⟩ : ∃ T, T = textS m l k := ⟨_, rfl⟩
  rw [← hT]
  have hTH : Hid (T = H ++ b) := by show _ = _; rw [hT, textS, ← hx, hb9, hH]
  have hlk : Hid ((l.take k).length = k) := by show _ = _; rw [List.length_take]; omega
  have hBw : Hid (Below w.heap.size w w) := Below.refl _ _
  clear hn hok hy hel hx htk hH hb9 hT hg
  go_enter Tryd.func52, Tryd.ntmps52
  go_upto_region 1 with fail
  refine wp_region_lit ?_
  refine sl_run rfl (.int .i64 (m : Int)) w (by kernel_rfl) ?_
  simp only [Act.put, fl1, fl2, fl3]
  refine sl_run rfl (.slice (some ⟨g, o, none⟩) n c) w (by kernel_rfl) ?_
  simp only [Act.put, fl1, fl2, fl3]
  refine sl_run rfl (.int .i64 (k : Int)) w (by kernel_rfl) ?_
  simp only [Act.put, fl1, fl2, fl3]
  refine sl_run rfl (.slice (some ⟨g, o, none⟩) k c) w ((exec_takeS un34 sz34 _ _ rfl (some ⟨g, o, none⟩) n c k (by kernel_rfl) (by kernel_rfl) (by omega) _).trans (by rw [if_neg (by omega), Option.map_some, Addr.add_mid, Nat.add_zero])) ?_
  simp only [Act.put, fl1, fl2, fl3]
  refine sg_call (by kernel_rfl) 41 #[.int .i64 (m : Int), .slice (some ⟨g, o, none⟩) k c] (by kernel_rfl) (R := fun v w' => w'.ownsRow w.heap.size 5 1 v H.length (vals H) ∧ Below w.heap.size w w') ((rhead_calls m hm32 (l.take k) hoktk.out _ k c hlk.out.symm (by omega) w htkH.out).mono fun e w' h => by
    obtain ⟨v, h1, h2, h3⟩ := h
    rw [← hHH.out] at h2
    exact ⟨_, h1, h2, h3⟩) ?_
  rintro hv w1 ⟨hown, hb⟩
  obtain ⟨A1, c1, rfl⟩ := own_form hown
  simp only [Act.put, fl1, fl2, fl3]
  have hBw1 : Hid (Below w.heap.size w w1) := hBw.out.trans ((hb).mono (hBw.out).size)
  clear hBw
  have how1 : Hid (w1.ownsRow w.heap.size 5 1 (.slice A1 H.length c1) H.length (vals H)) := hown
  clear hb hown
  refine sl_run rfl (.slice A1 H.length c1) w1 (by kernel_rfl) ?_
  simp only [Act.put, fl1, fl2, fl3]
  refine wpList_nil ?_
  go_upto_region 2 with fail
  refine wp_region_lit ?_
  refine sl_run rfl (.int .i64 (k : Int)) w1 (by kernel_rfl) ?_
  simp only [Act.put, fl1, fl2, fl3]
  refine sl_run rfl (.slice (some ⟨g, o, none⟩) n c) w1 (by kernel_rfl) ?_
  simp only [Act.put, fl1, fl2, fl3]
  refine sl_run rfl (.int .i64 (k : Int)) w1 (by kernel_rfl) ?_
  simp only [Act.put, fl1, fl2, fl3]
  refine sl_run rfl (.pointer (some ⟨g, o + k * 35, none⟩)) w1 (exec_index un34 sz34 _ _ rfl g o n c k (by kernel_rfl) (by kernel_rfl) hk _) ?_
  simp only [Act.put, fl1, fl2, fl3]
  refine sl_run rfl (.agg (encE x)) w1 (load_en _ _ rfl g (o + k * 35) (by kernel_rfl) x (helH.out w1 hBw1.out)) ?_
  simp only [Act.put, fl1, fl2, fl3]
  refine sg_call (by kernel_rfl) 12 #[.int .i64 (k : Int), .agg (encE x)] (by kernel_rfl) (R := fun v w' => ∃ u, v = .tuple #[u, .int .i64 (er : Int)] ∧ Bytes w' u b ∧ Below w1.heap.size w1 w') ((rbytes_calls (k : Int) (by omega) x hxok.out w1).mono fun e w' h => by
    obtain ⟨v, h1, h2, h3⟩ := h
    rw [hbH.out] at h1 h2
    exact ⟨_, h1, v, rfl, h2, h3⟩) ?_
  rintro _ w2 ⟨u1, rfl, hby, hb⟩
  simp only [Act.put, fl1, fl2, fl3]
  have hBw2 : Hid (Below w.heap.size w w2) := hBw1.out.trans ((hb).mono (hBw1.out).size)
  have how2 : Hid (w2.ownsRow w.heap.size 5 1 (.slice A1 H.length c1) H.length (vals H)) := own_keep how1.out (fun q hq => (hb).block q ((how1.out).lt q hq).2)
  clear hBw1 how1
  have hu1w2 : Hid (Bytes w2 u1 b) := hby
  clear hb hby
  refine sl_run rfl (.tuple #[u1, .int .i64 (er : Int)]) w2 (by kernel_rfl) ?_
  simp only [Act.put, fl1, fl2, fl3]
  refine sl_run rfl (u1) w2 (by kernel_rfl) ?_
  simp only [Act.put, fl1, fl2, fl3]
  refine sl_run rfl (.int .i64 (er : Int)) w2 (by kernel_rfl) ?_
  simp only [Act.put, fl1, fl2, fl3]
  refine sl_run rfl (u1) w2 (by kernel_rfl) ?_
  simp only [Act.put, fl1, fl2, fl3]
  refine sl_run rfl (.int .i64 (er : Int)) w2 (by kernel_rfl) ?_
  simp only [Act.put, fl1, fl2, fl3]
  refine wpList_nil ?_
  go_upto_region 3 with fail
  refine wp_region_lit ?_
  refine sl_run rfl (.slice A1 H.length c1) w2 (by kernel_rfl) ?_
  simp only [Act.put, fl1, fl2, fl3]
  refine sl_run rfl (u1) w2 (by kernel_rfl) ?_
  simp only [Act.put, fl1, fl2, fl3]
  refine Sha.append22 rfl _ _ rfl w.heap.size (.slice A1 H.length c1) H b (by kernel_rfl) how2.out u1 (by kernel_rfl) hu1w2.out (by omega) hBw2.out.size ?_
  intro dv y3 hown3 hgr _
  simp only [Act.put, fl1, fl2, fl3]
  have hF : Hid (Bytes y3 dv T ∧ Below w.heap.size w y3) := ⟨by rw [hTH.out]; exact own_bytes hown3, hBw2.out.grown hgr hBw2.out.size (fun q hq => (how2.out.lt q hq).1)⟩
  clear hown3 hgr hBw2 how2 hu1w2
  refine sl_run rfl (dv) y3 (by kernel_rfl) ?_
  simp only [Act.put, fl1, fl2, fl3]
  refine wpList_nil ?_
  go_wp2_with fail
  go_ret
  exact ⟨_, rfl, hF.out.1, hF.out.2⟩
theorem exec_subI {o : Oper} {a : Act} (x y : Operand) (ho : o.op = .binOp .sub 3 x y 3) (u v : Int) (hx : a.eval x = .int .i64 u) (hy : a.eval y = .int .i64 v) (h0 : -9223372036854775808 ≤ u - v) (h1 : u - v ≤ 9223372036854775807) (w : World) : (execOp a.eval o).run Tryd.prog w = .ok (.value (.int .i64 (u - v))) w := by
  unfold execOp
  have hw : IntKind.i64.wrap (u - v) = u - v := by rw [IntKind.wrap_i64]; omega
  simp [ho, hx, hy, eqGuard, binOp_sub, Op.intArith, hw]
set_option maxRecDepth 100000 in
set_option maxHeartbeats 16000000 in
theorem rClash_calls (cut : Int) (a b : List En) (hoka : ∀ x ∈ a, x.ok) (hokb : ∀ x ∈ b, x.ok) (A : Option Addr) (na ca : Nat) (hna : na = a.length) (hna9 : na ≤ 1000000) (B : Option Addr) (nb cb : Nat) (hnb : nb = b.length) (hnb9 : nb ≤ 1000000) (w : World) (hya : Rw 35 encE w (.slice A na ca) a) (hyb : Rw 35 encE w (.slice B nb cb) b) :
    Calls Tryd.prog 28 #[.int .i64 cut, .slice A na ca, .slice B nb cb] w fun e w' => ∃ u v, e = .returned (.tuple #[u, v, .bool (clashR cut a b).2.2]) ∧ Bytes w' u (clashR cut a b).1 ∧ Bytes w' v (clashR cut a b).2.1 ∧ Below w.heap.size w w' := by
  have hna' : Hid (na = a.length) := hna
  have hnb' : Hid (nb = b.length) := hnb
  have hyaw : Hid (Rw 35 encE w (.slice A na ca) a) := hya
  have hybw : Hid (Rw 35 encE w (.slice B nb cb) b) := hyb
  have hBw : Hid (Below w.heap.size w w) := Below.refl _ _
  have hokaH : Hid (∀ x ∈ a, x.ok) := hoka
  have hokbH : Hid (∀ x ∈ b, x.ok) := hokb
  obtain ⟨R, hR⟩ : ∃ R, R = clashR cut a b := ⟨_, rfl⟩
  rw [← hR]
  have hRH : Hid (R = clashR cut a b) := hR
  clear hna hnb hya hyb hoka hokb hR
  obtain ⟨ra, hra⟩ : ∃ r, r = rightS cut a := ⟨_, rfl⟩
  obtain ⟨rb, hrb⟩ : ∃ r, r = rightS cut b := ⟨_, rfl⟩
  have hraH : Hid (ra = rightS cut a) := hra
  have hrbH : Hid (rb = rightS cut b) := hrb
  clear hra hrb
  go_enter Tryd.func28, Tryd.ntmps28
  go_upto_region 1 with fail
  refine wp_normalG ?_
  refine wp_region_held_drew (S := fun w' => Below w.heap.size w w') (by kernel_rfl) (Below.refl _ _).drew (fun hS => ?_)
  change wpAnyH _ _ _ _ _ 21 (Array.replicate 21 false) _ _
  generalize hx : w.drew = y at hS ⊢
  clear hx
  refine held_take 0 rfl (by kernel_rfl) (by kernel_rfl) (by kernel_rfl) (.int .i64 cut) (fun _ _ _ h => nomatch h.1) (by kernel_rfl) (fun w' h => (by kernel_rfl)) hS ?_
  simp only [Act.put, fl1, fl2, fl3, fl4, fl5, fl6]
  refine held_take 1 rfl (by kernel_rfl) (by kernel_rfl) (by kernel_rfl) (.slice A na ca) (fun _ _ _ h => nomatch h.1) (by kernel_rfl) (fun w' h => (by kernel_rfl)) hS ?_
  simp only [Act.put, fl1, fl2, fl3, fl4, fl5, fl6]
  refine held_call 2 rfl (by kernel_rfl) (by kernel_rfl) 40 #[.int .i64 cut, .slice A na ca] (by kernel_rfl) (R := fun v w' => v = .bool ra ∧ Below y.heap.size y w') ((hraH.out.symm ▸ rright_calls cut a A na ca hna'.out (by omega) y (hyaw.out.below hS)).mono fun e w' h => ⟨_, h.1, rfl, h.2⟩) ?_
  rintro _ y1 ⟨rfl, hb⟩
  have hS9 : Below w.heap.size w y1 := hS.trans (hb.mono hS.size)
  clear hS
  have hS := hS9
  clear hS9 hb
  refine ⟨hS, ?_⟩
  simp only [Act.put, fl1, fl2, fl3, fl4, fl5, fl6]
  cases ra with
  | false =>
    refine held_take 3 rfl (by kernel_rfl) (by kernel_rfl) (by kernel_rfl) (.bool true) (fun _ _ _ h => nomatch h.1) (by kernel_rfl) (fun w' h => by kernel_rfl) hS ?_
    simp only [Act.put, fl1, fl2, fl3, fl4, fl5, fl6]
    refine held_take 4 rfl (by kernel_rfl) (by kernel_rfl) (by kernel_rfl) (.bool true) (fun _ _ _ h => nomatch h.1) (by kernel_rfl) (fun w' h => (by kernel_rfl)) hS ?_
    simp only [Act.put, fl1, fl2, fl3, fl4, fl5, fl6]
    refine held_skip 5 rfl (by kernel_rfl) (by kernel_rfl) (by kernel_rfl) (fun _ _ _ h => nomatch h.1) (by kernel_rfl) hS ?_
    simp only [Act.put, fl1, fl2, fl3, fl4, fl5, fl6]
    refine held_skip 6 rfl (by kernel_rfl) (by kernel_rfl) (by kernel_rfl) (fun _ _ _ h => nomatch h.1) (by kernel_rfl) hS ?_
    simp only [Act.put, fl1, fl2, fl3, fl4, fl5, fl6]
    refine held_skip 7 rfl (by kernel_rfl) (by kernel_rfl) (by kernel_rfl) (fun _ _ _ h => nomatch h.1) (by kernel_rfl) hS ?_
    simp only [Act.put, fl1, fl2, fl3, fl4, fl5, fl6]
    refine held_skip 8 rfl (by kernel_rfl) (by kernel_rfl) (by kernel_rfl) (fun _ _ _ h => nomatch h.1) (by kernel_rfl) hS ?_
    simp only [Act.put, fl1, fl2, fl3, fl4, fl5, fl6]
    refine held_take 9 rfl (by kernel_rfl) (by kernel_rfl) (by kernel_rfl) (.bool true) (fun _ _ _ h => nomatch h.1) (by kernel_rfl) (fun w' h => (by kernel_rfl)) hS ?_
    simp only [Act.put, fl1, fl2, fl3, fl4, fl5, fl6]
    refine held_take 10 rfl (by kernel_rfl) (by kernel_rfl) (by kernel_rfl) (.bool true) (fun _ _ _ h => nomatch h.1) (by kernel_rfl) (fun w' h => (by kernel_rfl)) hS ?_
    simp only [Act.put, fl1, fl2, fl3, fl4, fl5, fl6]
    refine held_skip 11 rfl (by kernel_rfl) (by kernel_rfl) (by kernel_rfl) (fun _ _ _ h => nomatch h.1) (by kernel_rfl) hS ?_
    simp only [Act.put, fl1, fl2, fl3, fl4, fl5, fl6]
    refine held_skip 12 rfl (by kernel_rfl) (by kernel_rfl) (by kernel_rfl) (fun _ _ _ h => nomatch h.1) (by kernel_rfl) hS ?_
    simp only [Act.put, fl1, fl2, fl3, fl4, fl5, fl6]
    refine held_skip 13 rfl (by kernel_rfl) (by kernel_rfl) (by kernel_rfl) (fun _ _ _ h => nomatch h.1) (by kernel_rfl) hS ?_
    simp only [Act.put, fl1, fl2, fl3, fl4, fl5, fl6]
    refine held_skip 14 rfl (by kernel_rfl) (by kernel_rfl) (by kernel_rfl) (fun _ _ _ h => nomatch h.1) (by kernel_rfl) hS ?_
    simp only [Act.put, fl1, fl2, fl3, fl4, fl5, fl6]
    refine held_skip 15 rfl (by kernel_rfl) (by kernel_rfl) (by kernel_rfl) (fun _ _ _ h => nomatch h.1) (by kernel_rfl) hS ?_
    simp only [Act.put, fl1, fl2, fl3, fl4, fl5, fl6]
    refine held_skip 16 rfl (by kernel_rfl) (by kernel_rfl) (by kernel_rfl) (fun _ _ _ h => nomatch h.1) (by kernel_rfl) hS ?_
    simp only [Act.put, fl1, fl2, fl3, fl4, fl5, fl6]
    refine held_skip 17 rfl (by kernel_rfl) (by kernel_rfl) (by kernel_rfl) (fun _ _ _ h => nomatch h.1) (by kernel_rfl) hS ?_
    simp only [Act.put, fl1, fl2, fl3, fl4, fl5, fl6]
    refine held_skip 18 rfl (by kernel_rfl) (by kernel_rfl) (by kernel_rfl) (fun _ _ _ h => nomatch h.1) (by kernel_rfl) hS ?_
    simp only [Act.put, fl1, fl2, fl3, fl4, fl5, fl6]
    refine held_skip 19 rfl (by kernel_rfl) (by kernel_rfl) (by kernel_rfl) (fun _ _ _ h => nomatch h.1) (by kernel_rfl) hS ?_
    simp only [Act.put, fl1, fl2, fl3, fl4, fl5, fl6]
    refine held_take 20 rfl (by kernel_rfl) (by kernel_rfl) (by kernel_rfl) (.bool true) (fun _ _ _ h => nomatch h.1) (by kernel_rfl) (fun w' h => (by kernel_rfl)) hS ?_
    simp only [Act.put, fl1, fl2, fl3, fl4, fl5, fl6]
    have hF : Hid (Below w.heap.size w y1) := hS
    clear hS
    refine wpAnyH_done (by kernel_rfl) ?_ _
    refine ⟨rfl, ?_⟩
    rename_i hK
    refine hK _ _ ?_
    clear hK
    have hs : clashR cut a b = ([], [], false) := by unfold clashR; rw [if_neg (by rw [← hraH.out]; simp)]
    have hq := hRH.out
    rw [hs] at hq
    subst hq
    clear hRH hs hyaw hybw hraH hrbH hBw
    go_wp2_with fail
    refine bodyPost_ret (v := .tuple #[.slice none 0 0, .slice none 0 0, .bool false]) (by kernel_rfl) rfl ?_
    exact ⟨_, _, rfl, .inl ⟨none, 0, rfl, rfl, fun _ => rfl⟩, .inl ⟨none, 0, rfl, rfl, fun _ => rfl⟩, hF.out⟩
  | true =>
    refine held_take 3 rfl (by kernel_rfl) (by kernel_rfl) (by kernel_rfl) (.bool false) (fun _ _ _ h => nomatch h.1) (by kernel_rfl) (fun w' h => by kernel_rfl) hS ?_
    simp only [Act.put, fl1, fl2, fl3, fl4, fl5, fl6]
    refine held_take 4 rfl (by kernel_rfl) (by kernel_rfl) (by kernel_rfl) (.bool false) (fun _ _ _ h => nomatch h.1) (by kernel_rfl) (fun w' h => (by kernel_rfl)) hS ?_
    simp only [Act.put, fl1, fl2, fl3, fl4, fl5, fl6]
    refine held_take 5 rfl (by kernel_rfl) (by kernel_rfl) (by kernel_rfl) (.int .i64 cut) (fun _ _ _ h => nomatch h.1) (by kernel_rfl) (fun w' h => (by kernel_rfl)) hS ?_
    simp only [Act.put, fl1, fl2, fl3, fl4, fl5, fl6]
    refine held_take 6 rfl (by kernel_rfl) (by kernel_rfl) (by kernel_rfl) (.slice B nb cb) (fun _ _ _ h => nomatch h.1) (by kernel_rfl) (fun w' h => (by kernel_rfl)) hS ?_
    simp only [Act.put, fl1, fl2, fl3, fl4, fl5, fl6]
    refine held_call 7 rfl (by kernel_rfl) (by kernel_rfl) 40 #[.int .i64 cut, .slice B nb cb] (by kernel_rfl) (R := fun v w' => v = .bool rb ∧ Below y1.heap.size y1 w') ((hrbH.out.symm ▸ rright_calls cut b B nb cb hnb'.out (by omega) y1 (hybw.out.below hS)).mono fun e w' h => ⟨_, h.1, rfl, h.2⟩) ?_
    rintro _ y2 ⟨rfl, hb⟩
    have hS9 : Below w.heap.size w y2 := hS.trans (hb.mono hS.size)
    clear hS
    have hS := hS9
    clear hS9 hb
    refine ⟨hS, ?_⟩
    simp only [Act.put, fl1, fl2, fl3, fl4, fl5, fl6]
    cases rb with
    | false =>
      refine held_take 8 rfl (by kernel_rfl) (by kernel_rfl) (by kernel_rfl) (.bool true) (fun _ _ _ h => nomatch h.1) (by kernel_rfl) (fun w' h => by kernel_rfl) hS ?_
      simp only [Act.put, fl1, fl2, fl3, fl4, fl5, fl6]
      refine held_take 9 rfl (by kernel_rfl) (by kernel_rfl) (by kernel_rfl) (.bool true) (fun _ _ _ h => nomatch h.1) (by kernel_rfl) (fun w' h => (by kernel_rfl)) hS ?_
      simp only [Act.put, fl1, fl2, fl3, fl4, fl5, fl6]
      refine held_take 10 rfl (by kernel_rfl) (by kernel_rfl) (by kernel_rfl) (.bool true) (fun _ _ _ h => nomatch h.1) (by kernel_rfl) (fun w' h => (by kernel_rfl)) hS ?_
      simp only [Act.put, fl1, fl2, fl3, fl4, fl5, fl6]
      refine held_skip 11 rfl (by kernel_rfl) (by kernel_rfl) (by kernel_rfl) (fun _ _ _ h => nomatch h.1) (by kernel_rfl) hS ?_
      simp only [Act.put, fl1, fl2, fl3, fl4, fl5, fl6]
      refine held_skip 12 rfl (by kernel_rfl) (by kernel_rfl) (by kernel_rfl) (fun _ _ _ h => nomatch h.1) (by kernel_rfl) hS ?_
      simp only [Act.put, fl1, fl2, fl3, fl4, fl5, fl6]
      refine held_skip 13 rfl (by kernel_rfl) (by kernel_rfl) (by kernel_rfl) (fun _ _ _ h => nomatch h.1) (by kernel_rfl) hS ?_
      simp only [Act.put, fl1, fl2, fl3, fl4, fl5, fl6]
      refine held_skip 14 rfl (by kernel_rfl) (by kernel_rfl) (by kernel_rfl) (fun _ _ _ h => nomatch h.1) (by kernel_rfl) hS ?_
      simp only [Act.put, fl1, fl2, fl3, fl4, fl5, fl6]
      refine held_skip 15 rfl (by kernel_rfl) (by kernel_rfl) (by kernel_rfl) (fun _ _ _ h => nomatch h.1) (by kernel_rfl) hS ?_
      simp only [Act.put, fl1, fl2, fl3, fl4, fl5, fl6]
      refine held_skip 16 rfl (by kernel_rfl) (by kernel_rfl) (by kernel_rfl) (fun _ _ _ h => nomatch h.1) (by kernel_rfl) hS ?_
      simp only [Act.put, fl1, fl2, fl3, fl4, fl5, fl6]
      refine held_skip 17 rfl (by kernel_rfl) (by kernel_rfl) (by kernel_rfl) (fun _ _ _ h => nomatch h.1) (by kernel_rfl) hS ?_
      simp only [Act.put, fl1, fl2, fl3, fl4, fl5, fl6]
      refine held_skip 18 rfl (by kernel_rfl) (by kernel_rfl) (by kernel_rfl) (fun _ _ _ h => nomatch h.1) (by kernel_rfl) hS ?_
      simp only [Act.put, fl1, fl2, fl3, fl4, fl5, fl6]
      refine held_skip 19 rfl (by kernel_rfl) (by kernel_rfl) (by kernel_rfl) (fun _ _ _ h => nomatch h.1) (by kernel_rfl) hS ?_
      simp only [Act.put, fl1, fl2, fl3, fl4, fl5, fl6]
      refine held_take 20 rfl (by kernel_rfl) (by kernel_rfl) (by kernel_rfl) (.bool true) (fun _ _ _ h => nomatch h.1) (by kernel_rfl) (fun w' h => (by kernel_rfl)) hS ?_
      simp only [Act.put, fl1, fl2, fl3, fl4, fl5, fl6]
      have hF : Hid (Below w.heap.size w y2) := hS
      clear hS
      refine wpAnyH_done (by kernel_rfl) ?_ _
      refine ⟨rfl, ?_⟩
      rename_i hK
      refine hK _ _ ?_
      clear hK
      have hs : clashR cut a b = ([], [], false) := by unfold clashR; rw [if_neg (by rw [← hrbH.out]; simp)]
      have hq := hRH.out
      rw [hs] at hq
      subst hq
      clear hRH hs hyaw hybw hraH hrbH hBw
      go_wp2_with fail
      refine bodyPost_ret (v := .tuple #[.slice none 0 0, .slice none 0 0, .bool false]) (by kernel_rfl) rfl ?_
      exact ⟨_, _, rfl, .inl ⟨none, 0, rfl, rfl, fun _ => rfl⟩, .inl ⟨none, 0, rfl, rfl, fun _ => rfl⟩, hF.out⟩
    | true =>
      refine held_take 8 rfl (by kernel_rfl) (by kernel_rfl) (by kernel_rfl) (.bool false) (fun _ _ _ h => nomatch h.1) (by kernel_rfl) (fun w' h => by kernel_rfl) hS ?_
      simp only [Act.put, fl1, fl2, fl3, fl4, fl5, fl6]
      refine held_take 9 rfl (by kernel_rfl) (by kernel_rfl) (by kernel_rfl) (.bool false) (fun _ _ _ h => nomatch h.1) (by kernel_rfl) (fun w' h => (by kernel_rfl)) hS ?_
      simp only [Act.put, fl1, fl2, fl3, fl4, fl5, fl6]
      refine held_take 10 rfl (by kernel_rfl) (by kernel_rfl) (by kernel_rfl) (.bool false) (fun _ _ _ h => nomatch h.1) (by kernel_rfl) (fun w' h => (by kernel_rfl)) hS ?_
      simp only [Act.put, fl1, fl2, fl3, fl4, fl5, fl6]
      obtain ⟨hc1, hc2⟩ := right_cut hraH.out.symm
      obtain ⟨m, rfl⟩ : ∃ m : Nat, cut = (m : Int) := ⟨cut.toNat, by omega⟩
      have hm1 : 1 ≤ m := by omega
      have hm32 : m ≤ 32 := by omega
      have hR2 : Hid (R = if headP m a na = headP m b nb then match clashK m a b with | some j => (textS m a (a.length - 1 - j), textS m b (b.length - 1 - j), true) | none => ([], [], false) else ([], [], false)) := by
        have h := hRH.out
        unfold clashR at h
        rw [← hraH.out, ← hrbH.out, Int.toNat_natCast, ← hna'.out, ← hnb'.out] at h
        simp only [true_and] at h
        rw [hna'.out, hnb'.out] at h ⊢
        exact h
      clear hRH hraH hrbH hc1 hc2
      refine held_take 11 rfl (by kernel_rfl) (by kernel_rfl) (by kernel_rfl) (.int .i64 (m : Int)) (fun _ _ _ h => nomatch h.1) (by kernel_rfl) (fun w' h => (by kernel_rfl)) hS ?_
      simp only [Act.put, fl1, fl2, fl3, fl4, fl5, fl6]
      refine held_take 12 rfl (by kernel_rfl) (by kernel_rfl) (by kernel_rfl) (.slice A na ca) (fun _ _ _ h => nomatch h.1) (by kernel_rfl) (fun w' h => (by kernel_rfl)) hS ?_
      simp only [Act.put, fl1, fl2, fl3, fl4, fl5, fl6]
      refine held_take 15 rfl (by kernel_rfl) (by kernel_rfl) (by kernel_rfl) (.int .i64 (m : Int)) (fun _ _ _ h => nomatch h.1) (by kernel_rfl) (fun w' h => (by kernel_rfl)) hS ?_
      simp only [Act.put, fl1, fl2, fl3, fl4, fl5, fl6]
      refine held_take 16 rfl (by kernel_rfl) (by kernel_rfl) (by kernel_rfl) (.slice B nb cb) (fun _ _ _ h => nomatch h.1) (by kernel_rfl) (fun w' h => (by kernel_rfl)) hS ?_
      simp only [Act.put, fl1, fl2, fl3, fl4, fl5, fl6]
      refine held_call 13 rfl (by kernel_rfl) (by kernel_rfl) 41 #[.int .i64 (m : Int), .slice A na ca] (by kernel_rfl) (R := fun v w' => Bytes w' v (headP m a na) ∧ Below y2.heap.size y2 w') ((rhead_calls m hm32 a hokaH.out A na ca hna'.out (by omega) y2 (hyaw.out.below hS)).mono fun e w' h => by
        obtain ⟨v, h1, h2, h3⟩ := h
        exact ⟨_, h1, own_bytes h2, h3⟩) ?_
      rintro va y3 ⟨hva, hb⟩
      have hS9 : Below w.heap.size w y3 := hS.trans (hb.mono hS.size)
      clear hS
      have hS := hS9
      clear hS9 hb
      refine ⟨hS, ?_⟩
      simp only [Act.put, fl1, fl2, fl3, fl4, fl5, fl6]
      have hOy3 : Below w.heap.size w y3 := hS
      refine held_mono (S' := fun w' => Below y3.heap.size y3 w') (fun w' h => hOy3.trans (h.mono hOy3.size)) _ _ _ _ ?_
      have hS1 : Below y3.heap.size y3 y3 := Below.refl _ _
      clear hS
      have hS := hS1
      clear hS1
      refine held_take 14 rfl (by kernel_rfl) (by kernel_rfl) (by kernel_rfl) (.string (strB (headP m a na))) (fun _ _ _ h => nomatch h.1) (by kernel_rfl) (fun w' h => exec_convB _ rfl va _ (by kernel_rfl) (hva.below h)) hS ?_
      simp only [Act.put, fl1, fl2, fl3, fl4, fl5, fl6]
      refine held_call 17 rfl (by kernel_rfl) (by kernel_rfl) 41 #[.int .i64 (m : Int), .slice B nb cb] (by kernel_rfl) (R := fun v w' => Bytes w' v (headP m b nb) ∧ Below y3.heap.size y3 w') ((rhead_calls m hm32 b hokbH.out B nb cb hnb'.out (by omega) y3 (hybw.out.below hOy3)).mono fun e w' h => by
        obtain ⟨v, h1, h2, h3⟩ := h
        exact ⟨_, h1, own_bytes h2, h3⟩) ?_
      rintro vb y4 ⟨hvb, hb⟩
      have hS9 : Below y3.heap.size y3 y4 := hS.trans (hb.mono hS.size)
      clear hS
      have hS := hS9
      clear hS9 hb
      refine ⟨hS, ?_⟩
      simp only [Act.put, fl1, fl2, fl3, fl4, fl5, fl6]
      refine held_run 18 rfl (by kernel_rfl) (by kernel_rfl) (.string (strB (headP m b nb))) y4 (exec_convB _ rfl vb _ (by kernel_rfl) hvb) hS ?_
      simp only [Act.put, fl1, fl2, fl3, fl4, fl5, fl6]
      obtain ⟨sm, hsm⟩ : ∃ s, s = decide (headP m a na = headP m b nb) := ⟨_, rfl⟩
      refine held_run 19 rfl (by kernel_rfl) (by kernel_rfl) (.bool (!sm)) y4 (exec_neS 9 _ _ rfl (strB (headP m a na)) (strB (headP m b nb)) (by kernel_rfl) (by kernel_rfl) _ (by rw [strB_eq (headP_lt m a _) (headP_lt m b _), ← hsm])) hS ?_
      simp only [Act.put, fl1, fl2, fl3, fl4, fl5, fl6]
      refine held_run 20 rfl (by kernel_rfl) (by kernel_rfl) (.bool (!sm)) y4 (by kernel_rfl) hS ?_
      simp only [Act.put, fl1, fl2, fl3, fl4, fl5, fl6]
      have hBy4 : Hid (Below w.heap.size w y4) := hOy3.trans (hS.mono hOy3.size)
      clear hS hva hvb hOy3
      refine wpAnyH_done (by kernel_rfl) ?_ _
      refine ⟨rfl, ?_⟩
      rename_i hK
      refine hK _ _ ?_
      clear hK
      cases sm with
      | false =>
        have hq := hR2.out
        rw [if_neg (of_decide_eq_false hsm.symm)] at hq
        subst hq
        clear hR2 hsm hyaw hybw hBw
        go_wp2_with fail
        refine bodyPost_ret (v := .tuple #[.slice none 0 0, .slice none 0 0, .bool false]) (by kernel_rfl) rfl ?_
        exact ⟨_, _, rfl, .inl ⟨none, 0, rfl, rfl, fun _ => rfl⟩, .inl ⟨none, 0, rfl, rfl, fun _ => rfl⟩, hBy4.out⟩
      | true =>
        have hR3 : Hid (R = match clashK m a b with | some j => (textS m a (a.length - 1 - j), textS m b (b.length - 1 - j), true) | none => ([], [], false)) := by
          have hq := hR2.out
          rw [if_pos (of_decide_eq_true hsm.symm)] at hq
          exact hq
        clear hR2 hsm hBw
        simp only [Bool.not_true]
        go_wp2_with fail
        go_loopw [9] (fun p wr => ∃ j : Nat, j ≤ na ∧ j ≤ nb ∧ p = .int .i64 ((j + 1 : Nat) : Int) ∧ Hid (∀ i, i < j → pairK m a b i = true) ∧ Hid (Below w.heap.size w wr)) (fun p _ => na + 1 - (intOf p).toNat)
        case atStart => exact ⟨0, by omega, by omega, rfl, fun i h => by omega, hBy4⟩
        case round =>
          obtain ⟨j, hj1, hj2, rfl, hall, hbw⟩ := hrel
          obtain ⟨wo, rfl⟩ : ∃ v : World, v = wr := ⟨_, rfl⟩
          have hallH : Hid (∀ i, i < j → pairK m a b i = true) := hall
          have hBwo : Hid (Below w.heap.size w wo) := hbw.out
          clear hall hbw hBy4
          obtain ⟨q, hq⟩ : ∃ q, q = j + 1 := ⟨_, rfl⟩
          rw [← hq]
          by_cases h1 : j < na
          case neg =>
            have hI : ¬ (q : Int) ≤ (na : Int) := by omega
            have hn : clashK m a b = none := clashK_none (fun i hi => hallH.out i (by have := hna'.out; omega))
            have hq9 := hR3.out
            rw [hn] at hq9
            subst hq9
            clear hR3 hn hallH hyaw hybw hj1 hj2 h1 hq
            go_wp2_with fail
            refine bodyPost_ret (v := .tuple #[.slice none 0 0, .slice none 0 0, .bool false]) (by kernel_rfl) rfl ?_
            exact ⟨_, _, rfl, .inl ⟨none, 0, rfl, rfl, fun _ => rfl⟩, .inl ⟨none, 0, rfl, rfl, fun _ => rfl⟩, hBwo.out⟩
          case pos =>
          by_cases h2 : j < nb
          case neg =>
            have hI : (q : Int) ≤ (na : Int) := by omega
            have hI2 : ¬ (q : Int) ≤ (nb : Int) := by omega
            have hn : clashK m a b = none := clashK_none (fun i hi => hallH.out i (by have := hnb'.out; omega))
            have hq9 := hR3.out
            rw [hn] at hq9
            subst hq9
            clear hR3 hn hallH hyaw hybw hj1 hj2 h1 h2 hq
            go_wp2_with fail
            refine bodyPost_ret (v := .tuple #[.slice none 0 0, .slice none 0 0, .bool false]) (by kernel_rfl) rfl ?_
            exact ⟨_, _, rfl, .inl ⟨none, 0, rfl, rfl, fun _ => rfl⟩, .inl ⟨none, 0, rfl, rfl, fun _ => rfl⟩, hBwo.out⟩
          case pos =>
          have hI : (q : Int) ≤ (na : Int) := by omega
          have hI2 : (q : Int) ≤ (nb : Int) := by omega
          obtain ⟨ia, hia⟩ : ∃ x, x = na - q := ⟨_, rfl⟩
          obtain ⟨ib, hib⟩ : ∃ x, x = nb - q := ⟨_, rfl⟩
          obtain ⟨Ta, hTa⟩ : ∃ t, t = textS m a ia := ⟨_, rfl⟩
          obtain ⟨Tb, hTb⟩ : ∃ t, t = textS m b ib := ⟨_, rfl⟩
          have hTaH : Hid (Ta = textS m a ia) := hTa
          have hTbH : Hid (Tb = textS m b ib) := hTb
          have hTa2 : Hid (Ta = textS m a (a.length - 1 - j)) := by show _ = _; rw [hTa, ← hna'.out]; congr 1; omega
          have hTb2 : Hid (Tb = textS m b (b.length - 1 - j)) := by show _ = _; rw [hTb, ← hnb'.out]; congr 1; omega
          have hTalt : Hid (∀ y ∈ Ta, y < 256) := by rw [hTa]; exact textS_lt hokaH.out _ (by rw [← hna'.out]; omega)
          have hTblt : Hid (∀ y ∈ Tb, y < 256) := by rw [hTb]; exact textS_lt hokbH.out _ (by rw [← hnb'.out]; omega)
          have hia1 : Hid ((na : Int) - (q : Int) = (ia : Int)) := by show _ = _; omega
          have hib1 : Hid ((nb : Int) - (q : Int) = (ib : Int)) := by show _ = _; omega
          have hian : ia < na := by omega
          have hibn : ib < nb := by omega
          have hq1 : Hid (q + 1 = j + 1 + 1) := by show _ = _; omega
          have hqb : q ≤ 1000000 := by omega
          have hj1' : j + 1 ≤ na := by omega
          have hj2' : j + 1 ≤ nb := by omega
          clear h1 h2 hj1 hj2 hTa hTb hia hib hq
          go_upto_region 6 with fail
          refine wp_region_lit ?_
          refine sl_run rfl (.int .i64 (m : Int)) wo (by kernel_rfl) ?_
          simp only [Act.put, fl1, fl2, fl3]
          refine sl_run rfl (.slice A na ca) wo (by kernel_rfl) ?_
          simp only [Act.put, fl1, fl2, fl3]
          refine sl_run rfl (.slice A na ca) wo (by kernel_rfl) ?_
          simp only [Act.put, fl1, fl2, fl3]
          refine sl_run rfl (.int .i64 (na : Int)) wo (by kernel_rfl) ?_
          simp only [Act.put, fl1, fl2, fl3]
          refine sl_run rfl (.int .i64 (q : Int)) wo (by kernel_rfl) ?_
          simp only [Act.put, fl1, fl2, fl3]
          refine sl_run rfl (.int .i64 (ia : Int)) wo ((exec_subI _ _ rfl (na : Int) (q : Int) (by kernel_rfl) (by kernel_rfl) (by omega) (by omega) _).trans (by rw [hia1.out])) ?_
          simp only [Act.put, fl1, fl2, fl3]
          refine sg_call (by kernel_rfl) 52 #[.int .i64 (m : Int), .slice A na ca, .int .i64 (ia : Int)] (by kernel_rfl) (R := fun v w' => Bytes w' v Ta ∧ Below wo.heap.size wo w') ((Summed_calls m hm32 a hokaH.out A na ca hna'.out (by omega) ia hian wo (hyaw.out.below hBwo.out)).mono fun e w' h => by
            obtain ⟨v, h1, h2, h3⟩ := h
            rw [← hTaH.out] at h2
            exact ⟨_, h1, h2, h3⟩) ?_
          rintro ua w1 ⟨hby, hb⟩
          obtain ⟨Aua, cua, rfl⟩ := hby.form
          simp only [Act.put, fl1, fl2, fl3]
          have hBw1 : Hid (Below w.heap.size w w1) := hBwo.out.trans ((hb).mono (hBwo.out).size)
          clear hBwo
          have huaw1 : Hid (Bytes w1 (.slice Aua Ta.length cua) Ta) := hby
          clear hb hby
          refine sl_run rfl (.int .i64 (m : Int)) w1 (by kernel_rfl) ?_
          simp only [Act.put, fl1, fl2, fl3]
          refine sl_run rfl (.slice B nb cb) w1 (by kernel_rfl) ?_
          simp only [Act.put, fl1, fl2, fl3]
          refine sl_run rfl (.slice B nb cb) w1 (by kernel_rfl) ?_
          simp only [Act.put, fl1, fl2, fl3]
          refine sl_run rfl (.int .i64 (nb : Int)) w1 (by kernel_rfl) ?_
          simp only [Act.put, fl1, fl2, fl3]
          refine sl_run rfl (.int .i64 (q : Int)) w1 (by kernel_rfl) ?_
          simp only [Act.put, fl1, fl2, fl3]
          refine sl_run rfl (.int .i64 (ib : Int)) w1 ((exec_subI _ _ rfl (nb : Int) (q : Int) (by kernel_rfl) (by kernel_rfl) (by omega) (by omega) _).trans (by rw [hib1.out])) ?_
          simp only [Act.put, fl1, fl2, fl3]
          refine sg_call (by kernel_rfl) 52 #[.int .i64 (m : Int), .slice B nb cb, .int .i64 (ib : Int)] (by kernel_rfl) (R := fun v w' => Bytes w' v Tb ∧ Below w1.heap.size w1 w') ((Summed_calls m hm32 b hokbH.out B nb cb hnb'.out (by omega) ib hibn w1 (hybw.out.below hBw1.out)).mono fun e w' h => by
            obtain ⟨v, h1, h2, h3⟩ := h
            rw [← hTbH.out] at h2
            exact ⟨_, h1, h2, h3⟩) ?_
          rintro ub w2 ⟨hby, hb⟩
          obtain ⟨Aub, cub, rfl⟩ := hby.form
          simp only [Act.put, fl1, fl2, fl3]
          have hBw2 : Hid (Below w.heap.size w w2) := hBw1.out.trans ((hb).mono (hBw1.out).size)
          have huaw2 : Hid (Bytes w2 (.slice Aua Ta.length cua) Ta) := (huaw1.out).below hb
          clear hBw1 huaw1
          have hubw2 : Hid (Bytes w2 (.slice Aub Tb.length cub) Tb) := hby
          clear hb hby
          refine sl_run rfl (.slice Aua Ta.length cua) w2 (by kernel_rfl) ?_
          simp only [Act.put, fl1, fl2, fl3]
          refine sl_run rfl (.slice Aub Tb.length cub) w2 (by kernel_rfl) ?_
          simp only [Act.put, fl1, fl2, fl3]
          refine wpList_nil ?_
          obtain ⟨same, hsame⟩ : ∃ s, s = decide (Ta = Tb) := ⟨_, rfl⟩
          go_upto_region 7 with fail
          refine wp_region_lit ?_
          refine sl_run rfl (.slice Aua Ta.length cua) w2 (by kernel_rfl) ?_
          simp only [Act.put, fl1, fl2, fl3]
          refine sl_run rfl (.string (strB Ta)) w2 (exec_convB _ rfl _ Ta (by kernel_rfl) huaw2.out) ?_
          simp only [Act.put, fl1, fl2, fl3]
          refine sl_run rfl (.slice Aub Tb.length cub) w2 (by kernel_rfl) ?_
          simp only [Act.put, fl1, fl2, fl3]
          refine sl_run rfl (.string (strB Tb)) w2 (exec_convB _ rfl _ Tb (by kernel_rfl) hubw2.out) ?_
          simp only [Act.put, fl1, fl2, fl3]
          refine sl_run rfl (.bool (!same)) w2 (exec_neS 9 _ _ rfl (strB Ta) (strB Tb) (by kernel_rfl) (by kernel_rfl) _ (by rw [strB_eq hTalt.out hTblt.out, ← hsame])) ?_
          simp only [Act.put, fl1, fl2, fl3]
          refine wpList_nil ?_
          cases same with
          | false =>
            have hk : clashK m a b = some j := clashK_some (by rw [← hna'.out]; omega) (by rw [← hnb'.out]; omega) hallH.out (by unfold pairK; rw [← hTa2.out, ← hTb2.out]; exact hsame.symm)
            have hq := hR3.out
            rw [hk] at hq
            simp only [← hTa2.out, ← hTb2.out] at hq
            subst hq
            have hF : Hid (Bytes w2 (.slice Aua Ta.length cua) Ta ∧ Bytes w2 (.slice Aub Tb.length cub) Tb ∧ Below w.heap.size w w2) := ⟨huaw2.out, hubw2.out, hBw2.out⟩
            clear hR3 hk hallH hBw2 huaw2 hubw2 hsame hyaw hybw hia1 hib1
            go_wp2_with fail
            refine bodyPost_ret (v := .tuple #[.slice Aua Ta.length cua, .slice Aub Tb.length cub, .bool true]) (by kernel_rfl) rfl ?_
            exact ⟨_, _, rfl, hF.out⟩
          | true =>
            have hall2 : Hid (∀ i, i < j + 1 → pairK m a b i = true) := fun i hi => by
              by_cases e : i < j
              · exact hallH.out i e
              · obtain rfl : i = j := by omega
                unfold pairK; rw [← hTa2.out, ← hTb2.out]; exact hsame.symm
            clear hsame hallH hTa2 hTb2 huaw2 hubw2 hTalt hTblt hia1 hib1
            go_wp2_with fail
            go_roundw
            case rel => exact ⟨j + 1, hj1', hj2', by rw [← hq1.out]; go_num, hall2, hBw2⟩
            case measure => simp [intOf]; omega
end Go.Proofs.YtadopkifpfmhcaaDoor
namespace Go.Proofs.YtadopkifpfmhcaaDoor
open Go.RowKit
open Sha (vals Bytes Lies bytesC sumB)
open Go.Proofs.YtadopkifpfmhcaaDoorW.PrintWords Go.Proofs.YtadopkifpfmhcaaDoorW.PrintLast Go.Proofs.YtadopkifpfmhcaaDoorW.PrintMore
theorem exec_eqB {o : Oper} {a : Act} {w : World} (x y : Operand) (ho : o.op = .binOp .eql 4 x y 4) (u v : Bool) (hx : a.eval x = .bool u) (hy : a.eval y = .bool v) (b : Bool) (hb : (u == v) = b) : (execOp a.eval o).run Tryd.prog w = .ok (.value (.bool b)) w := by
  have hr : (binOp .eql 4 (.bool u) (.bool v)).run Tryd.prog w = .ok (.bool (u == v)) w := by cases u <;> cases v <;> kernel_rfl
  subst hb; unfold execOp
  simp [ho, hx, hy, eqGuard, hr]
set_option maxRecDepth 100000 in
set_option maxHeartbeats 8000000 in
theorem lbytes_calls (i : Int) (hi : i < 9223372036854775808) (e : En) (he : e.ok) (w : World) (ht : Tab w) : Calls Tryd.prog 3 #[.int .i64 i, .agg (encE e)] w fun z w' => z = .returned (.bool true) ∧ Below w.heap.size w w' := by
  have htH : Hid (Tab w) := ht
  have heH : Hid e.ok := he
  obtain ⟨R, hR⟩ : ∃ R, R = bytesS i e := ⟨_, rfl⟩
  obtain ⟨lr, er⟩ := R
  have hRH : Hid ((lr, er) = bytesS i e) := hR
  clear ht he hR
  go_enter Tryd.func3, Tryd.ntmps3
  go_upto_region 1 with fail
  generalize hW : World.alloc _ _ = W
  have hW0 : W.heap[w.heap.size]? = some (.cells (encE e) 24 (0, 0)) := by rw [← hW]; exact heap_alloc_new _ _
  have hWB : Below w.heap.size w W := by rw [← hW]; exact (Below.refl _ _).alloc (Nat.le_refl _) _
  clear hW
  obtain ⟨B, hB⟩ : ∃ B, B = w.heap.size := ⟨_, rfl⟩
  rw [← hB] at hW0 ⊢
  have hSW : Hid (BS w B e W) := ⟨hW0, hWB⟩
  clear hW0 hWB hB
  refine wp_region_lit ?_
  refine sl_run rfl (.int .i64 i) W (by kernel_rfl) ?_
  simp only [Act.put, fl1, fl2, fl3]
  refine sg_run (by kernel_rfl) (.agg (encE e)) W (exec_load_row 24 W _ rfl B (by kernel_rfl) 24 (encE e) (0, 0) _ hSW.out.box Tryd.underlying24 rfl (by rw [encE_size']; kernel_rfl)) ?_
  simp only [Act.put, fl1, fl2, fl3]
  refine sg_call (by kernel_rfl) 11 #[.int .i64 i, .agg (encE e)] (by kernel_rfl) (R := fun v w' => ∃ u, v = .tuple #[u, .int .i64 (er : Int)] ∧ Bytes w' u lr ∧ Below W.heap.size W w') ((chbytes_calls i hi e heH.out W).mono fun e w' h => by
    obtain ⟨v, h1, h2, h3⟩ := h
    rw [← hRH.out] at h1 h2
    exact ⟨_, h1, v, rfl, h2, h3⟩) ?_
  rintro _ w1 ⟨u1, rfl, hby, hb⟩
  simp only [Act.put, fl1, fl2, fl3]
  have hSw1 : Hid (BS w B e w1) := (hSW.out).below hb
  clear hSW
  have hu1w1 : Hid (Bytes w1 u1 lr) := hby
  clear hb hby
  refine sl_run rfl (.tuple #[u1, .int .i64 (er : Int)]) w1 (by kernel_rfl) ?_
  simp only [Act.put, fl1, fl2, fl3]
  refine sl_run rfl (u1) w1 (by kernel_rfl) ?_
  simp only [Act.put, fl1, fl2, fl3]
  refine sl_run rfl (.int .i64 (er : Int)) w1 (by kernel_rfl) ?_
  simp only [Act.put, fl1, fl2, fl3]
  refine sl_run rfl (u1) w1 (by kernel_rfl) ?_
  simp only [Act.put, fl1, fl2, fl3]
  refine sl_run rfl (.int .i64 (er : Int)) w1 (by kernel_rfl) ?_
  simp only [Act.put, fl1, fl2, fl3]
  refine wpList_nil ?_
  go_upto_region 2 with fail
  refine wp_region_lit ?_
  refine sl_run rfl (.int .i64 i) w1 (by kernel_rfl) ?_
  simp only [Act.put, fl1, fl2, fl3]
  refine sg_run (by kernel_rfl) (.agg (encE e)) w1 (exec_load_row 24 w1 _ rfl B (by kernel_rfl) 24 (encE e) (0, 0) _ hSw1.out.box Tryd.underlying24 rfl (by rw [encE_size']; kernel_rfl)) ?_
  simp only [Act.put, fl1, fl2, fl3]
  refine sg_call (by kernel_rfl) 12 #[.int .i64 i, .agg (encE e)] (by kernel_rfl) (R := fun v w' => ∃ u, v = .tuple #[u, .int .i64 (er : Int)] ∧ Bytes w' u lr ∧ Below w1.heap.size w1 w') ((rbytes_calls i hi e heH.out w1).mono fun e w' h => by
    obtain ⟨v, h1, h2, h3⟩ := h
    rw [← hRH.out] at h1 h2
    exact ⟨_, h1, v, rfl, h2, h3⟩) ?_
  rintro _ w2 ⟨u2, rfl, hby, hb⟩
  simp only [Act.put, fl1, fl2, fl3]
  have hSw2 : Hid (BS w B e w2) := (hSw1.out).below hb
  have hu1w2 : Hid (Bytes w2 u1 lr) := (hu1w1.out).below hb
  clear hSw1 hu1w1
  have hu2w2 : Hid (Bytes w2 u2 lr) := hby
  clear hb hby
  refine sl_run rfl (.tuple #[u2, .int .i64 (er : Int)]) w2 (by kernel_rfl) ?_
  simp only [Act.put, fl1, fl2, fl3]
  refine sl_run rfl (u2) w2 (by kernel_rfl) ?_
  simp only [Act.put, fl1, fl2, fl3]
  refine sl_run rfl (.int .i64 (er : Int)) w2 (by kernel_rfl) ?_
  simp only [Act.put, fl1, fl2, fl3]
  refine sl_run rfl (u2) w2 (by kernel_rfl) ?_
  simp only [Act.put, fl1, fl2, fl3]
  refine sl_run rfl (.int .i64 (er : Int)) w2 (by kernel_rfl) ?_
  simp only [Act.put, fl1, fl2, fl3]
  refine wpList_nil ?_
  go_upto_region 3 with fail
  refine wp_normalG ?_
  refine wp_region_held_drew (S := fun w' => Below w2.heap.size w2 w') (by kernel_rfl) (Below.refl _ _).drew (fun hS => ?_)
  change wpAnyH _ _ _ _ _ 21 (Array.replicate 21 false) _ _
  generalize hx : w2.drew = y at hS ⊢
  clear hx
  have hwl : 0 < y.heap.size := Nat.lt_of_lt_of_le htH.out.1 (Nat.le_trans hSw2.out.bel.size hS.size)
  refine held_call 0 rfl (by kernel_rfl) (by kernel_rfl) 13 #[] (by kernel_rfl) (R := fun v w' => v = .bool true ∧ Below y.heap.size y w') ((fixed_calls y hwl (htH.out.below htH.out.1 (hSw2.out.bel.trans (hS.mono hSw2.out.bel.size)))).mono fun e w' h => ⟨_, h.1, rfl, h.2⟩) ?_
  rintro _ y1 ⟨rfl, hb⟩
  have hS9 : Below w2.heap.size w2 y1 := hS.trans (hb.mono hS.size)
  clear hS
  have hS := hS9
  clear hS9 hb
  refine ⟨hS, ?_⟩
  simp only [Act.put, fl1, fl2, fl3, fl4, fl5, fl6]
  refine held_take 1 rfl (by kernel_rfl) (by kernel_rfl) (by kernel_rfl) (.bool true) (fun _ _ _ h => nomatch h.1) (by kernel_rfl) (fun w' h => (by kernel_rfl)) hS ?_
  simp only [Act.put, fl1, fl2, fl3, fl4, fl5, fl6]
  refine held_take 2 rfl (by kernel_rfl) (by kernel_rfl) (by kernel_rfl) (.int .i64 (er : Int)) (fun _ _ _ h => nomatch h.1) (by kernel_rfl) (fun w' h => (by kernel_rfl)) hS ?_
  simp only [Act.put, fl1, fl2, fl3, fl4, fl5, fl6]
  refine held_take 3 rfl (by kernel_rfl) (by kernel_rfl) (by kernel_rfl) (.int .i64 (er : Int)) (fun _ _ _ h => nomatch h.1) (by kernel_rfl) (fun w' h => (by kernel_rfl)) hS ?_
  simp only [Act.put, fl1, fl2, fl3, fl4, fl5, fl6]
  refine held_take 4 rfl (by kernel_rfl) (by kernel_rfl) (by kernel_rfl) (.bool true) (fun _ _ _ h => nomatch h.1) (by kernel_rfl) (fun w' h => exec_eqI 3 _ _ rfl (er : Int) (er : Int) (by kernel_rfl) (by kernel_rfl) true (by simp)) hS ?_
  simp only [Act.put, fl1, fl2, fl3, fl4, fl5, fl6]
  refine held_take 5 rfl (by kernel_rfl) (by kernel_rfl) (by kernel_rfl) (.bool true) (fun _ _ _ h => nomatch h.1) (by kernel_rfl) (fun w' h => (by kernel_rfl)) hS ?_
  simp only [Act.put, fl1, fl2, fl3, fl4, fl5, fl6]
  refine held_take 6 rfl (by kernel_rfl) (by kernel_rfl) (by kernel_rfl) (.bool true) (fun _ _ _ h => nomatch h.1) (by kernel_rfl) (fun w' h => (by kernel_rfl)) hS ?_
  simp only [Act.put, fl1, fl2, fl3, fl4, fl5, fl6]
  refine held_take 7 rfl (by kernel_rfl) (by kernel_rfl) (by kernel_rfl) (u1) (fun _ _ _ h => nomatch h.1) (by kernel_rfl) (fun w' h => (by kernel_rfl)) hS ?_
  simp only [Act.put, fl1, fl2, fl3, fl4, fl5, fl6]
  refine held_take 8 rfl (by kernel_rfl) (by kernel_rfl) (by kernel_rfl) (.string (strB lr)) (fun _ _ _ h => nomatch h.1) (by kernel_rfl) (fun w' h => exec_convB _ rfl u1 lr (by kernel_rfl) (hu1w2.out.below h)) hS ?_
  simp only [Act.put, fl1, fl2, fl3, fl4, fl5, fl6]
  refine held_take 9 rfl (by kernel_rfl) (by kernel_rfl) (by kernel_rfl) (u2) (fun _ _ _ h => nomatch h.1) (by kernel_rfl) (fun w' h => (by kernel_rfl)) hS ?_
  simp only [Act.put, fl1, fl2, fl3, fl4, fl5, fl6]
  refine held_take 10 rfl (by kernel_rfl) (by kernel_rfl) (by kernel_rfl) (.string (strB lr)) (fun _ _ _ h => nomatch h.1) (by kernel_rfl) (fun w' h => exec_convB _ rfl u2 lr (by kernel_rfl) (hu2w2.out.below h)) hS ?_
  simp only [Act.put, fl1, fl2, fl3, fl4, fl5, fl6]
  refine held_take 11 rfl (by kernel_rfl) (by kernel_rfl) (by kernel_rfl) (.bool true) (fun _ _ _ h => nomatch h.1) (by kernel_rfl) (fun w' h => exec_eqS 9 _ _ rfl (strB lr) (strB lr) (by kernel_rfl) (by kernel_rfl) true (by simp)) hS ?_
  simp only [Act.put, fl1, fl2, fl3, fl4, fl5, fl6]
  refine held_take 12 rfl (by kernel_rfl) (by kernel_rfl) (by kernel_rfl) (.bool true) (fun _ _ _ h => nomatch h.1) (by kernel_rfl) (fun w' h => (by kernel_rfl)) hS ?_
  simp only [Act.put, fl1, fl2, fl3, fl4, fl5, fl6]
  refine held_take 13 rfl (by kernel_rfl) (by kernel_rfl) (by kernel_rfl) (.bool true) (fun _ _ _ h => nomatch h.1) (by kernel_rfl) (fun w' h => (by kernel_rfl)) hS ?_
  simp only [Act.put, fl1, fl2, fl3, fl4, fl5, fl6]
  refine held_take 14 rfl (by kernel_rfl) (by kernel_rfl) (by kernel_rfl) (.agg (encE e)) (fun _ _ _ h => nomatch h.1) (by kernel_rfl) (fun w' h => (exec_load_row 24 w' _ rfl B (by kernel_rfl) 24 (encE e) (0, 0) _ (heap_kept hSw2.out.box h) Tryd.underlying24 rfl (by rw [encE_size']; kernel_rfl))) hS ?_
  simp only [Act.put, fl1, fl2, fl3, fl4, fl5, fl6]
  refine held_take 16 rfl (by kernel_rfl) (by kernel_rfl) (by kernel_rfl) (.agg (encE e)) (fun _ _ _ h => nomatch h.1) (by kernel_rfl) (fun w' h => (exec_load_row 24 w' _ rfl B (by kernel_rfl) 24 (encE e) (0, 0) _ (heap_kept hSw2.out.box h) Tryd.underlying24 rfl (by rw [encE_size']; kernel_rfl))) hS ?_
  simp only [Act.put, fl1, fl2, fl3, fl4, fl5, fl6]
  obtain ⟨gd, hgd⟩ : ∃ b, b = goodE e := ⟨_, rfl⟩
  refine held_call 15 rfl (by kernel_rfl) (by kernel_rfl) 14 #[.agg (encE e)] (by kernel_rfl) (R := fun v w' => v = .bool gd ∧ Below y1.heap.size y1 w') ((hgd ▸ good_calls e y1).mono fun e w' h => ⟨_, h.1, rfl, h.2⟩) ?_
  rintro _ y2 ⟨rfl, hb⟩
  have hS9 : Below w2.heap.size w2 y2 := hS.trans (hb.mono hS.size)
  clear hS
  have hS := hS9
  clear hS9 hb
  refine ⟨hS, ?_⟩
  simp only [Act.put, fl1, fl2, fl3, fl4, fl5, fl6]
  refine held_call 17 rfl (by kernel_rfl) (by kernel_rfl) 15 #[.agg (encE e)] (by kernel_rfl) (R := fun v w' => v = .bool gd ∧ Below y2.heap.size y2 w') ((hgd ▸ rgood_calls e y2).mono fun e w' h => ⟨_, h.1, rfl, h.2⟩) ?_
  rintro _ y3 ⟨rfl, hb⟩
  have hS9 : Below w2.heap.size w2 y3 := hS.trans (hb.mono hS.size)
  clear hS
  have hS := hS9
  clear hS9 hb
  refine ⟨hS, ?_⟩
  simp only [Act.put, fl1, fl2, fl3, fl4, fl5, fl6]
  refine held_take 18 rfl (by kernel_rfl) (by kernel_rfl) (by kernel_rfl) (.bool true) (fun _ _ _ h => nomatch h.1) (by kernel_rfl) (fun w' h => exec_eqB _ _ rfl gd gd (by kernel_rfl) (by kernel_rfl) true (by simp)) hS ?_
  simp only [Act.put, fl1, fl2, fl3, fl4, fl5, fl6]
  refine held_take 19 rfl (by kernel_rfl) (by kernel_rfl) (by kernel_rfl) (.bool true) (fun _ _ _ h => nomatch h.1) (by kernel_rfl) (fun w' h => (by kernel_rfl)) hS ?_
  simp only [Act.put, fl1, fl2, fl3, fl4, fl5, fl6]
  refine held_take 20 rfl (by kernel_rfl) (by kernel_rfl) (by kernel_rfl) (.bool true) (fun _ _ _ h => nomatch h.1) (by kernel_rfl) (fun w' h => (by kernel_rfl)) hS ?_
  simp only [Act.put, fl1, fl2, fl3, fl4, fl5, fl6]
  have hF : Hid (Below w.heap.size w y3) := hSw2.out.bel.trans (hS.mono hSw2.out.bel.size)
  clear hS hSw2 hu1w2 hu2w2
  refine wpAnyH_done (by kernel_rfl) ?_ _
  refine ⟨rfl, ?_⟩
  rename_i hK
  refine hK _ _ ?_
  clear hK
  go_wp2_with fail
  go_ret
  exact ⟨rfl, hF.out⟩
end Go.Proofs.YtadopkifpfmhcaaDoor
namespace Go.Proofs.YtadopkifpfmhcaaDoor
open Go.RowKit
open Sha (vals Bytes Lies bytesC sumB)
open Go.Proofs.YtadopkifpfmhcaaDoorW.PrintWords Go.Proofs.YtadopkifpfmhcaaDoorW.PrintLast Go.Proofs.YtadopkifpfmhcaaDoorW.PrintMore
set_option maxRecDepth 100000 in
set_option maxHeartbeats 16000000 in
theorem lclashes_calls (cut : Int) (a b : List En) (hoka : ∀ x ∈ a, x.ok) (hokb : ∀ x ∈ b, x.ok) (A : Option Addr) (na ca : Nat) (hna : na = a.length) (B : Option Addr) (nb cb : Nat) (hnb : nb = b.length) (w : World) (ht : Tab w) (hya : Rw 35 encE w (.slice A na ca) a) (hyb : Rw 35 encE w (.slice B nb cb) b) :
    Calls Tryd.prog 8 #[.int .i64 cut, .slice A na ca, .slice B nb cb] w fun z w' => z = .returned (.bool true) ∧ Below w.heap.size w w' := by
  have htH : Hid (Tab w) := ht
  have hyaw : Hid (Rw 35 encE w (.slice A na ca) a) := hya
  have hybw : Hid (Rw 35 encE w (.slice B nb cb) b) := hyb
  have hBw : Hid (Below w.heap.size w w) := Below.refl _ _
  have hokaH : Hid (∀ x ∈ a, x.ok) := hoka
  have hokbH : Hid (∀ x ∈ b, x.ok) := hokb
  have hna' : Hid (na = a.length) := hna
  have hnb' : Hid (nb = b.length) := hnb
  obtain ⟨p, q, r, hR⟩ : ∃ p q r, clashR cut a b = (p, q, r) := ⟨_, _, _, rfl⟩
  have hRH : Hid (clashR cut a b = (p, q, r)) := hR
  clear hya hyb hoka hokb hR ht hna hnb
  go_enter Tryd.func8, Tryd.ntmps8
  go_upto_region 1 with fail
  refine wp_region_lit ?_
  refine sg_call (by kernel_rfl) 13 #[] (by kernel_rfl) (R := fun v w' => v = .bool true ∧ Below w.heap.size w w') ((fixed_calls w htH.out.1 htH.out).mono fun e w' h => ⟨_, h.1, rfl, h.2⟩) ?_
  rintro _ w1 ⟨rfl, hb⟩
  simp only [Act.put, fl1, fl2, fl3]
  have hBw1 : Hid (Below w.heap.size w w1) := hBw.out.trans ((hb).mono (hBw.out).size)
  have hyaw1 : Hid (Rw 35 encE w1 (.slice A na ca) a) := (hyaw.out).below hb
  have hybw1 : Hid (Rw 35 encE w1 (.slice B nb cb) b) := (hybw.out).below hb
  clear hBw hyaw hybw
  clear hb
  refine sl_run rfl (.bool false) w1 (by kernel_rfl) ?_
  simp only [Act.put, fl1, fl2, fl3]
  refine wpList_nil ?_
  by_cases h20 : 20 < na
  · have hI : (na : Int) > 20 := by omega
    have hF := hBw1
    clear hBw1 hyaw1 hybw1
    go_wp2_with fail
    go_ret
    exact ⟨rfl, hF.out⟩
  have hI : ¬ (na : Int) > 20 := by omega
  by_cases h21 : 20 < nb
  · have hI2 : (nb : Int) > 20 := by omega
    have hF := hBw1
    clear hBw1 hyaw1 hybw1
    go_wp2_with fail
    go_ret
    exact ⟨rfl, hF.out⟩
  have hI2 : ¬ (nb : Int) > 20 := by omega
  obtain rfl : na = a.length := hna'.out
  obtain rfl : nb = b.length := hnb'.out
  have hna9 : a.length ≤ 20 := by omega
  have hnb9 : b.length ≤ 20 := by omega
  clear h20 h21 hna' hnb'
  go_upto_region 5 with fail
  refine wp_region_lit ?_
  refine sl_run rfl (.int .i64 cut) w1 (by kernel_rfl) ?_
  simp only [Act.put, fl1, fl2, fl3]
  refine sg_run (by kernel_rfl) (.slice (some ⟨w1.heap.size, 0, none⟩) 0 0) (w1.alloc (.cells #[] 24)) (by kernel_rfl) ?_
  simp only [Act.put, fl1, fl2, fl3]
  refine sl_run rfl (.slice A a.length ca) (w1.alloc (.cells #[] 24)) (by kernel_rfl) ?_
  simp only [Act.put, fl1, fl2, fl3]
  obtain ⟨i24, z24, hi24, hz24, hs24, hb24, hc24⟩ := inf24p
  refine appendRw (k := 35) (enc := encE) 34 24 72 i24 z24 un34 hi24 hz24 hs24 hb24 hc24 (by decide) encE_size' encE_one rfl _ _ rfl w1.heap.size (.slice (some ⟨w1.heap.size, 0, none⟩) 0 0) [] a (by kernel_rfl) (World.ownsRow_made w1 #[] 0 (Nat.le_refl _) (by decide) rfl) (.slice A a.length ca) (by kernel_rfl) (hyaw1.out.below ((Below.refl _ _).alloc (Nat.le_refl _) _)) (by simp; omega) (by simp; omega) (by simp) (fun v9 w2 hown9 hgr9 => ?_)
  clear hi24 hz24 hs24 hb24 hc24
  rw [List.nil_append] at hown9
  have hb : Below w1.heap.size w1 w2 := ((Below.refl _ _).alloc (Nat.le_refl _) _).grown hgr9 (by simp) (fun q hq => by simp [Value.ownBlock] at hq; omega)
  obtain ⟨Ahca, chca, rfl⟩ := own_form hown9
  simp only [Act.put, fl1, fl2, fl3]
  have hBw2 : Hid (Below w.heap.size w w2) := hBw1.out.trans ((hb).mono (hBw1.out).size)
  have hyaw2 : Hid (Rw 35 encE w2 (.slice A a.length ca) a) := (hyaw1.out).below hb
  have hybw2 : Hid (Rw 35 encE w2 (.slice B b.length cb) b) := (hybw1.out).below hb
  clear hBw1 hyaw1 hybw1
  have hcaw2 : Hid (Rw 35 encE w2 (.slice Ahca a.length chca) a) := Rw.own encE_size' (by decide) hown9
  clear hb hown9 hgr9
  refine sg_run (by kernel_rfl) (.slice (some ⟨w2.heap.size, 0, none⟩) 0 0) (w2.alloc (.cells #[] 24)) (by kernel_rfl) ?_
  simp only [Act.put, fl1, fl2, fl3]
  refine sl_run rfl (.slice B b.length cb) (w2.alloc (.cells #[] 24)) (by kernel_rfl) ?_
  simp only [Act.put, fl1, fl2, fl3]
  obtain ⟨i24, z24, hi24, hz24, hs24, hb24, hc24⟩ := inf24p
  refine appendRw (k := 35) (enc := encE) 34 24 72 i24 z24 un34 hi24 hz24 hs24 hb24 hc24 (by decide) encE_size' encE_one rfl _ _ rfl w2.heap.size (.slice (some ⟨w2.heap.size, 0, none⟩) 0 0) [] b (by kernel_rfl) (World.ownsRow_made w2 #[] 0 (Nat.le_refl _) (by decide) rfl) (.slice B b.length cb) (by kernel_rfl) (hybw2.out.below ((Below.refl _ _).alloc (Nat.le_refl _) _)) (by simp; omega) (by simp; omega) (by simp) (fun v9 w3 hown9 hgr9 => ?_)
  clear hi24 hz24 hs24 hb24 hc24
  rw [List.nil_append] at hown9
  have hb : Below w2.heap.size w2 w3 := ((Below.refl _ _).alloc (Nat.le_refl _) _).grown hgr9 (by simp) (fun q hq => by simp [Value.ownBlock] at hq; omega)
  obtain ⟨Ahcb, chcb, rfl⟩ := own_form hown9
  simp only [Act.put, fl1, fl2, fl3]
  have hBw3 : Hid (Below w.heap.size w w3) := hBw2.out.trans ((hb).mono (hBw2.out).size)
  have hyaw3 : Hid (Rw 35 encE w3 (.slice A a.length ca) a) := (hyaw2.out).below hb
  have hybw3 : Hid (Rw 35 encE w3 (.slice B b.length cb) b) := (hybw2.out).below hb
  have hcaw3 : Hid (Rw 35 encE w3 (.slice Ahca a.length chca) a) := (hcaw2.out).below hb
  clear hBw2 hyaw2 hybw2 hcaw2
  have hcbw3 : Hid (Rw 35 encE w3 (.slice Ahcb b.length chcb) b) := Rw.own encE_size' (by decide) hown9
  clear hb hown9 hgr9
  refine sg_call (by kernel_rfl) 27 #[.int .i64 cut, .slice Ahca a.length chca, .slice Ahcb b.length chcb] (by kernel_rfl) (R := fun z w' => ∃ u v, z = .tuple #[u, v, .bool r] ∧ Bytes w' u p ∧ Bytes w' v q ∧ Below w3.heap.size w3 w') ((Clash_calls cut a b hokaH.out hokbH.out Ahca a.length chca rfl (by omega) Ahcb b.length chcb rfl (by omega) w3 hcaw3.out hcbw3.out).mono fun e w' h => by
    obtain ⟨u, v, h1, h2, h3, h4⟩ := h
    rw [hRH.out] at h1 h2 h3
    exact ⟨_, h1, u, v, rfl, h2, h3, h4⟩) ?_
  rintro _ w4 ⟨u1, v1, rfl, hbu, hbv, hb⟩
  simp only [Act.put, fl1, fl2, fl3]
  have hBw4 : Hid (Below w.heap.size w w4) := hBw3.out.trans ((hb).mono (hBw3.out).size)
  have hyaw4 : Hid (Rw 35 encE w4 (.slice A a.length ca) a) := (hyaw3.out).below hb
  have hybw4 : Hid (Rw 35 encE w4 (.slice B b.length cb) b) := (hybw3.out).below hb
  have hcaw4 : Hid (Rw 35 encE w4 (.slice Ahca a.length chca) a) := (hcaw3.out).below hb
  have hcbw4 : Hid (Rw 35 encE w4 (.slice Ahcb b.length chcb) b) := (hcbw3.out).below hb
  clear hBw3 hyaw3 hybw3 hcaw3 hcbw3
  have hu1w4 : Hid (Bytes w4 u1 p) := hbu
  have hv1w4 : Hid (Bytes w4 v1 q) := hbv
  clear hb hbu hbv
  refine sl_run rfl (.tuple #[u1, v1, .bool r]) w4 (by kernel_rfl) ?_
  simp only [Act.put, fl1, fl2, fl3]
  refine sl_run rfl (u1) w4 (by kernel_rfl) ?_
  simp only [Act.put, fl1, fl2, fl3]
  refine sl_run rfl (v1) w4 (by kernel_rfl) ?_
  simp only [Act.put, fl1, fl2, fl3]
  refine sl_run rfl (.bool r) w4 (by kernel_rfl) ?_
  simp only [Act.put, fl1, fl2, fl3]
  refine sl_run rfl (u1) w4 (by kernel_rfl) ?_
  simp only [Act.put, fl1, fl2, fl3]
  refine sl_run rfl (v1) w4 (by kernel_rfl) ?_
  simp only [Act.put, fl1, fl2, fl3]
  refine sl_run rfl (.bool r) w4 (by kernel_rfl) ?_
  simp only [Act.put, fl1, fl2, fl3]
  refine wpList_nil ?_
  go_upto_region 6 with fail
  refine wp_region_lit ?_
  refine sl_run rfl (.int .i64 cut) w4 (by kernel_rfl) ?_
  simp only [Act.put, fl1, fl2, fl3]
  refine sl_run rfl (.slice A a.length ca) w4 (by kernel_rfl) ?_
  simp only [Act.put, fl1, fl2, fl3]
  refine sl_run rfl (.slice B b.length cb) w4 (by kernel_rfl) ?_
  simp only [Act.put, fl1, fl2, fl3]
  refine sg_call (by kernel_rfl) 28 #[.int .i64 cut, .slice A a.length ca, .slice B b.length cb] (by kernel_rfl) (R := fun z w' => ∃ u v, z = .tuple #[u, v, .bool r] ∧ Bytes w' u p ∧ Bytes w' v q ∧ Below w4.heap.size w4 w') ((rClash_calls cut a b hokaH.out hokbH.out A a.length ca rfl (by omega) B b.length cb rfl (by omega) w4 hyaw4.out hybw4.out).mono fun e w' h => by
    obtain ⟨u, v, h1, h2, h3, h4⟩ := h
    rw [hRH.out] at h1 h2 h3
    exact ⟨_, h1, u, v, rfl, h2, h3, h4⟩) ?_
  rintro _ w5 ⟨u2, v2, rfl, hbu, hbv, hb⟩
  simp only [Act.put, fl1, fl2, fl3]
  have hBw5 : Hid (Below w.heap.size w w5) := hBw4.out.trans ((hb).mono (hBw4.out).size)
  have hyaw5 : Hid (Rw 35 encE w5 (.slice A a.length ca) a) := (hyaw4.out).below hb
  have hybw5 : Hid (Rw 35 encE w5 (.slice B b.length cb) b) := (hybw4.out).below hb
  have hcaw5 : Hid (Rw 35 encE w5 (.slice Ahca a.length chca) a) := (hcaw4.out).below hb
  have hcbw5 : Hid (Rw 35 encE w5 (.slice Ahcb b.length chcb) b) := (hcbw4.out).below hb
  have hu1w5 : Hid (Bytes w5 u1 p) := (hu1w4.out).below hb
  have hv1w5 : Hid (Bytes w5 v1 q) := (hv1w4.out).below hb
  clear hBw4 hyaw4 hybw4 hcaw4 hcbw4 hu1w4 hv1w4
  have hu2w5 : Hid (Bytes w5 u2 p) := hbu
  have hv2w5 : Hid (Bytes w5 v2 q) := hbv
  clear hb hbu hbv
  refine sl_run rfl (.tuple #[u2, v2, .bool r]) w5 (by kernel_rfl) ?_
  simp only [Act.put, fl1, fl2, fl3]
  refine sl_run rfl (u2) w5 (by kernel_rfl) ?_
  simp only [Act.put, fl1, fl2, fl3]
  refine sl_run rfl (v2) w5 (by kernel_rfl) ?_
  simp only [Act.put, fl1, fl2, fl3]
  refine sl_run rfl (.bool r) w5 (by kernel_rfl) ?_
  simp only [Act.put, fl1, fl2, fl3]
  refine sl_run rfl (u2) w5 (by kernel_rfl) ?_
  simp only [Act.put, fl1, fl2, fl3]
  refine sl_run rfl (v2) w5 (by kernel_rfl) ?_
  simp only [Act.put, fl1, fl2, fl3]
  refine sl_run rfl (.bool r) w5 (by kernel_rfl) ?_
  simp only [Act.put, fl1, fl2, fl3]
  refine wpList_nil ?_
  go_upto_region 7 with fail
  refine wp_region_lit ?_
  refine sl_run rfl (.bool r) w5 (by kernel_rfl) ?_
  simp only [Act.put, fl1, fl2, fl3]
  refine sl_run rfl (.bool r) w5 (by kernel_rfl) ?_
  simp only [Act.put, fl1, fl2, fl3]
  refine sl_run rfl (.bool true) w5 (exec_eqB _ _ rfl r r (by kernel_rfl) (by kernel_rfl) true (by simp)) ?_
  simp only [Act.put, fl1, fl2, fl3]
  refine sl_run rfl (.bool true) w5 (by kernel_rfl) ?_
  simp only [Act.put, fl1, fl2, fl3]
  refine sg_run (by kernel_rfl) (u1) w5 (by kernel_rfl) ?_
  simp only [Act.put, fl1, fl2, fl3]
  refine sg_run (by kernel_rfl) (.string (strB p)) w5 (exec_convB _ rfl u1 p (by kernel_rfl) hu1w5.out) ?_
  simp only [Act.put, fl1, fl2, fl3]
  refine sg_run (by kernel_rfl) (u2) w5 (by kernel_rfl) ?_
  simp only [Act.put, fl1, fl2, fl3]
  refine sg_run (by kernel_rfl) (.string (strB p)) w5 (exec_convB _ rfl u2 p (by kernel_rfl) hu2w5.out) ?_
  simp only [Act.put, fl1, fl2, fl3]
  refine sg_run (by kernel_rfl) (.bool true) w5 (exec_eqS 9 _ _ rfl (strB p) (strB p) (by kernel_rfl) (by kernel_rfl) true (by simp)) ?_
  simp only [Act.put, fl1, fl2, fl3]
  refine sl_run rfl (.bool true) w5 (by kernel_rfl) ?_
  simp only [Act.put, fl1, fl2, fl3]
  refine sl_run rfl (.bool true) w5 (by kernel_rfl) ?_
  simp only [Act.put, fl1, fl2, fl3]
  refine sg_run (by kernel_rfl) (v1) w5 (by kernel_rfl) ?_
  simp only [Act.put, fl1, fl2, fl3]
  refine sg_run (by kernel_rfl) (.string (strB q)) w5 (exec_convB _ rfl v1 q (by kernel_rfl) hv1w5.out) ?_
  simp only [Act.put, fl1, fl2, fl3]
  refine sg_run (by kernel_rfl) (v2) w5 (by kernel_rfl) ?_
  simp only [Act.put, fl1, fl2, fl3]
  refine sg_run (by kernel_rfl) (.string (strB q)) w5 (exec_convB _ rfl v2 q (by kernel_rfl) hv2w5.out) ?_
  simp only [Act.put, fl1, fl2, fl3]
  refine sg_run (by kernel_rfl) (.bool true) w5 (exec_eqS 9 _ _ rfl (strB q) (strB q) (by kernel_rfl) (by kernel_rfl) true (by simp)) ?_
  simp only [Act.put, fl1, fl2, fl3]
  refine sl_run rfl (.bool true) w5 (by kernel_rfl) ?_
  simp only [Act.put, fl1, fl2, fl3]
  refine sl_run rfl (.bool true) w5 (by kernel_rfl) ?_
  simp only [Act.put, fl1, fl2, fl3]
  refine wpList_nil ?_
  have hF := hBw5
  clear hBw5 hyaw5 hybw5 hu1w5 hu2w5 hv1w5 hv2w5 hcaw5 hcbw5
  go_wp2_with fail
  go_ret
  exact ⟨rfl, hF.out⟩
end Go.Proofs.YtadopkifpfmhcaaDoor
namespace Go.Proofs.YtadopkifpfmhcaaDoor.chainClashes
open Go.ChangeShapes Go.WideShapes Go.ChangeAt Go.RowKit

theorem own : ownKnob Tryd.prog.godebug = none := by kernel_rfl
theorem laidOut : laidOutB Tryd.prog = true := by kernel_rfl
set_option maxRecDepth 100000 in
theorem lifted (os : Os) (started : os.Started) (H : Type) (enc : TypeId × Value → H) :
    ReturnsInHanded {} Tryd.checked os 8 .any (fun w args => (Rows.chainClashesSpec.pre enc Tryd.prog Tryd.f8 Rows.chainClashesRow.domain false w args ∧ laidMet Tryd.prog [("math/bits.deBruijn64tab", Rows.laid_math_bits_deBruijn64tab)] w) ∧ sizedMet enc Tryd.prog Tryd.f8 (OpenSpec.ofChange Rows.chainClashesSpec) false w args)
      (Rows.chainClashesSpec.post enc Tryd.prog Tryd.f8 false true false false) := by
  refine returnsInHanded_of_change_and (C := Tryd.checked) (X := fun w _ => laidMet Tryd.prog [("math/bits.deBruijn64tab", Rows.laid_math_bits_deBruijn64tab)] w) (fun _ _ _ hh h => h.of_heap hh) own started (by kernel_rfl) Tryd.func8
    (ChangeSpec.witness_at (enc := enc) (C := Tryd.checked) (os := os) (X := fun w _ => laidMet Tryd.prog [("math/bits.deBruijn64tab", Rows.laid_math_bits_deBruijn64tab)] w) false (laidWorld os) #[.int .i64 0, .slice none 0 0, .slice none 0 0] 8 rfl (by kernel_rfl) (by kernel_rfl) (by kernel_rfl) (by kernel_rfl) (by kernel_rfl) (laidWorld_met os _)) ?_
  intro W base args ds gs before hval0 hW hcnd hsz hL _
  have hval : ∀ (j : Nat) t v, Tryd.f8.params[j]? = some t → args[j]? = some v → Value.okWide Tryd.prog W .any base t v := hval0
  have htab := tab_of_laid hL
  have hW' := hW
  obtain ⟨p, q, hA0, hV, rfl, hfz, hnd⟩ := hW
  have hA : DataW.TrodAll enc Tryd.prog W 0 (fun _ => true) true Tryd.f8.params.toList args.toList ds p := hA0
  have hsz2 : (DataW.weightsEach Tryd.prog ([3, 34, 34] ++ Rows.chainClashesSpec.plain.varTypes Tryd.prog) (ds ++ gs)).all (· ≤ reachBytes) = true := by
    have := hsz; rw [Tryd.params8] at this; exact this
  rw [Tryd.params8] at hA hval
  obtain ⟨v0, vs0, d0, ds0, p0, q0, hargs, rfl, rfl, h0, r0⟩ := trodAll_cons hA
  obtain ⟨v1, vs1, d1, ds1, p1, q1, rfl, rfl, rfl, h1, r1⟩ := trodAll_cons r0
  obtain ⟨v2, vs2, d2, ds2, p2, q2, rfl, rfl, rfl, h2, r2⟩ := trodAll_cons r1
  obtain ⟨rfl, rfl, rfl⟩ := trodAll_nil r2
  obtain rfl : args = #[v0, v1, v2] := by cases args; simp_all
  obtain ⟨rfl, rfl⟩ := trodVars_none hV
  have k0 := h0
  have lt0 : ∀ x ∈ p0, x.block < W.heap.size := by obtain ⟨m, hm⟩ := k0; exact DataW.trod_lt m _ _ _ hm
  obtain ⟨n0, rfl, rfl, rfl, wf0⟩ := open_int Tryd.underlying3 (hval 0 3 v0 rfl rfl) h0
  have b0 := int_wf wf0
  have k1 := h1
  have lt1 : ∀ x ∈ p1, x.block < W.heap.size := by obtain ⟨m, hm⟩ := k1; exact DataW.trod_lt m _ _ _ hm
  obtain ⟨a1, n1, c1, l1, rfl, e1, y1, g1, z1⟩ := arg_ens (hval 1 34 v1 rfl rfl) h1
  have m1 : n1 * 72 ≤ 140737488351232 := arg_room hsz2 (j := 1) (t := 34) (e := 24) rfl rfl Tryd.underlying34 (by kernel_rfl) (by decide) z1
  have k2 := h2
  have lt2 : ∀ x ∈ p2, x.block < W.heap.size := by obtain ⟨m, hm⟩ := k2; exact DataW.trod_lt m _ _ _ hm
  obtain ⟨a2, n2, c2, l2, rfl, e2, y2, g2, z2⟩ := arg_ens (hval 2 34 v2 rfl rfl) h2
  have m2 : n2 * 72 ≤ 140737488351232 := arg_room hsz2 (j := 2) (t := 34) (e := 24) rfl rfl Tryd.underlying34 (by kernel_rfl) (by decide) z2
  clear hA0 hval0
  refine (lclashes_calls n0 l1 l2 g1 g2 a1 n1 c1 e1 a2 n2 c2 e2 W htab y1 y2).mono fun e W' ⟨he, bel⟩ => ?_
  subst he
  exact ⟨_, rfl, _, _, _, [], _, [], hW', trodAll_mk1 (shut_bool Tryd.underlying4 _), (trodAll_cons_mk (Below.trod laidOut (by kernel_rfl) (of_decide_eq_true (by kernel_rfl)) k0 bel lt0) (trodAll_cons_mk (Below.trod laidOut (by kernel_rfl) (of_decide_eq_true (by kernel_rfl)) k1 bel lt1) (trodAll_cons_mk (Below.trod laidOut (by kernel_rfl) (of_decide_eq_true (by kernel_rfl)) k2 bel lt2) trodAll_mk0))), rfl, bel.frame _, fun h => by cases h⟩
theorem over : Rows.ChainClashesSaid :=
  OpenClaim.holds_of_wide 8 Tryd.f8 rfl rfl rfl rfl rfl rfl rfl ⟨rfl, rfl, rfl, rfl, rfl⟩ rfl rfl rfl rfl rfl (by kernel_rfl) Tryd.func8 (by kernel_rfl)
    (of_decide_eq_true (by kernel_rfl)) (by unfold Func.isWrapper; first | (rw [if_pos (by decide +kernel)]; kernel_rfl) | (rw [if_neg (by decide +kernel)]; exact ⟨rfl, rfl⟩))
    (fun os started H enc _ => lifted os started H enc)
theorem card : Rows.ChainClashesCardSaid :=
  Claim7.holds_tied_plain_at .later [] [.data] true (true, "eaf48906fbdc0550d943cf212d39e566490c253f0718d60b671d22ae1cd4fb08") false
    over (fun _ h => by cases h) (by kernel_rfl) (fun _ h => by cases h) chainClashes_row_tie rfl ⟨rfl, rfl⟩ (by kernel_rfl) rfl
    (fun f fn hf hfn => by
      obtain rfl : f = 8 := Option.some.inj ((show Tryd.prog.funcNamed "mandate/mandatelaw18.ChainClashes" = some 8 by kernel_rfl).symm.trans hf) |>.symm
      obtain rfl : fn = Tryd.f8 := (Option.some.inj (Tryd.func8.symm.trans hfn)).symm
      exact ⟨by kernel_rfl, fun j t ht => by
        rw [Tryd.params8] at ht
        have h3 : t = 3 ∨ t = 34 := by
          rcases j with _ | j
          · simp at ht; subst ht; simp
          rcases j with _ | j
          · simp at ht; subst ht; simp
          rcases j with _ | j
          · simp at ht; subst ht; simp
          · simp at ht
        rcases h3 with rfl | rfl
        all_goals exact (show Tryd.prog.wantsStandIn _ = false by kernel_rfl)⟩)
    (by kernel_rfl)
end Go.Proofs.YtadopkifpfmhcaaDoor.chainClashes
namespace Go.Proofs.YtadopkifpfmhcaaDoor
/-- The statement. -/
theorem chainClashes_holds : Rows.ChainClashesCardSaid := chainClashes.card
#print axioms chainClashes_holds
end Go.Proofs.YtadopkifpfmhcaaDoor
