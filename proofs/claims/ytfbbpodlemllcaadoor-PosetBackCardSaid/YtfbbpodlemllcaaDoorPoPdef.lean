/-
  Orders: pairs that nothing is between: what they are, and what the walk of Pairs keeps.
-/
import Derived.Test.YtfbbpodlemllcaaDoorPoAsks
import Derived.Test.YtfbbpodlemllcaaDoorPoTail
namespace Go.Proofs.YtfbbpodlemllcaaDoor
open Go.RowKit Go.Shelf
set_option linter.unusedVariables false
set_option linter.unusedSimpArgs false
set_option pp.maxSteps 50000
abbrev P2 := Int × Int
def encP (p : P2) : Array Value := #[.int .i64 p.1, .int .i64 p.2]
theorem encP_size (p : P2) : (encP p).size = 2 := rfl
theorem encP_ones (p : P2) : ∀ u ∈ (encP p).toList, u.oneCell' = true := by simp [encP, Value.oneCell']
def z44 : Value := .agg #[.int .i64 0, .int .i64 0]
theorem inf44 : (Tryd.prog.info? 44).map (fun i => (i.zero, i.size, i.bytes)) = some (some z44, 2, 16) := by kernel_rfl
/-- What stands above, itself left out. -/
def strictM (up : List Nat) (a : Nat) : Nat := up.getD a 0 &&& (18446744073709551615 - 2 ^ a)
def without (st b : Nat) : Nat := st &&& (18446744073709551615 - 2 ^ b)
def anyB (up : List Nat) (b : Nat) {m : Nat} (pre : List (BitOf m)) : Bool := pre.any fun y => (up.getD y.1 0).testBit b
def betw (up : List Nat) (st b : Nat) : Bool := (bl (without st b)).any fun k => (up.getD k 0).testBit b
def coverA (up : List Nat) (a : Nat) : List P2 := ((bl (strictM up a)).filter fun b => !betw up (strictM up a) b).map fun (b : Nat) => (((a : Nat) : Int), (b : Int))
def pairsT (up : List Nat) (n : Nat) : List P2 := (List.range n).flatMap (coverA up)
noncomputable def pairsS (up : List Nat) : List P2 := if tr (Ord up) then pairsT up up.length else []
def outP (up : List Nat) (i : Nat) {m : Nat} (pre : List (BitOf m)) : List P2 := pairsT up i ++ (pre.filter fun y => !betw up m y.1).map fun y => ((i : Int), (y.1 : Int))
theorem anyB_all {up : List Nat} {b st : Nat} {xs : List (BitOf (without st b))} (h : xs.map (·.1) = bl (without st b)) : anyB up b xs = betw up st b := by
  unfold anyB betw; rw [← h, List.any_map]; rfl
theorem anyB_snoc {up : List Nat} {b m : Nat} {pre : List (BitOf m)} {x : BitOf m} : anyB up b (pre ++ [x]) = (anyB up b pre || (up.getD x.1 0).testBit b) := by
  unfold anyB; simp
theorem outP_nil {up : List Nat} {i m : Nat} : outP up i ([] : List (BitOf m)) = pairsT up i := by simp [outP]
theorem outP_snoc {up : List Nat} {i m : Nat} {pre : List (BitOf m)} {x : BitOf m} : outP up i (pre ++ [x]) = outP up i pre ++ (if betw up m x.1 = false then [((i : Int), (x.1 : Int))] else []) := by
  unfold outP
  rw [List.filter_append, List.map_append, List.append_assoc]
  congr 2
  by_cases h : betw up m x.1 = false
  · rw [if_pos h, List.filter_cons, h]; rfl
  · have h : betw up m x.1 = true := by simpa using h
    rw [if_neg (by rw [h]; decide), List.filter_cons, h]; rfl
theorem outP_all {up : List Nat} {i : Nat} {xs : List (BitOf (strictM up i))} (h : xs.map (·.1) = bl (strictM up i)) : outP up i xs = pairsT up (i + 1) := by
  unfold outP pairsT
  rw [List.range_succ, List.flatMap_append]
  congr 1
  simp only [List.flatMap_cons, List.flatMap_nil, List.append_nil]
  unfold coverA
  rw [← h, List.filter_map, List.map_map]
  rfl
theorem outP_all' {up : List Nat} {i st : Nat} (hst : st = strictM up i) {xs : List (BitOf st)} (h : xs.map (·.1) = bl st) : outP up i xs = pairsT up (i + 1) := by
  subst hst; exact outP_all h
theorem anyB_all' {up : List Nat} {b st sb : Nat} (hsb : sb = without st b) {xs : List (BitOf sb)} (h : xs.map (·.1) = bl sb) : anyB up b xs = betw up st b := by
  subst hsb; exact anyB_all h
theorem coverA_len (up : List Nat) (a : Nat) : (coverA up a).length ≤ 64 := by
  unfold coverA
  rw [List.length_map]
  exact Nat.le_trans (List.length_filter_le _ _) (bl_len _)
theorem pairsT_len (up : List Nat) : ∀ n, (pairsT up n).length ≤ 64 * n
  | 0 => by simp [pairsT]
  | n + 1 => by
    have h1 := pairsT_len up n
    have h2 := coverA_len up n
    unfold pairsT at h1 ⊢
    rw [List.range_succ, List.flatMap_append, List.length_append]
    simp only [List.flatMap_cons, List.flatMap_nil, List.append_nil]
    omega
theorem outP_len {up : List Nat} {i m : Nat} {pre : List (BitOf m)} (h : pre.length < 64) : (outP up i pre).length ≤ 64 * i + 63 := by
  have h1 := pairsT_len up i
  have h2 := List.length_filter_le (fun y : BitOf m => !betw up m y.1) pre
  unfold outP
  rw [List.length_append, List.length_map]
  omega
/-- What Pairs keeps. -/
structure PFv (w0 : World) (B Bo : Nat) (sv v : Value) (Ds : List Nat) (l : List P2) (w : World) : Prop where
  h0 : w.heap[B]? = some (.cells #[sv] 24 (0, 0))
  ho : w.heap[Bo]? = some (.cells #[v] 22 (0, 0))
  hr : w.ownsRow w0.heap.size 44 2 v l.length (flat encP l)
  hm : ∀ D ∈ Ds, w.heap[D]? = some (.deferred (some []))
  nd : Ds.Nodup
  ge : ∀ D ∈ Ds, w0.heap.size ≤ D
  hB : Below w0.heap.size w0 w
theorem PFv.below {w0 w w' : World} {B Bo : Nat} {sv v : Value} {Ds : List Nat} {l : List P2} (h : PFv w0 B Bo sv v Ds l w) (hb : Below w.heap.size w w') : PFv w0 B Bo sv v Ds l w' :=
  ⟨heap_kept h.h0 hb, heap_kept h.ho hb, h.hr.kept (row := none) ⟨hb.os, hb.tape, hb.output, hb.size, fun j hj _ => hb.block j hj⟩ (by cases hv : v.ownBlock <;> simp), fun D hD => heap_kept (h.hm D hD) hb, h.nd, h.ge, h.hB.trans (hb.mono h.hB.size)⟩
theorem PFv.lt {w0 w : World} {B Bo : Nat} {sv v : Value} {Ds : List Nat} {l : List P2} (h : PFv w0 B Bo sv v Ds l w) : ∀ D ∈ Ds, D < w.heap.size := fun D hD => (Array.getElem?_eq_some_iff.1 (h.hm D hD)).1
theorem PFv.more {w0 w : World} {B Bo : Nat} {sv v : Value} {Ds : List Nat} {l : List P2} {D : Nat} (h : PFv w0 B Bo sv v Ds l w) (hK : w.heap[D]? = some (.deferred (some []))) (hl : ∀ D' ∈ Ds, D' < D) (hB : w0.heap.size ≤ D) : PFv w0 B Bo sv v (D :: Ds) l w :=
  ⟨h.h0, h.ho, h.hr, fun D' h' => by
    rcases List.mem_cons.1 h' with rfl | h'
    · exact hK
    · exact h.hm D' h', List.nodup_cons.2 ⟨fun hm => Nat.lt_irrefl _ (hl D hm), h.nd⟩, fun D' h' => by
    rcases List.mem_cons.1 h' with rfl | h'
    · exact hB
    · exact h.ge D' h', h.hB⟩
theorem own_row {β : Type} {B n₀ e size : Nat} {v : Value} {xs : List Value} {k : Nat} : OwnFrom B (fun (_ : β) W => W.ownsRow n₀ e size v k xs) := fun s W W' row hs hg hr => by
  have hs' : W.ownsRow n₀ e size v k xs := hs
  refine hs'.kept hg ?_
  rcases hs'.2 with ⟨rfl, _⟩ | ⟨g, cap, cur, rfl, _, hgb, _⟩
  · exact .inl rfl
  · refine .inr fun e' => ?_
    obtain ⟨_, o, ho, hc⟩ := hr g (by simpa [Value.ownBlock] using e'.symm)
    rw [hgb] at ho; cases ho; cases hc
/-- The value is whatever it is. -/
def PF (w0 : World) (B Bo : Nat) (sv : Value) (Ds : List Nat) (l : List P2) (w : World) : Prop := ∃ v, PFv w0 B Bo sv v Ds l w
theorem PF.own {β : Type} {w0 : World} {B Bo Bd : Nat} {sv : Value} {Ds : List Nat} {l : β → List P2} (h1 : ∀ D ∈ Ds, D < Bd) (h2 : w0.heap.size ≤ Bd) : OwnFrom Bd (fun (s : β) W => PF w0 B Bo sv Ds (l s) W) := fun s W W' row hs hg hr => by
  have hs' : PF w0 B Bo sv Ds (l s) W := hs
  obtain ⟨v, hs'⟩ := hs'
  exact ⟨v, own_heap (β := β) (cs := fun _ => #[sv]) s W W' row hs'.h0 hg hr, own_heap (β := β) (cs := fun _ => #[v]) s W W' row hs'.ho hg hr, own_row (β := β) s W W' row hs'.hr hg hr, own_mark h1 s W W' row hs'.hm hg hr, hs'.nd, hs'.ge, ownFrom_below (Nat.le_refl _) h2 s W W' row hs'.hB hg hr⟩
/-- All but one block lies as it lay. -/
structure Same (bt : Nat) (W0 W : World) : Prop where
  os : W.os = W0.os
  tape : W.tape = W0.tape
  output : W.output = W0.output
  size : W0.heap.size ≤ W.heap.size
  block : ∀ j, j < W0.heap.size → j ≠ bt → W.heap[j]? = W0.heap[j]?
theorem Same.refl (bt : Nat) (W : World) : Same bt W W := ⟨rfl, rfl, rfl, Nat.le_refl _, fun _ _ _ => rfl⟩
theorem Same.below {bt : Nat} {W0 W : World} (h : Same bt W0 W) {B : Nat} (h1 : B ≤ bt) (h2 : B ≤ W0.heap.size) : Below B W0 W := ⟨h.os, h.tape, h.output, h.size, fun k hk => h.block k (by omega) (by omega)⟩
theorem Same.step {bt : Nat} {W0 W W' : World} (h : Same bt W0 W) (hb : Below W.heap.size W W') : Same bt W0 W' := ⟨hb.os.trans h.os, hb.tape.trans h.tape, hb.output.trans h.output, Nat.le_trans h.size hb.size, fun j h1 h2 => (hb.block j (Nat.lt_of_lt_of_le h1 h.size)).trans (h.block j h1 h2)⟩
theorem Same.set {bt : Nat} {W0 W : World} (h : Same bt W0 W) (v : Value) : Same bt W0 (W.setCell ⟨bt, 0, none⟩ v) :=
  have hg := grownBy_setCell' W bt v
  ⟨hg.os.trans h.os, hg.tape.trans h.tape, hg.output.trans h.output, Nat.le_trans h.size hg.size, fun j h1 h2 => (hg.block j (Nat.lt_of_lt_of_le h1 h.size) (fun e => h2 (by cases e; rfl))).trans (h.block j h1 h2)⟩
theorem Same.own {β : Type} {bt B : Nat} {W0 : World} (hB : W0.heap.size ≤ B) : OwnFrom B (fun (_ : β) W => Same bt W0 W) := fun s W W' row hs hg hr =>
  have h : Same bt W0 W := hs
  ⟨hg.os.trans h.os, hg.tape.trans h.tape, hg.output.trans h.output, Nat.le_trans h.size hg.size, fun j h1 h2 => (hg.block j (Nat.lt_of_lt_of_le h1 h.size) (fun e => by have := (hr j e.symm).1; omega)).trans (h.block j h1 h2)⟩
theorem Same.heap {bt : Nat} {W0 W : World} (h : Same bt W0 W) {j : Nat} {o : Obj} (hj : W0.heap[j]? = some o) (hne : j ≠ bt) : W.heap[j]? = some o := (h.block j (Array.getElem?_eq_some_iff.1 hj).1 hne).trans hj
/-- The turn of one box, over what has been carried. -/
theorem PFv.same {w0 w w' : World} {B Bo bt : Nat} {sv v : Value} {Ds : List Nat} {l : List P2} (h : PFv w0 B Bo sv v Ds l w) (hs : Same bt w w') (hbt : ∃ u, w.heap[bt]? = some (.cells u 4 (0, 0))) (hge : w0.heap.size ≤ bt) : PFv w0 B Bo sv v Ds l w' := by
  obtain ⟨u, hbt⟩ := hbt
  have k : ∀ {j : Nat} {o : Obj}, w.heap[j]? = some o → (∀ c f, o ≠ .cells c 4 f) → w'.heap[j]? = some o := fun hj ho => hs.heap hj fun e => by
    rw [e, hbt] at hj; cases hj; exact ho _ _ rfl
  refine ⟨k h.h0 (fun c f e => by cases e), k h.ho (fun c f e => by cases e), own_keep h.hr fun q hq => ?_, fun D hD => k (h.hm D hD) (fun c f e => by cases e), h.nd, h.ge, h.hB.trans (hs.below hge h.hB.size)⟩
  rcases h.hr.2 with ⟨rfl, _⟩ | ⟨g, cap, cur, rfl, _, hgb, _⟩
  · simp [Value.ownBlock] at hq
  · simp [Value.ownBlock] at hq
    subst hq
    rw [k hgb (fun c f e => by cases e), hgb]
/-- Behind an append and its store. -/
theorem PFv.app {w0 w w1 : World} {B Bo : Nat} {sv v v' : Value} {Ds : List Nat} {l l' : List P2} {tmp : Obj} (h : PFv w0 B Bo sv v Ds l w) (hBo : w0.heap.size ≤ Bo)
    (hown : w1.ownsRow w0.heap.size 44 2 v' l'.length (flat encP l')) (hg : (w.alloc tmp).grownBy w1 v.ownBlock) :
    PFv w0 B Bo sv v' Ds l' (w1.setCell ⟨Bo, 0, none⟩ v') ∧ KeepsOthers w (w1.setCell ⟨Bo, 0, none⟩ v') ∧ Below w0.heap.size w (w1.setCell ⟨Bo, 0, none⟩ v') ∧ w1.heap[Bo]? = some (.cells #[v] 22 (0, 0)) ∧
    (∀ (j : Nat) (u : Value) (t : TypeId), w.heap[j]? = some (Obj.cells #[u] t (0, 0)) → t ≠ 44 → t ≠ 22 → (w1.setCell ⟨Bo, 0, none⟩ v').heap[j]? = some (.cells #[u] t (0, 0))) := by
  have hv : Boxed w Bo 22 v := h.ho
  obtain ⟨h1, h2, h3, h4, h5⟩ := hv.appended (tmp := tmp) (by decide) h.hr h.hB.size hBo hown hg
  have k : ∀ (j : Nat) (u : Value) (t : TypeId), w.heap[j]? = some (Obj.cells #[u] t (0, 0)) → t ≠ 44 → t ≠ 22 → (w1.setCell ⟨Bo, 0, none⟩ v').heap[j]? = some (.cells #[u] t (0, 0)) := fun j u t hj ht ht2 => by
    have hb : Boxed w j t u := hj
    have hb1 : Boxed w1 j t u := (hb.alloc tmp).kept hg (hb.not_row ht h.hr)
    have hne : j ≠ Bo := fun e => by rw [e, h.ho] at hj; cases hj; exact ht2 rfl
    exact (heap_setCell_other _ _ _ _ hne).trans hb1
  exact ⟨⟨k B sv 24 h.h0 (by decide) (by decide), h2, h3, fun D hD => h4.same D _ (h.hm D hD) rfl, h.nd, h.ge, h.hB.trans h5⟩, h4, h5, h1, k⟩
theorem pairs_leaves {w0 w : World} {v sv : Value} {B Bo : Nat} {Ds : List Nat} {a : Act} {l L : List P2} (h : PFv w0 B Bo sv v Ds l w) (hp : a.tmps.getD 2 undef = v) (hd : a.defers = Ds.map mark) (hl : l = L) :
    bodyPostM Fence.wide 9 Tryd.prog Tryd.f26 (fun e w' => ∃ v, e = .returned v ∧ w'.ownsRow w0.heap.size 44 2 v L.length (flat encP L) ∧ Below w0.heap.size w0 w') .ret a w :=
  bodyM_marks (fun w' => w'.ownsRow w0.heap.size 44 2 v l.length (flat encP l) ∧ Below w0.heap.size w0 w') Ds hd h.nd h.hm ⟨h.hr, h.hB⟩
    (fun w' D hD hC hk => ⟨ownsRow_putObj hC.1 _ hk rfl, put_mark_below hC.2 (h.ge D hD) hC.2.size⟩)
    (fun w' hC => ⟨v, by rw [results_tmp (t := 2) rfl]; rw [hp], v, rfl, by rw [← hl]; exact hC.1, hC.2⟩)
section
variable {P : Program} {ops : Array Oper} {Q : Exit → Act → World → Prop} {a : Act} {w : World} {rest : List Oper} {o : Oper} {l n : Nat}
/-- A round's operation that stores. -/
theorem ri_skipped (hw : Region.wanted o (yielded ops a.tmps) = true) (hnd : ∀ c, o.op ≠ .defer c) (w' : World) (he : (execOp a.eval o).run P w = .ok .skip w')
    (k : wpListIn (Fence.wide.inRound l) n P ops Q rest (a.put o.dst undef) w') : wpListIn (Fence.wide.inRound l) n P ops Q (o :: rest) a w := by
  rw [wpListIn, if_pos hw]
  refine ⟨fun _ _ => trivial, ?_⟩
  rw [show (Fence.wide.inRound l).round = some l from rfl, Oper.semAt_some l a.eval o hnd, he]
  exact k
/-- A range whose loop variable is boxed, in a plain walk. -/
theorem wp_rangeH {α : Type} {g : Operand} {ps : Array Tmp} {assign body : Code} (n : Nat) (h1 : 1 ≤ n) {gf : Nat} {lb : Array Value} (hg : a.eval g = .func (.func gf) #[] lb) (eg : ∀ args w, (callFunc gf args).run P w = .ok (.enter gf args) w)
    {encs : α → Array Value} {n₀ : Nat} {S Sp : List α → Prop} {N : Nat} (hseq : SeqStopsK Fence.wide (n - 1) P gf lb encs (Below n₀) S Sp N w) (hn0 : n₀ ≤ w.heap.size) (hps : ∀ x, (encs x).size = ps.size)
    (I : List α → World → Prop) (Ix : Code → List α → World → Prop) (hI : OwnFrom w.heap.size I) (hIx : ∀ c, OwnFrom w.heap.size (Ix c)) (h0 : I [] w) (Ax : α → Act → World → Prop) (hAx : ∀ x a', OwnFrom w.heap.size (fun (_ : Unit) W => Ax x a' W))
    (hassign : ∀ (l : Nat) (pre : List α) (x : α) (W : World) (K : Act → World → Prop), I pre W → (∀ a' W', KeepsFrom w.heap.size W W' → Below n₀ W W' → I pre W' → Ax x a' W' → K a' W') →
      assign.wpIn (Fence.wide.inRound l) (n - 1 - 1) P (Exit.then K (fun _ _ _ => False)) { tmps := (ps.zip (encs x)).foldl (fun t (p, v) => t.setIfInBounds p v) a.tmps, defers := [] } W)
    (hbody : ∀ (l : Nat) (pre : List α) (x : α) (a' : Act) (W : World), w.heap.size ≤ l → (∃ r, W.heap[l]? = some (.loop r)) → I pre W → Ax x a' W → pre.length < N → body.wpIn (Fence.wide.inRound l) (n - 1 - 1) P (ownPostG w.heap.size (Below n₀) I Ix (pre ++ [x]) W) a' W)
    (hdone : ∀ (D : Nat) (xs : List α) (W : World), w.heap.size ≤ D → S xs → I xs W → W.heap[D]? = some (.deferred (some [])) → Q .normal { a with defers := mark D :: a.defers } W)
    (hstop : ∀ (D : Nat) (c : Code) (pre : List α) (W : World), w.heap.size ≤ D → Sp pre → Ix c pre W → W.heap[D]? = some (.deferred (some [])) → c.wp P Q { a with defers := mark D :: a.defers } W) :
    (Code.rangeFunc g ps assign body).wp P Q a w :=
  (wpIn_wide (n := n)).1 (wpIn_rangeFunc_ownH rfl h1 hg trivial eg hseq belowK_t (belowK_b hn0) (Below.refl _ _) hps I Ix hI hIx h0 Ax hAx hassign hbody hdone
    (fun D c pre W hD hSp hI hK => wpIn_wide.2 (hstop D c pre W hD hSp hI hK)))
end
end Go.Proofs.YtfbbpodlemllcaaDoor
