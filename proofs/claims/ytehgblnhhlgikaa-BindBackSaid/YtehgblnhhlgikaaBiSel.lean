/-
  Bindings: lists of tuples; the program's Select; two lists that are one.
-/
import Derived.Test.YtehgblnhhlgikaaBiFill2
namespace Go.Proofs.Ytehgblnhhlgikaa.Bi
open Go.RowKit
set_option linter.unusedVariables false
set_option linter.unusedSimpArgs false
set_option pp.maxSteps 50000
/-- A tuple, and where its values lie. -/
structure TT where
  p : ByteArray
  A : Option Addr
  c : Nat
  vs : List V2
instance : Inhabited TT := ⟨⟨ByteArray.empty, none, 0, []⟩⟩
def TT.v (t : TT) : Value := .slice t.A t.vs.length t.c
def TT.cs (t : TT) : Array Value := #[.string t.p, t.v]
def TT.key (t : TT) : ByteArray × List V2 := (t.p, t.vs)
theorem tt_size (x : TT) : x.cs.size = 2 := rfl
theorem tt_ones (x : TT) : ∀ u ∈ x.cs.toList, u.oneCell' = true := by simp [TT.cs, TT.v, Value.oneCell']
theorem tt_one (x : TT) : x.cs.all (·.oneCell') = true := by simp [TT.cs, TT.v, Value.oneCell']
def zt : Value := .agg #[.string ByteArray.empty, .slice none 0 0]
theorem inf27 : (Try.prog.info? 27).map (fun i => (i.zero, i.size, i.bytes)) = some (some zt, 2, 40) := by kernel_rfl
theorem el41 : Try.prog.elem 41 = 27 := by kernel_rfl
theorem un41 : Try.prog.underlying 41 = some (.slice (Try.prog.elem 41)) := by rw [el41]; exact Try.underlying41
theorem sz41 (w : World) : (sizeOf (Try.prog.elem 41)).run Try.prog w = .ok 2 w := by rw [el41]; kernel_rfl
theorem own_other {w : World} {base base' n n' k k' : Nat} {e e' : TypeId} {v v' : Value} {xs xs' : List Value} (h : w.ownsRow base e k v n xs) (h' : w.ownsRow base' e' k' v' n' xs') (hne : e ≠ e') : ∀ q, v'.ownBlock = some q → some q ≠ v.ownBlock := fun q hq => by
  rcases h'.2 with ⟨rfl, _⟩ | ⟨g', cap, cur, rfl, _, h2, _⟩
  · simp [Value.ownBlock] at hq
  · simp [Value.ownBlock] at hq
    subst hq
    exact own_kind h h2 hne
theorem own_mono {w : World} {base base' n k : Nat} {e : TypeId} {v : Value} {xs : List Value} (h : w.ownsRow base e k v n xs) (hb : base' ≤ base) : w.ownsRow base' e k v n xs := by
  refine ⟨h.1, ?_⟩
  rcases h.2 with h2 | ⟨g', cap, cur, rfl, h1, h2⟩
  · exact .inl h2
  · exact .inr ⟨g', cap, cur, rfl, by omega, h2⟩
theorem clipT_calls (l : List TT) (v : Value) (w : World) (hn9 : l.length ≤ 4000000) (hy : Rw 2 TT.cs w v l) :
    Calls Try.prog 30 #[v] w fun e w' => ∃ v, e = .returned v ∧ Rw 2 TT.cs w' v l ∧ w' = w := by
  obtain ⟨A, c, rfl⟩ := hy.form
  obtain ⟨n, hn⟩ : ∃ n, n = l.length := ⟨_, rfl⟩
  rw [← hn] at hy ⊢
  obtain ⟨hc, hy2⟩ := clip_rw hn hy
  go_enter Try.func30, Try.ntmps30
  go_upto_region 1 with fail
  refine wp_region_lit ?_
  refine sl_run rfl (.slice A n c) w (by kernel_rfl) ?_
  refine sl_run rfl (.slice A n c) w (by kernel_rfl) ?_
  refine sl_run rfl (.int .i64 n) w (by kernel_rfl) ?_
  refine sl_run rfl (.slice A n c) w (by kernel_rfl) ?_
  refine sl_run rfl (.int .i64 n) w (by kernel_rfl) ?_
  refine sl_run rfl _ w (exec_clip un41 sz41 _ _ _ rfl A n c (by kernel_rfl) (by kernel_rfl) (by kernel_rfl) hc w) ?_
  generalize (if n = 0 then A else A.map (·.add 0)) = A2 at hy2 ⊢
  refine sl_run rfl (.slice A2 n n) w (by kernel_rfl) ?_
  refine wpList_nil ?_
  simp only [Act.put, List.setIfInBounds_toArray, List.set_cons_zero, List.set_cons_succ]
  go_wp2_with fail
  go_ret
  exact ⟨_, rfl, hy2, rfl⟩
/-- Does the literal match the tuple? -/
def hits (k : Nat) (p : ByteArray) (args : List T3) (t : TT) : Bool := (matchS k p args t.p t.vs []).isSome
theorem hits_len {k : Nat} {p : ByteArray} {args : List T3} {t : TT} (h : hits k p args t = true) : t.vs.length = args.length := by
  unfold hits matchS at h
  split at h
  · next h2 => exact h2.2.2.symm
  · cases h
theorem take_next {l : List TT} {i : Nat} (h : i < l.length) : l.take (i + 1) = l.take i ++ [l.getD i default] := by
  rw [List.take_succ_eq_append_getElem h]; simp [h]
set_option maxRecDepth 100000 in
set_option maxHeartbeats 2000000 in
theorem select_calls (k : Nat) (p : ByteArray) (args : List T3) (l : List TT) (A1 A2 : Option Addr) (n m c1 c2 : Nat) (hn : n = args.length) (hm : m = l.length) (hn9 : n ≤ 1000000) (hm9 : m ≤ 1000000) (w : World)
    (hy1 : Rw 3 T3.c w (.slice A1 n c1) args) (hy2 : Rw 2 TT.cs w (.slice A2 m c2) l) (hy3 : ∀ t ∈ l, Rw 2 V2.c w t.v t.vs) :
    Calls Try.prog 19 #[.agg #[.int .u8 (k : Int), .string p, .slice A1 n c1], .slice A2 m c2] w fun e w' => ∃ v sel, e = .returned v ∧ Rw 2 TT.cs w' v sel ∧ (∀ t ∈ sel, Rw 2 V2.c w' t.v t.vs) ∧ sel.map TT.key = (l.filter (hits k p args)).map TT.key ∧ Below w.heap.size w w' := by
  have hn' : Hid (n = args.length) := hn
  have hm' : Hid (m = l.length) := hm
  have hy1' : Hid (Rw 3 T3.c w (.slice A1 n c1) args) := hy1
  have hy2' : Hid (Rw 2 TT.cs w (.slice A2 m c2) l) := hy2
  have hy3' : Hid (∀ t ∈ l, Rw 2 V2.c w t.v t.vs) := hy3
  clear hn hm hy1 hy2 hy3
  obtain ⟨i27, hi27, hz0, hz1, hz2⟩ := info_parts inf27
  go_enter Try.func19, Try.ntmps19
  go_upto_region 1 with fail
  generalize hW : World.alloc _ _ = W
  have hW0 : W.heap[w.heap.size]? = some (.cells #[.int .u8 (k : Int), .string p, .slice A1 n c1] 24 (0, 0)) := by rw [← hW]; exact heap_alloc_new w _
  have hWB : Below w.heap.size w W := by rw [← hW]; exact (Below.refl _ _).alloc (Nat.le_refl _) _
  have hWs : W.heap.size = w.heap.size + 1 := by rw [← hW]; simp
  clear hW
  have hWB' : Hid (Below w.heap.size w W) := hWB
  have hW0' : Hid (W.heap[w.heap.size]? = some (.cells #[.int .u8 (k : Int), .string p, .slice A1 n c1] 24 (0, 0))) := hW0
  have hown0 : Hid (W.ownsRow (w.heap.size + 1) 27 2 (.slice none 0 0) ([] : List TT).length (flat TT.cs [])) := World.ownsRow_nil _ _ _ _
  have hn0 : Hid (([] : List TT).map TT.key = ((l.take 0).filter (hits k p args)).map TT.key) := rfl
  clear hWB hW0
  go_wp2_with fail
  go_loopw [5, 12] (fun v u wr => ∃ (i : Nat) (sel : List TT), i ≤ m ∧ u = .int .i64 i ∧ sel.length ≤ i ∧ Hid (sel.map TT.key = ((l.take i).filter (hits k p args)).map TT.key) ∧ Hid (wr.ownsRow (w.heap.size + 1) 27 2 v sel.length (flat TT.cs sel)) ∧ Hid (∀ t ∈ sel, wr.ownsRow (w.heap.size + 1) 46 2 t.v t.vs.length (flat V2.c t.vs)) ∧ Hid (wr.heap[w.heap.size]? = some (.cells #[.int .u8 (k : Int), .string p, .slice A1 n c1] 24 (0, 0))) ∧ w.heap.size + 1 ≤ wr.heap.size ∧ Hid (Below w.heap.size w wr)) (fun _ u _ => m - (intOf u).toNat)
  case atStart => exact ⟨0, [], by omega, rfl, Nat.le_refl _, hn0, hown0, fun t ht => (List.not_mem_nil ht).elim, hW0', by omega, hWB'⟩
  case round =>
    clear hn0 hown0 hW0' hWB' hWs
    obtain ⟨i, sel, hi, rfl, hsl, hkey, hown, hins, h0, hHs, hB⟩ := hrel
    by_cases hlt : i < m
    · have hil : i < l.length := by rw [← hm'.out]; exact hlt
      have hI : (i : Int) < (m : Int) := by omega
      obtain ⟨g, o, rfl, hnc, hg, hra⟩ := hy2'.out.elem i hil
      obtain ⟨t, ht⟩ : ∃ t, t = l.getD i default := ⟨_, rfl⟩
      have htm : t ∈ l := by rw [ht, List.getD_eq_getElem?_getD, List.getElem?_eq_getElem hil]; exact List.getElem_mem hil
      have htv : Hid (Rw 2 V2.c w t.v t.vs) := hy3'.out t htm
      have htk : Hid (l.take (i + 1) = l.take i ++ [t]) := by show _ = _; rw [take_next hil, ht]
      rw [← ht] at hra
      clear ht htm hil
      have hraw := range_below hra hB.out hg
      have hBs := Below.size hB.out
      obtain ⟨As, cs, rfl⟩ := own_form hown.out
      go_upto_region 4 with fail
      refine wp_region_lit ?_
      refine sl_run rfl (.pointer (some ⟨g, o + i * 2, none⟩)) wr (exec_index un41 sz41 _ _ rfl g o m c2 i (by kernel_rfl) (by kernel_rfl) hlt wr) ?_
      simp only [Act.put, List.setIfInBounds_toArray, List.set_cons_zero, List.set_cons_succ]
      refine sl_run rfl (.agg t.cs) wr (exec_load_mid 27 wr _ rfl g (o + i * 2) (by kernel_rfl) t.cs.toList _ hraw Try.underlying27 rfl (by kernel_rfl)) ?_
      refine sl_run rfl (.pointer (some ⟨wr.heap.size, 0, none⟩)) (wr.alloc (.cells (default : TT).cs 27)) (by kernel_rfl) ?_
      simp only [Act.put, List.setIfInBounds_toArray, List.set_cons_zero, List.set_cons_succ]
      refine wpList_store_row rfl 27 _ _ rfl wr.heap.size t.cs (by kernel_rfl) (by kernel_rfl) 27 _ (heap_alloc_new _ _) (by kernel_rfl) (by kernel_rfl) (tt_one t) ?_
      rw [World.setRow_alloc_new]
      refine wpList_nil ?_
      simp only [Act.put, List.setIfInBounds_toArray, List.set_cons_zero, List.set_cons_succ]
      have hd3 : (wr.alloc (.cells t.cs 27)).heap[wr.heap.size]? = some (.cells t.cs 27 (0, 0)) := heap_alloc_new _ _
      have hB3 : Below wr.heap.size wr (wr.alloc (.cells t.cs 27)) := (Below.refl _ _).alloc (Nat.le_refl _) _
      have hs3 : (wr.alloc (.cells t.cs 27)).heap.size = wr.heap.size + 1 := by simp
      obtain ⟨d3, hd3d⟩ : ∃ d, d = wr.heap.size := ⟨_, rfl⟩
      rw [← hd3d] at hd3 ⊢
      generalize wr.alloc _ = w3 at hd3 hB3 hs3
      have hB03 : Below w.heap.size w w3 := hB.out.trans (hB3.mono (by omega))
      have hya : Hid (Rw 3 T3.c w3 (.slice A1 n c1) args) := hy1'.out.below hB03
      have hyv : Hid (Rw 2 V2.c w3 t.v t.vs) := htv.out.below hB03
      have hd3' : Hid (w3.heap[d3]? = some (.cells t.cs 27 (0, 0))) := hd3
      have h03 : Hid (w3.heap[w.heap.size]? = some (.cells #[.int .u8 (k : Int), .string p, .slice A1 n c1] 24 (0, 0))) := (hB3.block _ (by omega)).trans h0.out
      have hne3 : Hid (some d3 ≠ Value.ownBlock (.slice As sel.length cs)) := fun h => by have := (hown.out.lt d3 h.symm).2; omega
      clear hd3 hraw hB03
      go_upto_region 5 with fail
      refine wp_region_lit ?_
      refine sl_run rfl (.agg #[.int .u8 (k : Int), .string p, .slice A1 n c1]) w3 (exec_load_row 24 w3 _ rfl w.heap.size (by kernel_rfl) 24 _ (0, 0) _ h03.out Try.underlying24 rfl (by kernel_rfl)) ?_
      refine sl_run rfl (.agg t.cs) w3 (exec_load_row 27 w3 _ rfl d3 (by kernel_rfl) 27 _ (0, 0) _ hd3'.out Try.underlying27 rfl (by kernel_rfl)) ?_
      simp only [Act.put, List.setIfInBounds_toArray, List.set_cons_zero, List.set_cons_succ]
      obtain ⟨hb, hhb⟩ : ∃ hb, hb = hits k p args t := ⟨_, rfl⟩
      refine sl_call rfl 9 #[.agg #[.int .u8 (k : Int), .string p, .slice A1 n c1], .agg t.cs, .slice none 0 0] (by kernel_rfl) (R := fun v w' => ∃ mv, v = .tuple #[mv, .bool hb] ∧ Below w3.heap.size w3 w') ((match_calls k p t.p args [] t.vs A1 t.A none n t.vs.length 0 c1 t.c 0 hn'.out rfl rfl hn9 (by omega) w3 hya.out hyv.out Rw.nil).mono fun e w' h => by
        obtain ⟨mv, h1, _, h3⟩ := h
        exact ⟨_, h1, mv, by rw [hhb]; rfl, h3⟩) ?_
      rintro _ w4 ⟨mv, rfl, hB4⟩
      simp only [Act.put, List.setIfInBounds_toArray, List.set_cons_zero, List.set_cons_succ]
      refine sl_run rfl (.tuple #[mv, .bool hb]) w4 (by kernel_rfl) ?_
      refine sl_run rfl mv w4 (by kernel_rfl) ?_
      refine sl_run rfl (.bool hb) w4 (by kernel_rfl) ?_
      simp only [Act.put, List.setIfInBounds_toArray, List.set_cons_zero, List.set_cons_succ]
      refine sl_run rfl mv w4 (by kernel_rfl) ?_
      refine sl_run rfl (.bool hb) w4 (by kernel_rfl) ?_
      refine wpList_nil ?_
      simp only [Act.put, List.setIfInBounds_toArray, List.set_cons_zero, List.set_cons_succ]
      have hB5 : Below wr.heap.size wr w4 := hB3.trans (hB4.mono (by omega))
      have hs4 : d3 < w4.heap.size := by have := hB4.size; omega
      have hown4 : Hid (w4.ownsRow (w.heap.size + 1) 27 2 (.slice As sel.length cs) sel.length (flat TT.cs sel)) := own_keep hown.out (fun q hq => hB5.block q (hown.out.lt q hq).2)
      have hins4 : Hid (∀ t ∈ sel, w4.ownsRow (w.heap.size + 1) 46 2 t.v t.vs.length (flat V2.c t.vs)) := fun t ht => own_keep (hins.out t ht) (fun q hq => hB5.block q ((hins.out t ht).lt q hq).2)
      have h04 : Hid (w4.heap[w.heap.size]? = some (.cells #[.int .u8 (k : Int), .string p, .slice A1 n c1] 24 (0, 0))) := (hB4.block _ (by omega)).trans h03.out
      have hd4 : Hid (w4.heap[d3]? = some (.cells t.cs 27 (0, 0))) := (hB4.block _ (by omega)).trans hd3'.out
      have hB04 : Hid (Below w.heap.size w w4) := hB.out.trans (hB5.mono (by omega))
      have hHs4 : w.heap.size + 1 ≤ w4.heap.size := by have := hB5.size; omega
      have hhb' : Hid (hb = hits k p args t) := hhb
      clear hown hins h0 h03 hd3' hB hB3 hB4 hB5 hya hyv hd3d hs3 hBs hHs hhb
      cases hb with
      | true =>
        have hlen := hits_len hhb'.out.symm
        have hkey2 : Hid ((sel.map TT.key ++ [t.key]) = ((l.take (i + 1)).filter (hits k p args)).map TT.key) := by
          show _ = _
          rw [htk.out, List.filter_append, List.map_append, hkey.out]
          simp [← hhb'.out]
        have htv4 : Hid (Rw 2 V2.c w4 (.slice t.A t.vs.length t.c) t.vs) := htv.out.below hB04.out
        clear hkey htk hhb'
        go_upto_region 7 with fail
        have hown5 := hown4.out.drew
        have hins5 : ∀ t ∈ sel, w4.drew.ownsRow (w.heap.size + 1) 46 2 t.v t.vs.length (flat V2.c t.vs) := fun t ht => (hins4.out t ht).drew
        refine wp_region_held_drew (S := fun w' => Below (w.heap.size + 1) w4 w' ∧ w'.heap[d3]? = some (.cells t.cs 27 (0, 0))) (by kernel_rfl) ⟨(Below.refl _ _).drew, hd4.out⟩ (fun hS => ?_)
        change wpAnyH _ _ _ _ _ 10 (Array.replicate 10 false) _ _
        have hB45 : Below w4.heap.size w4 w4.drew := (Below.refl _ _).drew
        generalize hx : w4.drew = w5 at hS hown5 hins5 hB45
        clear hx
        refine held_take 0 rfl (by kernel_rfl) (by kernel_rfl) (by kernel_rfl) (.slice As sel.length cs) (fun _ _ _ h => h) (by kernel_rfl) (fun _ _ => by kernel_rfl) hS ?_
        simp only [Act.put, List.setIfInBounds_toArray, List.set_cons_zero, List.set_cons_succ, List.getElem_toArray, List.getElem_cons_succ, List.getElem_cons_zero]
        refine held_take 1 rfl (by kernel_rfl) (by kernel_rfl) (by kernel_rfl) (.pointer (some ⟨d3, 0, none⟩)) (fun _ _ _ h => h) (by kernel_rfl) (fun _ _ => by kernel_rfl) hS ?_
        simp only [Act.put, List.setIfInBounds_toArray, List.set_cons_zero, List.set_cons_succ, List.getElem_toArray, List.getElem_cons_succ, List.getElem_cons_zero]
        refine held_take 2 rfl (by kernel_rfl) (by kernel_rfl) (by kernel_rfl) (.string t.p) (fun _ _ _ h => h) (by kernel_rfl) (fun w' h => exec_load_cell 9 w' _ rfl ⟨d3, 0, none⟩ (by kernel_rfl) _ (by rw [cell_of_row _ _ _ _ _ _ h.2]; rfl) (fun _ => by kernel_rfl)) hS ?_
        simp only [Act.put, List.setIfInBounds_toArray, List.set_cons_zero, List.set_cons_succ, List.getElem_toArray, List.getElem_cons_succ, List.getElem_cons_zero]
        refine held_take 3 rfl (by kernel_rfl) (by kernel_rfl) (by kernel_rfl) (.pointer (some ⟨d3, 1, none⟩)) (fun _ _ _ h => h) (by kernel_rfl) (fun _ _ => by kernel_rfl) hS ?_
        simp only [Act.put, List.setIfInBounds_toArray, List.set_cons_zero, List.set_cons_succ, List.getElem_toArray, List.getElem_cons_succ, List.getElem_cons_zero]
        refine held_take 4 rfl (by kernel_rfl) (by kernel_rfl) (by kernel_rfl) (.slice t.A t.vs.length t.c) (fun _ _ _ h => h) (by kernel_rfl) (fun w' h => exec_load_cell 25 w' _ rfl ⟨d3, 1, none⟩ (by kernel_rfl) _ (by rw [cell_of_row _ _ _ _ _ _ h.2]; rfl) (fun _ => by kernel_rfl)) hS ?_
        simp only [Act.put, List.setIfInBounds_toArray, List.set_cons_zero, List.set_cons_succ, List.getElem_toArray, List.getElem_cons_succ, List.getElem_cons_zero]
        have hs45 : w4.heap.size ≤ w5.heap.size := hB45.size
        refine held_call 5 rfl (by kernel_rfl) (by kernel_rfl) 29 #[.slice t.A t.vs.length t.c] (by kernel_rfl) (R := fun v w' => w'.ownsRow w5.heap.size 46 2 v t.vs.length (flat V2.c t.vs) ∧ Below w5.heap.size w5 w') ((clone2_calls t.vs t.A t.vs.length t.c w5 rfl (by have := hn'.out; omega) (htv4.out.below hB45)).mono fun e w' h => by
          obtain ⟨v, h1, h2, h3⟩ := h
          exact ⟨v, h1, h2, h3⟩) ?_
        rintro cv w6 ⟨hcl, hB56⟩
        have hS6 : Below (w.heap.size + 1) w4 w6 ∧ w6.heap[d3]? = some (.cells t.cs 27 (0, 0)) := ⟨hS.1.trans (hB56.mono (by omega)), (hB56.block _ (by omega)).trans hS.2⟩
        refine ⟨hS6, ?_⟩
        simp only [Act.put, List.setIfInBounds_toArray, List.set_cons_zero, List.set_cons_succ, List.getElem_toArray, List.getElem_cons_succ, List.getElem_cons_zero]
        obtain ⟨Ac, cc, rfl⟩ := own_form hcl
        have hcl6 : w6.ownsRow (w.heap.size + 1) 46 2 (.slice Ac t.vs.length cc) t.vs.length (flat V2.c t.vs) := own_mono hcl (by omega)
        have hown6 : w6.ownsRow (w.heap.size + 1) 27 2 (.slice As sel.length cs) sel.length (flat TT.cs sel) := own_keep hown5 (fun q hq => hB56.block q (hown5.lt q hq).2)
        have hins6 : ∀ t ∈ sel, w6.ownsRow (w.heap.size + 1) 46 2 t.v t.vs.length (flat V2.c t.vs) := fun t ht => own_keep (hins5 t ht) (fun q hq => hB56.block q ((hins5 t ht).lt q hq).2)
        have hs6 : w.heap.size + 1 ≤ w6.heap.size := by have := hB56.size; omega
        clear hcl hown5 hins5 hB56 hS
        obtain ⟨nt, hnt⟩ : ∃ nt : TT, nt = ⟨t.p, Ac, cc, t.vs⟩ := ⟨_, rfl⟩
        refine held_take 6 rfl (by kernel_rfl) (by kernel_rfl) (by kernel_rfl) (.agg (TT.cs ⟨t.p, Ac, cc, t.vs⟩)) (fun _ _ _ h => h) (by kernel_rfl) (fun _ _ => by kernel_rfl) hS6 ?_
        simp only [Act.put, List.setIfInBounds_toArray, List.set_cons_zero, List.set_cons_succ, List.getElem_toArray, List.getElem_cons_succ, List.getElem_cons_zero]
        refine held_new 7 rfl (by kernel_rfl) (by kernel_rfl) (.slice (some ⟨w6.heap.size, 0, none⟩) 1 1) (w6.alloc (.cells (TT.cs ⟨t.p, Ac, cc, t.vs⟩) 27)) (by kernel_rfl) (fun w' => (Below (w.heap.size + 1) w4 w' ∧ w'.heap[d3]? = some (.cells t.cs 27 (0, 0))) ∧ w'.ownsRow (w.heap.size + 1) 46 2 (.slice Ac t.vs.length cc) t.vs.length (flat V2.c t.vs) ∧ w'.ownsRow (w.heap.size + 1) 27 2 (.slice As sel.length cs) sel.length (flat TT.cs sel) ∧ (∀ t ∈ sel, w'.ownsRow (w.heap.size + 1) 46 2 t.v t.vs.length (flat V2.c t.vs)) ∧ w'.heap[w6.heap.size]? = some (.cells (TT.cs ⟨t.p, Ac, cc, t.vs⟩) 27 (0, 0)))
          ⟨⟨hS6.1.alloc (by omega) _, (heap_alloc_old _ _ (by have := (Array.getElem?_eq_some_iff.1 hS6.2).1; omega)).trans hS6.2⟩, hcl6.alloc _, hown6.alloc _, fun t ht => (hins6 t ht).alloc _, heap_alloc_new _ _⟩ ?_
        rintro w7 ⟨hS7, hcl7, hown7, hins7, hnew7⟩
        refine ⟨hS7, ?_⟩
        simp only [Act.put, List.setIfInBounds_toArray, List.set_cons_zero, List.set_cons_succ, List.getElem_toArray, List.getElem_cons_succ, List.getElem_cons_zero]
        have hs7 : w.heap.size + 1 ≤ w7.heap.size := by have := hS7.1.size; omega
        generalize w6.heap.size = f at hnew7 ⊢
        clear hS6 hcl6 hown6 hins6 hs6
        refine held_one 8 rfl (by kernel_rfl) (by kernel_rfl) (fun K hK => ?_)
        refine wp_append_own w7 _ _ 41 rfl (w.heap.size + 1) 27 i27 zt 2 40 Try.underlying41 hi27 hz0 hz1 hz2 rfl (by decide) (.slice As sel.length cs) sel.length (flat TT.cs sel) (by kernel_rfl) hown7 ⟨f, 0, none⟩ 1 1 (TT.cs ⟨t.p, Ac, cc, t.vs⟩).toList (by kernel_rfl) rfl (fun j u hu => by rw [Addr.add_mid, Nat.zero_add, cell_of_row _ _ _ _ _ _ hnew7]; simpa using hu) (tt_ones _) (by unfold maxLen; omega) (by omega) hs7 ?_
        intro v9 w9 hw9 hgr9 hnil9
        clear hnil9
        have hs79 := hgr9.size
        have hd9 : w9.heap[d3]? = some (.cells t.cs 27 (0, 0)) := (hgr9.block d3 (Array.getElem?_eq_some_iff.1 hS7.2).1 hne3.out).trans hS7.2
        have hS9 : Below (w.heap.size + 1) w4 w9 ∧ w9.heap[d3]? = some (.cells t.cs 27 (0, 0)) := ⟨Below.grown hS7.1 hgr9 hs7 (fun q hq => (hown7.lt q hq).1), hd9⟩
        have hcl9 : w9.ownsRow (w.heap.size + 1) 46 2 (.slice Ac t.vs.length cc) t.vs.length (flat V2.c t.vs) := own_keep hcl7 (fun q hq => hgr9.block q (hcl7.lt q hq).2 (own_other hown7 hcl7 (by decide) q hq))
        have hins9 : ∀ t ∈ sel, w9.ownsRow (w.heap.size + 1) 46 2 t.v t.vs.length (flat V2.c t.vs) := fun t ht => own_keep (hins7 t ht) (fun q hq => hgr9.block q ((hins7 t ht).lt q hq).2 (own_other hown7 (hins7 t ht) (by decide) q hq))
        have hown9 : Hid (w9.ownsRow (w.heap.size + 1) 27 2 v9 (sel ++ [(⟨t.p, Ac, cc, t.vs⟩ : TT)]).length (flat TT.cs (sel ++ [(⟨t.p, Ac, cc, t.vs⟩ : TT)]))) := by
          show World.ownsRow _ _ _ _ _ _ _
          rw [flat_app, List.length_append]; exact hw9
        clear hw9
        refine hK _ _ hS9 ?_
        simp only [Act.put, List.setIfInBounds_toArray, List.set_cons_zero, List.set_cons_succ, List.getElem_toArray, List.getElem_cons_succ, List.getElem_cons_zero]
        refine held_take 9 rfl (by kernel_rfl) (by kernel_rfl) (by kernel_rfl) v9 (fun _ _ _ h => h) (by kernel_rfl) (fun _ _ => by kernel_rfl) hS9 ?_
        simp only [Act.put, List.setIfInBounds_toArray, List.set_cons_zero, List.set_cons_succ, List.getElem_toArray, List.getElem_cons_succ, List.getElem_cons_zero]
        refine wpAnyH_done (by kernel_rfl) ?_ _
        have h09 : Hid (w9.heap[w.heap.size]? = some (.cells #[.int .u8 (k : Int), .string p, .slice A1 n c1] 24 (0, 0))) := (hS9.1.block _ (by omega)).trans h04.out
        have hB09 : Hid (Below w.heap.size w w9) := hB04.out.trans (hS9.1.mono (by omega))
        have hs9 : w.heap.size + 1 ≤ w9.heap.size := by omega
        have hins10 : Hid (∀ t' ∈ sel ++ [(⟨t.p, Ac, cc, t.vs⟩ : TT)], w9.ownsRow (w.heap.size + 1) 46 2 t'.v t'.vs.length (flat V2.c t'.vs)) := fun t' ht' => by
          rcases List.mem_append.1 ht' with h | h
          · exact hins9 t' h
          · rw [List.mem_singleton.1 h]; exact hcl9
        have hkey9 : Hid ((sel ++ [(⟨t.p, Ac, cc, t.vs⟩ : TT)]).map TT.key = ((l.take (i + 1)).filter (hits k p args)).map TT.key) := by
          show _ = _
          rw [← hkey2.out, List.map_append]; rfl
        have hsl9 : (sel ++ [(⟨t.p, Ac, cc, t.vs⟩ : TT)]).length ≤ i + 1 := by simp; omega
        generalize sel ++ [(⟨t.p, Ac, cc, t.vs⟩ : TT)] = sel9 at hown9 hins10 hkey9 hsl9
        clear hS7 hcl7 hown7 hins7 hnew7 hgr9 hS9 hcl9 hins9 hd9 hown4 hins4 h04 hd4 hB04 hkey2 htv4 hB45 hK
        rename_i hK
        refine hK _ _ ?_
        go_wp2_with fail
        go_roundw
        case rel => exact ⟨i + 1, sel9, by omega, by go_num, hsl9, hkey9, hown9, hins10, h09, hs9, hB09⟩
        case measure => simp [intOf]; omega
      | false =>
        have hkey2 : Hid (sel.map TT.key = ((l.take (i + 1)).filter (hits k p args)).map TT.key) := by
          show _ = _
          rw [htk.out, List.filter_append, List.map_append, hkey.out]
          simp [← hhb'.out]
        clear hkey htk hhb' hd4
        go_wp2_with fail
        go_roundw
        case rel => exact ⟨i + 1, sel, by omega, by go_num, by omega, hkey2, hown4, hins4, h04, hHs4, hB04⟩
        case measure => simp [intOf]; omega
    · have hI : ¬ (i : Int) < (m : Int) := by omega
      have hkey2 : Hid (sel.map TT.key = (l.filter (hits k p args)).map TT.key) := by
        show _ = _
        rw [hkey.out, List.take_of_length_le (by have := hm'.out; omega)]
      have hrs : Hid (Rw 2 TT.cs wr u5 sel) := Rw.own tt_size (by decide) hown.out
      have hri : Hid (∀ t ∈ sel, Rw 2 V2.c wr t.v t.vs) := fun t ht => Rw.own v2_size (by decide) (hins.out t ht)
      clear hown hins hkey h0
      go_upto_region 9 with fail
      refine wp_region_lit ?_
      refine sl_run rfl u5 wr (by kernel_rfl) ?_
      refine sl_call rfl 30 #[u5] (by kernel_rfl) (R := fun v w' => Rw 2 TT.cs w' v sel ∧ w' = wr) ((clipT_calls sel u5 wr (by omega) hrs.out).mono fun e w' h => by obtain ⟨v, h1, h2⟩ := h; exact ⟨v, h1, h2⟩) ?_
      rintro v7 w7 ⟨hr7, rfl⟩
      have hr7' : Hid (Rw 2 TT.cs w7 v7 sel) := hr7
      clear hr7
      refine sl_run rfl v7 w7 (by kernel_rfl) ?_
      refine wpList_nil ?_
      simp only [Act.put, List.setIfInBounds_toArray, List.set_cons_zero, List.set_cons_succ]
      go_wp2_with fail
      go_ret
      exact ⟨_, rfl, _, hr7'.out, hri.out, hkey2.out, hB.out⟩
end Go.Proofs.Ytehgblnhhlgikaa.Bi
