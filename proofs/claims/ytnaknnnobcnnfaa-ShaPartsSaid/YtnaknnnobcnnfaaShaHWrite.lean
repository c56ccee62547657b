/-
  SHA-256: what is written to a hash.
-/
import Derived.Test.YtnaknnnobcnnfaaShaMem
import Derived.Test.YtnaknnnobcnnfaaShaTail
namespace Go.Proofs.Ytnaknnnobcnnfaa.Sha
open Go.RowKit
set_option linter.unusedVariables false
set_option linter.unusedSimpArgs false
set_option pp.maxSteps 50000
theorem agg22' (w : World) : (isAgg 22).run Try.prog w = .ok false w := by kernel_rfl
theorem agg36' (w : World) : (isAgg 36).run Try.prog w = .ok false w := by kernel_rfl
theorem size22' (w : World) : (sizeOf 22).run Try.prog w = .ok 1 w := by kernel_rfl
theorem size36' (w : World) : (sizeOf 36).run Try.prog w = .ok 1 w := by kernel_rfl
theorem bodyPost_fall {P : Program} {fn : Func} {R : Ending → World → Prop} {a : Act} {w : World} {v : Value}
    (hr : (results fn a.tmps).run P w = .ok v w) (hd : a.defers = []) (hR : R (.returned v) w) : bodyPost P fn R .normal a w := ⟨hd, v, hr, hR⟩
theorem own_le {w : World} {base n : Nat} {v : Value} {xs : List Value} (h : w.ownsRow base 5 1 v n xs) : w.ownsRow 0 5 1 v n xs := by
  refine ⟨h.1, ?_⟩
  rcases h.2 with h2 | ⟨g', cap, cur, rfl, h1, h3⟩
  · exact .inl h2
  · exact .inr ⟨g', cap, cur, rfl, Nat.zero_le _, h3⟩
theorem exec_load_mid {P : Program} {o : Oper} (ty : TypeId) {a : Act} (w : World) (x : Operand) (ho : o.op = .load ty x) (b k : Nat) (hx : a.eval x = .pointer (some ⟨b, k, none⟩)) (cs : List Value) (d : TypeDesc) (hc : w.rangeAt b k cs)
    (hu : P.underlying ty = some d) (hd : d.isRow = true) (hi : (P.info? ty).map (·.size) = some cs.length) : (execOp a.eval o).run P w = .ok (.value (.agg cs.toArray)) w := by
  unfold execOp
  simp only [ho, hx, Instr.loadAt, Instr.sureAddr, Sem.run_bind, Sem.run_pure, Result.andThen_ok, run_loadVar_mid w b k ty cs d hc hu hd hi]
set_option maxRecDepth 100000 in
set_option maxHeartbeats 1000000 in
theorem hwrite_calls (s r b : List Nat) (n : Nat) (hs8 : s.length = 8) (hsw : ∀ x ∈ s, x < 4294967296) (hrb : ∀ j, r.getD j 0 < 256) (hbb : ∀ j, b.getD j 0 < 256) (hr9 : r.length ≤ 1000000000) (hb9 : b.length ≤ 1000000000) (hn0 : n ≤ 1000000000000) (v : Value) (base g : Nat) (w : World)
    (hg : w.heap[g]? = some (.cells (hashC s v n) 46 (0, 0))) (hown0 : w.ownsRow base 5 1 v r.length (vals r)) (A0 : Option Addr) (c0 : Nat) (hy : Bytes w (.slice A0 b.length c0) b) (hyg : b ≠ [] → (Value.slice A0 b.length c0).ownBlock ≠ some g) :
    Calls Try.prog 13 #[.pointer (some ⟨g, 0, none⟩), .slice A0 b.length c0] w fun e w' => e = .returned (.tuple #[]) ∧ ∃ v', w'.heap[g]? = some (.cells (hashC (st s (r ++ b) ((r ++ b).length / 64)) v' (n + b.length)) 46 (0, 0)) ∧
      w'.ownsRow w.heap.size 5 1 v' ((r ++ b).drop (64 * ((r ++ b).length / 64))).length (vals ((r ++ b).drop (64 * ((r ++ b).length / 64)))) ∧ Kept2 w w' g v.ownBlock := by
  obtain ⟨i5, hi5, hz0, hz1, hz2⟩ := info5'
  have hgl : g < w.heap.size := (Array.getElem?_eq_some_iff.1 hg).1
  go_enter Try.func13, Try.ntmps13
  go_upto_region 1 with fail
  refine wp_region_lit ?_
  have hc9 : w.cell? ⟨g, 9, none⟩ = some (.int .u64 (n : Int)) := by rw [cell_of_row _ _ _ _ _ _ hg]; exact hashC_9 s hs8 v n
  refine sl_run rfl (.pointer (some ⟨g, 0, none⟩)) w (by kernel_rfl) ?_
  refine sl_run rfl (.pointer (some ⟨g, 0, none⟩)) w (by kernel_rfl) ?_
  refine sl_run rfl (.pointer (some ⟨g, 9, none⟩)) w (by kernel_rfl) ?_
  refine sl_run rfl _ w (exec_load_cell 36 w _ rfl ⟨g, 9, none⟩ (by kernel_rfl) _ hc9 agg36') ?_
  refine sl_run rfl (.slice A0 b.length c0) w (by kernel_rfl) ?_
  refine sl_run rfl (.int .i64 b.length) w (by kernel_rfl) ?_
  refine sl_run rfl (.int .u64 (IntKind.u64.wrap b.length)) w (by kernel_rfl) ?_
  refine sl_run rfl (.int .u64 (IntKind.u64.wrap (n + IntKind.u64.wrap b.length))) w (by kernel_rfl) ?_
  rw [show IntKind.u64.wrap ((n : Int) + IntKind.u64.wrap (b.length : Int)) = ((n + b.length : Nat) : Int) by rw [IntKind.wrap_u64, IntKind.wrap_u64]; omega]
  refine sl_run rfl (.pointer (some ⟨g, 0, none⟩)) w (by kernel_rfl) ?_
  refine sl_run rfl (.pointer (some ⟨g, 9, none⟩)) w (by kernel_rfl) ?_
  refine wpList_store_cell rfl 36 _ _ rfl g 9 (by kernel_rfl) (.int .u64 ((n + b.length : Nat) : Int)) (by kernel_rfl) _ hc9 (frozen_of_row _ _ _ _ _ hg) size36' rfl rfl ?_
  refine wpList_nil ?_
  have hg1 := heap_setCell_same w g 9 _ _ (.int .u64 ((n + b.length : Nat) : Int)) hg
  rw [hashC_set9 s hs8] at hg1
  have hk1 : Kept2 w (w.setCell ⟨g, 9, none⟩ (.int .u64 ((n + b.length : Nat) : Int))) g v.ownBlock := (Kept2.refl w g _).setCell 9 _
  have hy1 : Bytes (w.setCell ⟨g, 9, none⟩ (.int .u64 ((n + b.length : Nat) : Int))) (.slice A0 b.length c0) b := hy.kept hk1.size (fun hl k hk => Below.heap_setCell _ _ _ _ (fun e => hyg hl (by rw [hk]; exact congrArg some e)))
  have hown1 : (w.setCell ⟨g, 9, none⟩ (.int .u64 ((n + b.length : Nat) : Int))).ownsRow base 5 1 v r.length (vals r) := own_keep hown0 (fun k hk => Below.heap_setCell _ _ _ _ (fun e => own_ne_hash hown0 hg (by rw [hk]; exact congrArg some e)))
  have hvg := own_ne_hash hown0 hg
  generalize World.setCell _ _ _ = w1 at hg1 hk1 hy1 hown1
  clear hc9
  go_upto_region 2 with fail
  refine wp_region_lit ?_
  have hc8 : w1.cell? ⟨g, 8, none⟩ = some v := by rw [cell_of_row _ _ _ _ _ _ hg1]; exact hashC_8 s hs8 v _
  refine sl_run rfl (.pointer (some ⟨g, 0, none⟩)) w1 (by kernel_rfl) ?_
  refine sl_run rfl (.pointer (some ⟨g, 0, none⟩)) w1 (by kernel_rfl) ?_
  refine sl_run rfl (.pointer (some ⟨g, 0, none⟩)) w1 (by kernel_rfl) ?_
  refine sl_run rfl (.pointer (some ⟨g, 8, none⟩)) w1 (by kernel_rfl) ?_
  refine sl_run rfl v w1 (exec_load_cell 22 w1 _ rfl ⟨g, 8, none⟩ (by kernel_rfl) v hc8 agg22') ?_
  refine sl_run rfl (.slice A0 b.length c0) w1 (by kernel_rfl) ?_
  refine append22 rfl _ _ rfl 0 v r b (by kernel_rfl) (own_le hown1) _ (by kernel_rfl) hy1 (by omega) (Nat.zero_le _) ?_
  intro v2 w2 hown2 hgrow2 _
  have hg2 : w2.heap[g]? = some (.cells (hashC s v (n + b.length)) 46 (0, 0)) := by rw [hgrow2.block g (by have := hk1.size; omega) (fun e => hvg e.symm)]; exact hg1
  have hk2 : Kept2 w w2 g v.ownBlock := grownBy.kept2 hk1 hgrow2 (fun k hk _ => hk.symm)
  have hc82 : w2.cell? ⟨g, 8, none⟩ = some v := by rw [cell_of_row _ _ _ _ _ _ hg2]; exact hashC_8 s hs8 v _
  refine sl_run rfl (.pointer (some ⟨g, 0, none⟩)) w2 (by kernel_rfl) ?_
  refine sl_run rfl (.pointer (some ⟨g, 8, none⟩)) w2 (by kernel_rfl) ?_
  have hv2 : v2.cells = #[v2] ∧ v2.oneCell' = true := by
    rcases hown2.2 with ⟨rfl, _⟩ | ⟨g2, cap, cur, rfl, _⟩ <;> exact ⟨rfl, rfl⟩
  refine wpList_store_cell rfl 22 _ _ rfl g 8 (by kernel_rfl) v2 (by kernel_rfl) _ hc82 (frozen_of_row _ _ _ _ _ hg2) size22' hv2.1 hv2.2 ?_
  refine wpList_nil ?_
  have hg3 := heap_setCell_same w2 g 8 _ _ v2 hg2
  rw [hashC_set8 s hs8] at hg3
  have hv2g : v2.ownBlock ≠ some g := own_ne_hash hown2 hg2
  have hk3 : Kept2 w (w2.setCell ⟨g, 8, none⟩ v2) g v.ownBlock := hk2.setCell 8 _
  have hown3 : (w2.setCell ⟨g, 8, none⟩ v2).ownsRow 0 5 1 v2 (r ++ b).length (vals (r ++ b)) := own_keep hown2 (fun k hk => Below.heap_setCell _ _ _ _ (fun e => hv2g (by rw [hk]; exact congrArg some e)))
  have hv2w : Hid (∀ k, v2.ownBlock = some k → k < (w2.setCell ⟨g, 8, none⟩ v2).heap.size) := fun k hk => (hown3.lt k hk).2
  generalize World.setCell _ _ _ = X at hg3 hk3 hown3 hv2w
  clear hown2 hgrow2 hg2 hk2 hc82 hg1 hk1 hy1 hown1 hc8
  simp only [Act.put, List.setIfInBounds_toArray, List.set_cons_zero, List.set_cons_succ]
  obtain ⟨L, hL⟩ : ∃ L, L = r ++ b := ⟨_, rfl⟩
  have hLb : ∀ j, L.getD j 0 < 256 := by
    rw [hL]; exact getD_lt (by decide) (fun x hx => by
      rcases List.mem_append.1 hx with h | h
      · exact mem_lt_of_getD hrb x h
      · exact mem_lt_of_getD hbb x h)
  have hL9 : L.length ≤ 2000000000 := by rw [hL, List.length_append]; omega
  rw [← hL] at hown3
  have hL' : Hid (L = r ++ b) := hL
  clear hL
  obtain ⟨A2, cp2, hv2f⟩ : ∃ A cp, v2 = .slice A L.length cp := by
    rcases hown3.2 with ⟨rfl, h⟩ | ⟨g2, cap, cur, rfl, _⟩
    · exact ⟨none, 0, by rw [h]⟩
    · exact ⟨_, cap, rfl⟩
  subst hv2f
  obtain ⟨m, hm⟩ : ∃ m, m = L.length := ⟨_, rfl⟩
  have hm' : Hid (m = L.length) := hm
  rw [← hm] at hg3 hown3 hv2g hv2w hL9 ⊢
  clear hm
  go_wp2_with fail
  go_loopw [4] (fun u wr => ∃ j a : Nat, a = 64 * j ∧ a ≤ m ∧ u = .int .i64 a ∧ wr.heap[g]? = some (.cells (hashC (st s L j) (.slice A2 m cp2) (n + b.length)) 46 (0, 0)) ∧ wr.ownsRow 0 5 1 (.slice A2 m cp2) m (vals L) ∧ Hid (Kept2 w wr g v.ownBlock)) (fun u _ => m - (intOf u).toNat)
  case atStart => exact ⟨0, 0, rfl, by omega, rfl, hg3, hown3, hk3⟩
  case round =>
    clear hg3 hown3 hk3
    obtain ⟨j, a, ha, hae, rfl, hg3, hown3, hk3⟩ := hrel
    have hj8 : (st s L j).length = 8 := st_length _ _ hs8 j
    have hc8 : wr.cell? ⟨g, 8, none⟩ = some (.slice A2 m cp2) := by rw [cell_of_row _ _ _ _ _ _ hg3]; exact hashC_8 _ hj8 _ _
    have hwr : IntKind.i64.wrap ((m : Int) - (a : Int)) = (m : Int) - (a : Int) := by rw [IntKind.wrap_i64]; omega
    have ha' : Hid (a = 64 * j) := ha
    clear ha
    by_cases hlt : a + 64 ≤ m
    · have hge : (64 : Int) ≤ (m : Int) - (a : Int) := by omega
      obtain ⟨q, rfl, hqs, hmc⟩ : ∃ q, A2 = some ⟨q, 0, none⟩ ∧ q < wr.heap.size ∧ m ≤ cp2 := by
        rcases hown3.2 with ⟨h, h2⟩ | ⟨q, cap, cur, h, _, h3, h4, _⟩
        · omega
        · injection h with h5 _ h6; subst h6; exact ⟨q, h5, (Array.getElem?_eq_some_iff.1 h3).1, h4⟩
      have hlie : Lies wr q 0 L := lies_own hown3
      have hqg : q ≠ g := fun e => hv2g (by rw [← e]; rfl)
      go_upto_region 6 with fail
      have hgs : g < wr.heap.size := (Array.getElem?_eq_some_iff.1 hg3).1
      have hblk : ∀ {k : Nat} {w' : World}, k < wr.heap.size → Below wr.heap.size wr w' → w'.heap[k]? = wr.heap[k]? := fun hk hw => hw.block _ hk
      refine wp_region_quiet_tail 16 (Below wr.heap.size wr) (by kernel_rfl) (by kernel_rfl) (Below.refl _ _).drew ?_
      simp only [List.take_succ_cons, List.take_zero, List.drop_succ_cons, List.drop_zero]
      refine quiet_run rfl (.pointer (some ⟨g, 0, none⟩)) (fun _ _ => by kernel_rfl) ?_
      refine quiet_run rfl (.pointer (some ⟨g, 0, none⟩)) (fun _ _ => by kernel_rfl) ?_
      refine quiet_run rfl (.pointer (some ⟨g, 0, none⟩)) (fun _ _ => by kernel_rfl) ?_
      refine quiet_run rfl (.pointer (some ⟨g, 0, none⟩)) (fun _ _ => by kernel_rfl) ?_
      refine quiet_run rfl (.agg (words (st s L j))) (fun w' hw => exec_load_mid 43 w' _ rfl g 0 (by kernel_rfl) (words (st s L j)).toList _ (range_hash hj8 (by rw [hblk hgs hw]; exact hg3)) Try.underlying43 rfl (by rw [Array.length_toList, words_size, hj8]; kernel_rfl)) ?_
      refine quiet_run rfl (.pointer (some ⟨g, 0, none⟩)) (fun _ _ => by kernel_rfl) ?_
      refine quiet_run rfl (.pointer (some ⟨g, 0, none⟩)) (fun _ _ => by kernel_rfl) ?_
      refine quiet_run rfl (.pointer (some ⟨g, 8, none⟩)) (fun _ _ => by kernel_rfl) ?_
      refine quiet_run rfl (.slice (some ⟨q, 0, none⟩) m cp2) (fun w' hw => exec_load_cell 22 w' _ rfl ⟨g, 8, none⟩ (by kernel_rfl) _ (by rw [hw.cell (by exact hgs)]; exact hc8) agg22') ?_
      refine quiet_run rfl (.int .i64 a) (fun _ _ => by kernel_rfl) ?_
      refine quiet_run rfl (.int .i64 a) (fun _ _ => by kernel_rfl) ?_
      refine quiet_run rfl (.int .i64 (IntKind.i64.wrap ((a : Int) + 64))) (fun _ _ => by kernel_rfl) ?_
      rw [show IntKind.i64.wrap ((a : Int) + 64) = ((a + 64 : Nat) : Int) by rw [IntKind.wrap_i64]; omega]
      refine quiet_run rfl (.slice (some ⟨q, 0 + a, none⟩) (a + 64 - a) (cp2 - a)) (fun w' _ => exec_slice_lh _ _ _ rfl q 0 m cp2 a (a + 64) (by kernel_rfl) (by kernel_rfl) (by kernel_rfl) (by omega) (by omega) w') ?_
      rw [show a + 64 - a = 64 by omega, Nat.zero_add]
      refine quiet_fn rfl 19 #[.agg (words (st s L j)), .slice (some ⟨q, a, none⟩) 64 (cp2 - a)] (fun _ _ => by kernel_rfl) (.agg (words (st s L (j + 1)))) (fun w' hw => (block_calls (st s L j) hj8 (st_lt _ _ hs8 hsw j) (fun t => L.getD (64 * j + t) 0) q a 64 (cp2 - a) (Nat.le_refl _) (by omega) w' (fun t ht => by
        have := hlie (a + t) (by have := hm'.out; omega)
        rw [hw.cell (by exact hqs), ← ha'.out]; rw [Nat.zero_add] at this; exact this) (fun t ht => hLb _)).mono fun e w2 h => ⟨h.1, hw.trans (h.2.mono hw.size)⟩) ?_
      refine quiet_run rfl (.pointer (some ⟨g, 0, none⟩)) (fun _ _ => by kernel_rfl) ?_
      refine quiet_run rfl (.pointer (some ⟨g, 0, none⟩)) (fun _ _ => by kernel_rfl) ?_
      refine wpQuiet_nil ?_
      intro w5 hB5
      have h5g : w5.heap[g]? = some (.cells (hashC (st s L j) (.slice (some ⟨q, 0, none⟩) m cp2) (n + b.length)) 46 (0, 0)) := by rw [hblk hgs hB5]; exact hg3
      have hj9 : (st s L (j + 1)).length = 8 := st_length _ _ hs8 _
      refine wpList_store_mid rfl 43 _ _ rfl g 0 (words (st s L (j + 1))) (by kernel_rfl) (by kernel_rfl) (by rw [words_size, hj9]; exact there_hash hj8 h5g) (by rw [words_size, hj9]; kernel_rfl) (words_one _) ?_
      refine wpList_nil ?_
      have h6g := setCells_hash (s' := st s L (j + 1)) hj8 hj9 h5g
      have h6o : (w5.setCells g 0 (words (st s L (j + 1))).toList).ownsRow 0 5 1 (.slice (some ⟨q, 0, none⟩) m cp2) m (vals L) := own_keep hown3 (fun k hk => by
        have e : k = q := by simp [Value.ownBlock] at hk; omega
        rw [setCells_other _ _ _ _ _ (by omega), hblk (by omega) hB5])
      have h6k : Hid (Kept2 w (w5.setCells g 0 (words (st s L (j + 1))).toList) g v.ownBlock) := (Kept2.below hk3.out hB5).setCells 0 _
      generalize World.setCells _ _ _ _ = w6 at h6g h6o h6k
      simp only [Act.put, List.setIfInBounds_toArray, List.set_cons_zero, List.set_cons_succ]
      clear hg3 hown3 hk3 h5g hc8 hlie hblk hwr hge
      go_wp2_with fail
      go_roundw
      case rel => exact ⟨j + 1, a + 64, by have := ha'.out; omega, by omega, by go_num, h6g, h6o, h6k⟩
      case measure => simp [intOf]; omega
    · have hnge : ¬ (64 : Int) ≤ (m : Int) - (a : Int) := by omega
      have hj64 : j = L.length / 64 := by have := hm'.out; have := ha'.out; omega
      have hgs : g < wr.heap.size := (Array.getElem?_eq_some_iff.1 hg3).1
      have hws : w.heap.size ≤ wr.heap.size := hk3.out.size
      have hld : (L.drop a).length = m - a := by rw [List.length_drop, hm'.out]
      obtain ⟨A3, c3, hex, hy3⟩ : ∃ A3 c3, (∀ {o : Oper} {ac : Act} (x lo : Operand), o.op = .slice 22 x (some lo) none none → ac.eval x = .slice A2 m cp2 → ac.eval lo = .int .i64 (a : Int) → (execOp ac.eval o).run Try.prog wr = .ok (.value (.slice A3 (m - a) c3)) wr) ∧ Bytes wr (.slice A3 (m - a) c3) (L.drop a) := by
        rcases hown3.2 with ⟨h, h2⟩ | ⟨q, cap, cur, h, _, h3, h4, _⟩
        · injection h with h5 h6 h7
          subst h5 h7
          have ha0 : a = 0 := by omega
          subst h2 ha0
          refine ⟨none, 0, fun x lo ho hx hl => exec_slice_l0 x lo ho hx hl wr, .inl ⟨none, 0, rfl, ?_, fun _ => rfl⟩⟩
          apply List.eq_nil_of_length_eq_zero; rw [hld]
        · injection h with h5 _ h6
          subst h5 h6
          refine ⟨_, cp2 - a, fun x lo ho hx hl => exec_slice_l x lo ho q 0 m cp2 a hx hl hae wr, .inr ⟨q, _, cp2 - a, by rw [hld], by rw [hld]; omega, (Array.getElem?_eq_some_iff.1 h3).1, ?_⟩⟩
          by_cases hca : cp2 = a
          · intro t ht; rw [hld] at ht; omega
          · rw [if_neg hca]; exact (lies_own hown3).drop a
      go_upto_region 7 with fail
      refine wp_region_lit ?_
      refine sl_run rfl (.pointer (some ⟨g, 0, none⟩)) wr (by kernel_rfl) ?_
      refine sl_run rfl (.pointer (some ⟨g, 0, none⟩)) wr (by kernel_rfl) ?_
      refine sl_run rfl (.pointer (some ⟨g, 0, none⟩)) wr (by kernel_rfl) ?_
      refine sl_run rfl (.pointer (some ⟨g, 8, none⟩)) wr (by kernel_rfl) ?_
      refine sl_run rfl (.slice A2 m cp2) wr (exec_load_cell 22 wr _ rfl ⟨g, 8, none⟩ (by kernel_rfl) _ hc8 agg22') ?_
      refine sl_run rfl (.int .i64 a) wr (by kernel_rfl) ?_
      refine sl_run rfl (.slice A3 (m - a) c3) wr (hex _ _ rfl (by kernel_rfl) (by kernel_rfl)) ?_
      refine append22 rfl _ _ rfl w.heap.size (.slice none 0 0) [] (L.drop a) (by kernel_rfl) (World.ownsRow_nil _ _ _ _) _ (by kernel_rfl) hy3 (by rw [hld]; simp; omega) hws ?_
      intro v7 w7 hown7 hgrow7 hnil7
      clear hnil7
      rw [List.nil_append] at hown7
      have hg7 : w7.heap[g]? = some (.cells (hashC (st s L j) (.slice A2 m cp2) (n + b.length)) 46 (0, 0)) := by rw [hgrow7.block g hgs (by simp [Value.ownBlock])]; exact hg3
      have hk7 : Kept2 w w7 g v.ownBlock := grownBy.kept2 hk3.out hgrow7 (fun k hk => by simp [Value.ownBlock] at hk)
      have hv7 : v7.cells = #[v7] ∧ v7.oneCell' = true := by
        rcases hown7.2 with ⟨rfl, _⟩ | ⟨g2, cap, cur, rfl, _⟩ <;> exact ⟨rfl, rfl⟩
      have hc87 : w7.cell? ⟨g, 8, none⟩ = some (.slice A2 m cp2) := by rw [cell_of_row _ _ _ _ _ _ hg7]; exact hashC_8 _ hj8 _ _
      refine sl_run rfl (.pointer (some ⟨g, 0, none⟩)) w7 (by kernel_rfl) ?_
      refine sl_run rfl (.pointer (some ⟨g, 8, none⟩)) w7 (by kernel_rfl) ?_
      refine wpList_store_cell rfl 22 _ _ rfl g 8 (by kernel_rfl) v7 (by kernel_rfl) _ hc87 (frozen_of_row _ _ _ _ _ hg7) size22' hv7.1 hv7.2 ?_
      refine wpList_nil ?_
      have hg8 := heap_setCell_same w7 g 8 _ _ v7 hg7
      rw [hashC_set8 _ hj8] at hg8
      have hv7g : v7.ownBlock ≠ some g := own_ne_hash hown7 hg7
      have hk8 : Kept2 w (w7.setCell ⟨g, 8, none⟩ v7) g v.ownBlock := hk7.setCell 8 _
      have hown8 : (w7.setCell ⟨g, 8, none⟩ v7).ownsRow w.heap.size 5 1 v7 (L.drop a).length (vals (L.drop a)) := own_keep hown7 (fun k hk => Below.heap_setCell _ _ _ _ (fun e => hv7g (by rw [hk]; exact congrArg some e)))
      refine bodyPost_fall (v := .tuple #[]) (by kernel_rfl) (by kernel_rfl) ?_
      refine ⟨rfl, v7, ?_, ?_, hk8⟩
      · rw [← hL'.out, ← hj64]; exact hg8
      · rw [← hL'.out, ← hj64, ← ha'.out]; exact hown8
end Go.Proofs.Ytnaknnnobcnnfaa.Sha
