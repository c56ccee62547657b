/-
  The law PosetBack, walked.
-/
import Derived.Test.YtfbbpodlemllcaaDoorPoBackP
import Derived.Test.YtfbbpodlemllcaaDoorPoLaw3
import Derived.Test.YtfbbpodlemllcaaDoorPoLaw6
import Derived.Test.YtfbbpodlemllcaaDoorPoLaw8p
import Derived.Deep.LoopGhost
namespace Go.Proofs.YtfbbpodlemllcaaDoor
open Go.RowKit Go.Shelf
set_option linter.unusedVariables false
set_option linter.unusedSimpArgs false
set_option pp.maxSteps 50000

theorem exec_add2 {o : Oper} {a : Act} (x y : Operand) (ho : o.op = .binOp .add 3 x y 3) (u v : Int) (hx : a.eval x = .int .i64 u) (hy : a.eval y = .int .i64 v) (h0 : 0 ≤ u + v) (h1 : u + v ≤ 9223372036854775807) (w : World) : (execOp a.eval o).run Tryd.prog w = .ok (.value (.int .i64 (u + v))) w := by
  unfold execOp
  have hw : IntKind.i64.wrap (u + v) = u + v := by rw [IntKind.wrap_i64]; omega
  simp [ho, hx, hy, eqGuard, binOp_add, Op.intArith, hw]
theorem at_callsR (up : List Nat) (hs : Small up) (A : Option Addr) (n c : Nat) (hn : n = up.length) (a b : Int) (w : World) (ht : Tab w) (hy : Ms w (.slice A n c) up) (hat : atS up a b) :
    Calls Tryd.prog 19 #[.slice A n c, .int .i64 a, .int .i64 b] w fun e w' => ∃ v, e = .returned v ∧ v = .bool true ∧ Below w.heap.size w w' :=
  (at_calls up hs A n c hn a b w ht hy).mono fun e w' h => ⟨_, h.1, by rw [tr_true hat], h.2⟩
theorem exec_slice22_h {o : Oper} {a : Act} (x hi : Operand) (ho : o.op = .slice 22 x none (some hi) none) (g off n cap h : Nat) (hx : a.eval x = .slice (some ⟨g, off, none⟩) n cap)
    (hh : a.eval hi = .int .i64 (h : Int)) (h1 : 0 < cap) (h2 : h ≤ cap) (w : World) : (execOp a.eval o).run Tryd.prog w = .ok (.value (.slice (some ⟨g, off, none⟩) h cap)) w := by
  unfold execOp
  simp only [ho, Option.map_some, Option.map_none, hx, hh, Sem.run_bind, run_sliceAt_slice w 22 _ _ _ _ un22, run_slice_h w 22 _ n cap un22 .i64 (h : Int) (by omega) (by omega), sz22, Result.andThen_ok, Sem.run_pure, sliced, Int.toNat_natCast, Nat.zero_mul, Nat.sub_zero, if_neg (show ¬ cap = 0 by omega), Option.map_some, Addr.add_mid, Nat.add_zero]
theorem exec_slice22_l {o : Oper} {a : Act} (x lo : Operand) (ho : o.op = .slice 22 x (some lo) none none) (g off n cap l : Nat) (hx : a.eval x = .slice (some ⟨g, off, none⟩) n cap)
    (hl : a.eval lo = .int .i64 (l : Int)) (h1 : l ≤ n) (w : World) :
    (execOp a.eval o).run Tryd.prog w = .ok (.value (.slice (some ⟨g, if cap = l then off else off + l * 2, none⟩) (n - l) (cap - l))) w := by
  unfold execOp
  simp only [ho, Option.map_some, Option.map_none, hx, hl, Sem.run_bind, run_sliceAt_slice w 22 _ _ _ _ un22, run_slice_l w 22 _ n cap un22 .i64 (l : Int) (by omega) (by omega), sz22, Result.andThen_ok, Sem.run_pure, sliced, Int.toNat_natCast, Option.map_some, Addr.add_mid]
  split <;> rfl
theorem un44 : Tryd.prog.underlying 44 = some (.array (Tryd.prog.arrayLen 44) (Tryd.prog.elem 44)) := by kernel_rfl
theorem sz44 (w : World) : (sizeOf (Tryd.prog.elem 44)).run Tryd.prog w = .ok 1 w := by kernel_rfl
theorem al44 : Tryd.prog.arrayLen 44 = 2 := by kernel_rfl
theorem exec_field44 {o : Oper} {a : Act} (w : World) (x : Operand) (i : Int) (ho : o.op = .indexAddr 44 x (.const (.int .i64 i))) (g off : Nat) (hx : a.eval x = .pointer (some ⟨g, off, none⟩)) (j : Nat) (hi : i = (j : Int)) (h : j < 2) :
    (execOp a.eval o).run Tryd.prog w = .ok (.value (.pointer (some ⟨g, off + j, none⟩))) w := by
  unfold execOp
  have hc : a.eval (.const (.int .i64 i)) = .int .i64 i := rfl
  simp only [ho, hx, hc, Sem.run_bind, run_indexAt_array w 44 _ .i64 i un44, sz44, al44, Result.andThen_ok, Sem.run_pure]
  rw [if_pos (by omega)]
  subst hi
  simp [Addr.add_mid]
theorem rw_take2 {w : World} {g o c : Nat} {L : List P2} (h : Rw 2 encP w (.slice (some ⟨g, o, none⟩) L.length c) L) (k : Nat) (hk : k ≤ L.length) : Rw 2 encP w (.slice (some ⟨g, o, none⟩) k c) (L.take k) := by
  rcases h with ⟨A, c', h0, rfl, _⟩ | ⟨g', o', c', h0, h1, h2, h3⟩
  · have : k = 0 := by simpa using hk
    subst this
    exact .inl ⟨_, _, rfl, rfl, fun h => by cases h⟩
  · injection h0 with h4 h5 h6
    injection h4 with h4
    injection h4 with h7 h8
    subst h7 h8 h6
    have hl : (L.take k).length = k := by rw [List.length_take]; omega
    refine .inr ⟨g, o, c, by rw [hl], by omega, h2, fun i hi => ?_⟩
    rw [hl] at hi
    have e : (L.take k).getD i default = L.getD i default := by
      simp [List.getD_eq_getElem?_getD, hi]
    rw [e]
    exact h3 i (by omega)
theorem rw_drop {w : World} {g o c : Nat} {L : List P2} (h : Rw 2 encP w (.slice (some ⟨g, o, none⟩) L.length c) L) (k : Nat) (hk : k ≤ L.length) : Rw 2 encP w (.slice (some ⟨g, if c = k then o else o + k * 2, none⟩) (L.length - k) (c - k)) (L.drop k) := by
  rcases h with ⟨A, c', h0, rfl, _⟩ | ⟨g', o', c', h0, h1, h2, h3⟩
  · have : k = 0 := by simpa using hk
    subst this
    exact .inl ⟨_, _, rfl, rfl, fun h => by cases h⟩
  · injection h0 with h4 h5 h6
    injection h4 with h4
    injection h4 with h7 h8
    subst h7 h8 h6
    by_cases he : L.length = k
    · have e1 : L.length - k = 0 := by omega
      rw [e1]
      exact .inl ⟨_, _, rfl, List.drop_eq_nil_of_le (by omega), fun h => by cases h⟩
    · have hl : (L.drop k).length = L.length - k := List.length_drop
      rw [if_neg (by omega)]
      refine .inr ⟨g, o + k * 2, c - k, by rw [hl], by rw [hl]; omega, h2, fun i hi => ?_⟩
      rw [hl] at hi
      have e : (L.drop k).getD i default = L.getD (k + i) default := by
        simp [List.getD_eq_getElem?_getD]
      rw [e, show o + k * 2 + i * 2 = o + (k + i) * 2 from by omega]
      exact h3 (k + i) (by omega)
theorem own_at {w : World} {base n k : Nat} {e : TypeId} {v : Value} {xs : List Value} (h : w.ownsRow base e k v n xs) : ∀ q, v.ownBlock = some q → base ≤ q := by
  rcases h.2 with ⟨rfl, _⟩ | ⟨g, cap, cur, rfl, hg, _⟩
  · intro q hq; simp [Value.ownBlock] at hq
  · intro q hq; simp [Value.ownBlock] at hq; omega
set_option maxRecDepth 100000 in
set_option maxHeartbeats 8000000 in
theorem lback_calls (n : Int) (pairs : List P2) (A : Option Addr) (k c : Nat) (hk : k = pairs.length) (w : World) (ht : Tab w) (hy : Rw 2 encP w (.slice A k c) pairs) :
    Calls Tryd.prog 8 #[.int .i64 n, .slice A k c] w fun e w' => e = .returned (.bool true) ∧ Below w.heap.size w w' := by
  have hk' : Hid (k = pairs.length) := hk
  have hTw : Hid (Tab w) := ht
  have hyw : Hid (Rw 2 encP w (.slice A k c) pairs) := hy
  have hBw : Hid (Below w.heap.size w w) := Below.refl _ _
  have hw0 : Hid (0 < w.heap.size) := ht.1
  obtain ⟨R, hR⟩ : ∃ R, R = buildS n pairs := ⟨_, rfl⟩
  have hRl : R.1.length ≤ 64 := by rw [hR]; exact buildS_len _ _
  obtain ⟨up, er⟩ := R
  simp only at hRl
  have hwhat := build_what hR
  clear hk ht hy
  go_enter Tryd.func8, Tryd.ntmps8
  go_upto_region 1 with fail
  refine wp_region_lit ?_
  refine sg_call (by kernel_rfl) 11 #[] (by kernel_rfl) (R := fun v w' => v = .bool true ∧ Below w.heap.size w w') ((fixed_calls w hTw.out).mono fun e w' h => by
    obtain ⟨h1, h2⟩ := h
    skip
    exact ⟨_, h1, rfl, h2⟩) ?_
  rintro _ w1 ⟨rfl, hb⟩
  simp only [Act.put, List.setIfInBounds_toArray, List.set_cons_zero, List.set_cons_succ]
  have hBw1 : Hid (Below w.heap.size w w1) := hBw.out.trans ((hb).mono (hBw.out).size)
  have hTw1 : Hid (Tab w1) := (hTw.out).below (hTw.out).1 hb
  have hyw1 : Hid (Rw 2 encP w1 (.slice A k c) pairs) := (hyw.out).below hb
  clear hBw hTw hyw
  clear hb
  refine sl_run rfl (.bool false) w1 (by kernel_rfl) ?_
  simp only [Act.put, List.setIfInBounds_toArray, List.set_cons_zero, List.set_cons_succ]
  refine wpList_nil ?_
  by_cases hbig : 500 < k
  · have hI : (500 : Int) < (k : Int) := by omega
    have hBf := hBw1
    clear hyw1 hTw1
    go_wp2_with fail
    go_ret
    exact ⟨rfl, hBf.out⟩
  have hI : ¬ (500 : Int) < (k : Int) := by omega
  go_upto_region 5 with fail
  refine wp_region_lit ?_
  refine sl_run rfl (.int .i64 n) w1 (by kernel_rfl) ?_
  simp only [Act.put, List.setIfInBounds_toArray, List.set_cons_zero, List.set_cons_succ]
  refine sg_run (by kernel_rfl) (.slice (some ⟨w1.heap.size, 0, none⟩) 0 0) (w1.alloc (.cells #[] 44)) (by kernel_rfl) ?_
  simp only [Act.put, List.setIfInBounds_toArray, List.set_cons_zero, List.set_cons_succ]
  have hbn_w2 : Below w1.heap.size w1 (w1.alloc (.cells #[] 44)) := (Below.refl _ _).alloc (Nat.le_refl _) _
  have hown0_w2 : (w1.alloc (.cells #[] 44)).ownsRow w1.heap.size 44 2 (.slice (some ⟨w1.heap.size, 0, none⟩) 0 0) 0 [] := World.ownsRow_made _ _ 0 (Nat.le_refl _) (by decide) (by simp)
  obtain ⟨x_w2, hx_w2⟩ : ∃ x, x = (w1.alloc (.cells #[] 44)) := ⟨_, rfl⟩
  obtain ⟨g_w2, hg_w2⟩ : ∃ g, g = w1.heap.size := ⟨_, rfl⟩
  rw [← hx_w2] at hown0_w2 hbn_w2 ⊢
  rw [← hg_w2] at hown0_w2 ⊢
  have hgle_w2 : g_w2 ≤ x_w2.heap.size := by rw [hg_w2]; exact hbn_w2.size
  have hrw_w2 := (hyw1.out).below hbn_w2
  clear hx_w2
  refine sg_run (by kernel_rfl) (.slice A k c) x_w2 (by kernel_rfl) ?_
  simp only [Act.put, List.setIfInBounds_toArray, List.set_cons_zero, List.set_cons_succ]
  obtain ⟨i44, hi_w2, hz0_w2, hz1_w2, hz2_w2⟩ := info_parts inf44
  refine BigFrame.wpList_want (by kernel_rfl) fun _ hK => ?_
  refine wp_appendRw 22 44 16 i44 z44 Tryd.underlying22 hi_w2 hz0_w2 hz1_w2 hz2_w2 rfl (by decide) encP_size encP_ones _ _ rfl g_w2 (.slice (some ⟨g_w2, 0, none⟩) 0 0) [] pairs (by kernel_rfl) hown0_w2 _ (by kernel_rfl) hrw_w2 (by simp; have := hk'.out; omega) (by simp; have := hk'.out; omega) hgle_w2 ?_
  intro v_w2 w2 hown_w2 hgrow_w2
  refine hK _ _ ?_
  clear hK
  simp only [Act.put, List.setIfInBounds_toArray, List.set_cons_zero, List.set_cons_succ]
  rw [List.nil_append] at hown_w2
  have hcp := Rw.own (enc := encP) encP_size (by decide) hown_w2
  obtain ⟨A_w2, c_w2, rfl⟩ := own_form hown_w2
  have hcw2 : Hid (Rw 2 encP w2 (.slice A_w2 pairs.length c_w2) pairs) := hcp
  have hb : Below w1.heap.size w1 w2 := hbn_w2.grown hgrow_w2 hbn_w2.size (fun q hq => by simp [Value.ownBlock] at hq; omega)
  clear hown_w2 hgrow_w2 hown0_w2 hbn_w2 hgle_w2 hrw_w2 hi_w2 hz0_w2 hz1_w2 hz2_w2 hcp hg_w2
  have hBw2 : Hid (Below w.heap.size w w2) := hBw1.out.trans ((hb).mono (hBw1.out).size)
  have hTw2 : Hid (Tab w2) := (hTw1.out).below (hTw1.out).1 hb
  have hyw2 : Hid (Rw 2 encP w2 (.slice A k c) pairs) := (hyw1.out).below hb
  clear hBw1 hTw1 hyw1
  clear hb
  refine sg_call (by kernel_rfl) 12 #[.int .i64 n, .slice A_w2 pairs.length c_w2] (by kernel_rfl) (R := fun v w' => ∃ A5 c5, v = .tuple #[.slice A5 up.length c5, .int .i64 (er : Int)] ∧ Ms w' (.slice A5 up.length c5) up ∧ Below w2.heap.size w2 w') ((build_calls n pairs A_w2 pairs.length c_w2 rfl (by have := hk'.out; omega) w2 hTw2.out hcw2.out).mono fun e w' h => by
    obtain ⟨v, h1, h2, h3⟩ := h
    rw [← hR] at h1 h2
    obtain ⟨A5, c5, rfl⟩ := h2.form
    exact ⟨_, h1, A5, c5, rfl, h2, h3⟩) ?_
  rintro _ w3 ⟨A5, c5, rfl, hms5, hb⟩
  simp only [Act.put, List.setIfInBounds_toArray, List.set_cons_zero, List.set_cons_succ]
  have hBw3 : Hid (Below w.heap.size w w3) := hBw2.out.trans ((hb).mono (hBw2.out).size)
  have hTw3 : Hid (Tab w3) := (hTw2.out).below (hTw2.out).1 hb
  have hyw3 : Hid (Rw 2 encP w3 (.slice A k c) pairs) := (hyw2.out).below hb
  have hcw3 : Hid (Rw 2 encP w3 (.slice A_w2 pairs.length c_w2) pairs) := (hcw2.out).below hb
  clear hBw2 hTw2 hyw2 hcw2
  clear hb
  have hm5w3 : Hid (Ms w3 (.slice A5 up.length c5) up) := hms5
  clear hms5
  refine sl_run rfl (.tuple #[.slice A5 up.length c5, .int .i64 (er : Int)]) w3 (by kernel_rfl) ?_
  simp only [Act.put, List.setIfInBounds_toArray, List.set_cons_zero, List.set_cons_succ]
  refine sl_run rfl (.slice A5 up.length c5) w3 (by kernel_rfl) ?_
  simp only [Act.put, List.setIfInBounds_toArray, List.set_cons_zero, List.set_cons_succ]
  refine sl_run rfl (.int .i64 (er : Int)) w3 (by kernel_rfl) ?_
  simp only [Act.put, List.setIfInBounds_toArray, List.set_cons_zero, List.set_cons_succ]
  refine sl_run rfl (.slice A5 up.length c5) w3 (by kernel_rfl) ?_
  simp only [Act.put, List.setIfInBounds_toArray, List.set_cons_zero, List.set_cons_succ]
  refine sl_run rfl (.int .i64 (er : Int)) w3 (by kernel_rfl) ?_
  simp only [Act.put, List.setIfInBounds_toArray, List.set_cons_zero, List.set_cons_succ]
  refine wpList_nil ?_
  clear hcw3
  rcases hwhat with ⟨hne, hnil⟩ | ⟨h0, hfit, hord, hnn, hclos⟩
  · have hE : ((er : Int) != 0) = true := by rw [bne_iff_ne]; omega
    have hL0 : (up.length : Int) = 0 := by rw [hnil]; rfl
    have hL1 : ((up.length : Int) == 0) = true := by rw [hL0]; rfl
    have hBf := hBw3
    clear hyw3 hTw3 hm5w3 hR hnil
    go_wp2_with fail
    go_ret
    exact ⟨rfl, hBf.out⟩
  subst h0
  have hfitH : Hid (Fit n pairs) := hfit
  have hordH : Hid (Ord up) := hord
  have hnnH : Hid (n = (up.length : Int)) := hnn
  have hclosH : Hid (up = closS up.length pairs) := hclos
  have hsm : Hid (Small up) := by show Small _; rw [hclos]; exact clos_small (by have := hord.2.1; omega)
  obtain ⟨L, hL⟩ : ∃ L, L = pairsT up up.length := ⟨_, rfl⟩
  have hLS : Hid (pairsS up = L) := by show pairsS up = L; unfold pairsS; rw [if_pos (tr_true hord), hL]
  have hLl : L.length ≤ 4096 := by rw [← hLS.out]; exact pairsS_len up
  have hAg : Hid (buildS n L = (up, 0)) := by show _ = _; rw [hnn, hL]; exact again_build (ordB hord)
  have hLess : Hid (∀ i, i < L.length → ∃ other, buildS n (L.take i ++ L.drop (i + 1)) = (other, 0) ∧ other ≠ up) := fun i hi => by rw [hL] at hi ⊢; rw [hnn]; exact less_build (ordB hord) hi
  have hord2 : tr (Ord up) = true := tr_true hord
  clear hR hfit hord hnn hclos hL
  go_upto_region 8 with fail
  refine wp_region_lit ?_
  refine sl_run rfl (.slice A5 up.length c5) w3 (by kernel_rfl) ?_
  simp only [Act.put, List.setIfInBounds_toArray, List.set_cons_zero, List.set_cons_succ]
  refine sg_call (by kernel_rfl) 26 #[.slice A5 up.length c5] (by kernel_rfl) (R := fun v w' => ∃ A6 c6, v = .slice A6 L.length c6 ∧ Rw 2 encP w' (.slice A6 L.length c6) L ∧ Below w3.heap.size w3 w') ((pairs_calls up hsm.out A5 up.length c5 rfl w3 hTw3.out hm5w3.out).mono fun e w' h => by
    obtain ⟨v, h1, h2, h3⟩ := h
    rw [hLS.out] at h2
    have h4 := Rw.own (enc := encP) encP_size (by decide) h2
    obtain ⟨A6, c6, rfl⟩ := h4.form
    exact ⟨_, h1, A6, c6, rfl, h4, h3⟩) ?_
  rintro _ w4 ⟨A6, c6, rfl, hrw6, hb⟩
  simp only [Act.put, List.setIfInBounds_toArray, List.set_cons_zero, List.set_cons_succ]
  have hBw4 : Hid (Below w.heap.size w w4) := hBw3.out.trans ((hb).mono (hBw3.out).size)
  have hTw4 : Hid (Tab w4) := (hTw3.out).below (hTw3.out).1 hb
  have hyw4 : Hid (Rw 2 encP w4 (.slice A k c) pairs) := (hyw3.out).below hb
  have hm5w4 : Hid (Ms w4 (.slice A5 up.length c5) up) := (hm5w3.out).below hb
  clear hBw3 hTw3 hyw3 hm5w3
  clear hb
  have hp6w4 : Hid (Rw 2 encP w4 (.slice A6 L.length c6) L) := hrw6
  clear hrw6
  refine sl_run rfl (.slice A6 L.length c6) w4 (by kernel_rfl) ?_
  simp only [Act.put, List.setIfInBounds_toArray, List.set_cons_zero, List.set_cons_succ]
  refine wpList_nil ?_
  go_upto_region 9 with fail
  refine wp_region_lit ?_
  refine sl_run rfl (.int .i64 n) w4 (by kernel_rfl) ?_
  simp only [Act.put, List.setIfInBounds_toArray, List.set_cons_zero, List.set_cons_succ]
  refine sg_run (by kernel_rfl) (.slice (some ⟨w4.heap.size, 0, none⟩) 0 0) (w4.alloc (.cells #[] 44)) (by kernel_rfl) ?_
  simp only [Act.put, List.setIfInBounds_toArray, List.set_cons_zero, List.set_cons_succ]
  have hbn_w5 : Below w4.heap.size w4 (w4.alloc (.cells #[] 44)) := (Below.refl _ _).alloc (Nat.le_refl _) _
  have hown0_w5 : (w4.alloc (.cells #[] 44)).ownsRow w4.heap.size 44 2 (.slice (some ⟨w4.heap.size, 0, none⟩) 0 0) 0 [] := World.ownsRow_made _ _ 0 (Nat.le_refl _) (by decide) (by simp)
  obtain ⟨x_w5, hx_w5⟩ : ∃ x, x = (w4.alloc (.cells #[] 44)) := ⟨_, rfl⟩
  obtain ⟨g_w5, hg_w5⟩ : ∃ g, g = w4.heap.size := ⟨_, rfl⟩
  rw [← hx_w5] at hown0_w5 hbn_w5 ⊢
  rw [← hg_w5] at hown0_w5 ⊢
  have hgle_w5 : g_w5 ≤ x_w5.heap.size := by rw [hg_w5]; exact hbn_w5.size
  have hrw_w5 := (hp6w4.out).below hbn_w5
  clear hx_w5
  refine sg_run (by kernel_rfl) (.slice A6 L.length c6) x_w5 (by kernel_rfl) ?_
  simp only [Act.put, List.setIfInBounds_toArray, List.set_cons_zero, List.set_cons_succ]
  obtain ⟨i44, hi_w5, hz0_w5, hz1_w5, hz2_w5⟩ := info_parts inf44
  refine BigFrame.wpList_want (by kernel_rfl) fun _ hK => ?_
  refine wp_appendRw 22 44 16 i44 z44 Tryd.underlying22 hi_w5 hz0_w5 hz1_w5 hz2_w5 rfl (by decide) encP_size encP_ones _ _ rfl g_w5 (.slice (some ⟨g_w5, 0, none⟩) 0 0) [] L (by kernel_rfl) hown0_w5 _ (by kernel_rfl) hrw_w5 (by simp; omega) (by simp; omega) hgle_w5 ?_
  intro v_w5 w5 hown_w5 hgrow_w5
  refine hK _ _ ?_
  clear hK
  simp only [Act.put, List.setIfInBounds_toArray, List.set_cons_zero, List.set_cons_succ]
  rw [List.nil_append] at hown_w5
  have hcp := Rw.own (enc := encP) encP_size (by decide) hown_w5
  obtain ⟨A_w5, c_w5, rfl⟩ := own_form hown_w5
  have hcw5 : Hid (Rw 2 encP w5 (.slice A_w5 L.length c_w5) L) := hcp
  have hb : Below w4.heap.size w4 w5 := hbn_w5.grown hgrow_w5 hbn_w5.size (fun q hq => by simp [Value.ownBlock] at hq; omega)
  clear hown_w5 hgrow_w5 hown0_w5 hbn_w5 hgle_w5 hrw_w5 hi_w5 hz0_w5 hz1_w5 hz2_w5 hcp hg_w5
  have hBw5 : Hid (Below w.heap.size w w5) := hBw4.out.trans ((hb).mono (hBw4.out).size)
  have hTw5 : Hid (Tab w5) := (hTw4.out).below (hTw4.out).1 hb
  have hyw5 : Hid (Rw 2 encP w5 (.slice A k c) pairs) := (hyw4.out).below hb
  have hm5w5 : Hid (Ms w5 (.slice A5 up.length c5) up) := (hm5w4.out).below hb
  have hp6w5 : Hid (Rw 2 encP w5 (.slice A6 L.length c6) L) := (hp6w4.out).below hb
  clear hBw4 hTw4 hyw4 hm5w4 hp6w4
  clear hb
  refine sg_call (by kernel_rfl) 12 #[.int .i64 n, .slice A_w5 L.length c_w5] (by kernel_rfl) (R := fun v w' => ∃ A7 c7, v = .tuple #[.slice A7 up.length c7, .int .i64 ((0 : Nat) : Int)] ∧ Ms w' (.slice A7 up.length c7) up ∧ Below w5.heap.size w5 w') ((build_calls n L A_w5 L.length c_w5 rfl (by omega) w5 hTw5.out hcw5.out).mono fun e w' h => by
    obtain ⟨v, h1, h2, h3⟩ := h
    rw [hAg.out] at h1 h2
    obtain ⟨A7, c7, rfl⟩ := h2.form
    exact ⟨_, h1, A7, c7, rfl, h2, h3⟩) ?_
  rintro _ w6 ⟨A7, c7, rfl, hms7, hb⟩
  simp only [Act.put, List.setIfInBounds_toArray, List.set_cons_zero, List.set_cons_succ]
  have hBw6 : Hid (Below w.heap.size w w6) := hBw5.out.trans ((hb).mono (hBw5.out).size)
  have hTw6 : Hid (Tab w6) := (hTw5.out).below (hTw5.out).1 hb
  have hyw6 : Hid (Rw 2 encP w6 (.slice A k c) pairs) := (hyw5.out).below hb
  have hm5w6 : Hid (Ms w6 (.slice A5 up.length c5) up) := (hm5w5.out).below hb
  have hp6w6 : Hid (Rw 2 encP w6 (.slice A6 L.length c6) L) := (hp6w5.out).below hb
  have hcw6 : Hid (Rw 2 encP w6 (.slice A_w5 L.length c_w5) L) := (hcw5.out).below hb
  clear hBw5 hTw5 hyw5 hm5w5 hp6w5 hcw5
  clear hb
  have hm7w6 : Hid (Ms w6 (.slice A7 up.length c7) up) := hms7
  clear hms7
  refine sl_run rfl (.tuple #[.slice A7 up.length c7, .int .i64 ((0 : Nat) : Int)]) w6 (by kernel_rfl) ?_
  simp only [Act.put, List.setIfInBounds_toArray, List.set_cons_zero, List.set_cons_succ]
  refine sl_run rfl (.slice A7 up.length c7) w6 (by kernel_rfl) ?_
  simp only [Act.put, List.setIfInBounds_toArray, List.set_cons_zero, List.set_cons_succ]
  refine sl_run rfl (.int .i64 ((0 : Nat) : Int)) w6 (by kernel_rfl) ?_
  simp only [Act.put, List.setIfInBounds_toArray, List.set_cons_zero, List.set_cons_succ]
  refine sl_run rfl (.slice A7 up.length c7) w6 (by kernel_rfl) ?_
  simp only [Act.put, List.setIfInBounds_toArray, List.set_cons_zero, List.set_cons_succ]
  refine sl_run rfl (.int .i64 ((0 : Nat) : Int)) w6 (by kernel_rfl) ?_
  simp only [Act.put, List.setIfInBounds_toArray, List.set_cons_zero, List.set_cons_succ]
  refine wpList_nil ?_
  clear hcw6
  go_upto_region 10 with fail
  refine wp_region_lit ?_
  refine sl_run rfl (.int .i64 ((0 : Nat) : Int)) w6 (by kernel_rfl) ?_
  simp only [Act.put, List.setIfInBounds_toArray, List.set_cons_zero, List.set_cons_succ]
  refine sl_run rfl (.bool false) w6 (by kernel_rfl) ?_
  simp only [Act.put, List.setIfInBounds_toArray, List.set_cons_zero, List.set_cons_succ]
  refine sl_run rfl (.bool false) w6 (by kernel_rfl) ?_
  simp only [Act.put, List.setIfInBounds_toArray, List.set_cons_zero, List.set_cons_succ]
  refine sg_run (by kernel_rfl) (.slice A5 up.length c5) w6 (by kernel_rfl) ?_
  simp only [Act.put, List.setIfInBounds_toArray, List.set_cons_zero, List.set_cons_succ]
  refine sg_run (by kernel_rfl) (.slice A7 up.length c7) w6 (by kernel_rfl) ?_
  simp only [Act.put, List.setIfInBounds_toArray, List.set_cons_zero, List.set_cons_succ]
  refine sg_call (by kernel_rfl) 14 #[.slice A5 up.length c5, .slice A7 up.length c7] (by kernel_rfl) (R := fun v w' => v = .bool true ∧ Below w6.heap.size w6 w') ((masks_calls up up A5 A7 up.length c5 up.length c7 rfl rfl (by omega) w6 hm5w6.out hm7w6.out).mono fun e w' h => by
    obtain ⟨h1, h2⟩ := h
    rw [decide_eq_true rfl] at h1
    exact ⟨_, h1, rfl, h2⟩) ?_
  rintro _ w7 ⟨rfl, hb⟩
  simp only [Act.put, List.setIfInBounds_toArray, List.set_cons_zero, List.set_cons_succ]
  have hBw7 : Hid (Below w.heap.size w w7) := hBw6.out.trans ((hb).mono (hBw6.out).size)
  have hTw7 : Hid (Tab w7) := (hTw6.out).below (hTw6.out).1 hb
  have hyw7 : Hid (Rw 2 encP w7 (.slice A k c) pairs) := (hyw6.out).below hb
  have hm5w7 : Hid (Ms w7 (.slice A5 up.length c5) up) := (hm5w6.out).below hb
  have hp6w7 : Hid (Rw 2 encP w7 (.slice A6 L.length c6) L) := (hp6w6.out).below hb
  have hm7w7 : Hid (Ms w7 (.slice A7 up.length c7) up) := (hm7w6.out).below hb
  clear hBw6 hTw6 hyw6 hm5w6 hp6w6 hm7w6
  clear hb
  refine sg_run (by kernel_rfl) (.bool false) w7 (by kernel_rfl) ?_
  simp only [Act.put, List.setIfInBounds_toArray, List.set_cons_zero, List.set_cons_succ]
  refine sg_run (by kernel_rfl) (.bool false) w7 (by kernel_rfl) ?_
  simp only [Act.put, List.setIfInBounds_toArray, List.set_cons_zero, List.set_cons_succ]
  refine sg_run (by kernel_rfl) (.bool false) w7 (by kernel_rfl) ?_
  simp only [Act.put, List.setIfInBounds_toArray, List.set_cons_zero, List.set_cons_succ]
  refine sg_run (by kernel_rfl) (.slice A5 up.length c5) w7 (by kernel_rfl) ?_
  simp only [Act.put, List.setIfInBounds_toArray, List.set_cons_zero, List.set_cons_succ]
  refine sg_call (by kernel_rfl) 15 #[.slice A5 up.length c5] (by kernel_rfl) (R := fun v w' => v = .bool true ∧ Below w7.heap.size w7 w') ((rightT_calls up hsm.out A5 up.length c5 rfl w7 hTw7.out hm5w7.out).mono fun e w' h => by
    obtain ⟨h1, h2⟩ := h
    rw [hord2] at h1
    exact ⟨_, h1, rfl, h2⟩) ?_
  rintro _ w8 ⟨rfl, hb⟩
  simp only [Act.put, List.setIfInBounds_toArray, List.set_cons_zero, List.set_cons_succ]
  have hBw8 : Hid (Below w.heap.size w w8) := hBw7.out.trans ((hb).mono (hBw7.out).size)
  have hTw8 : Hid (Tab w8) := (hTw7.out).below (hTw7.out).1 hb
  have hyw8 : Hid (Rw 2 encP w8 (.slice A k c) pairs) := (hyw7.out).below hb
  have hm5w8 : Hid (Ms w8 (.slice A5 up.length c5) up) := (hm5w7.out).below hb
  have hp6w8 : Hid (Rw 2 encP w8 (.slice A6 L.length c6) L) := (hp6w7.out).below hb
  have hm7w8 : Hid (Ms w8 (.slice A7 up.length c7) up) := (hm7w7.out).below hb
  clear hBw7 hTw7 hyw7 hm5w7 hp6w7 hm7w7
  clear hb
  refine sg_run (by kernel_rfl) (.bool false) w8 (by kernel_rfl) ?_
  simp only [Act.put, List.setIfInBounds_toArray, List.set_cons_zero, List.set_cons_succ]
  refine sg_run (by kernel_rfl) (.bool false) w8 (by kernel_rfl) ?_
  simp only [Act.put, List.setIfInBounds_toArray, List.set_cons_zero, List.set_cons_succ]
  refine wpList_nil ?_
  clear hm7w8
  go_wp2_with fail
  go_loopw [10] (fun u wr => ∃ i : Nat, i ≤ L.length ∧ u = .int .i64 (i : Int) ∧ Hid (Below w8.heap.size w8 wr)) (fun u _ => L.length - (intOf u).toNat)
  case atStart => exact ⟨0, by omega, rfl, Below.refl _ _⟩
  case round =>
    obtain ⟨i, hiL, rfl, hb8⟩ := hrel
    obtain ⟨v0, rfl⟩ : ∃ v : World, v = wr := ⟨_, rfl⟩
    have hBv0 : Hid (Below w.heap.size w v0) := hBw8.out.trans (hb8.out.mono hBw8.out.size)
    have hTv0 : Hid (Tab v0) := hTw8.out.below hTw8.out.1 hb8.out
    have hyv0 : Hid (Rw 2 encP v0 (.slice A k c) pairs) := hyw8.out.below hb8.out
    have hm5v0 : Hid (Ms v0 (.slice A5 up.length c5) up) := hm5w8.out.below hb8.out
    have hp6v0 : Hid (Rw 2 encP v0 (.slice A6 L.length c6) L) := hp6w8.out.below hb8.out
    by_cases hin : i < L.length ∧ i < 20
    case pos =>
      obtain ⟨h1, h2⟩ := hin
      have hI1 : (i : Int) < (L.length : Int) := by omega
      have hI2 : (i : Int) < 20 := by omega
      obtain ⟨g6, o6, rfl, hcap, hg6, hel6⟩ := hp6v0.out.elem i h1
      have hcap0 : 0 < c6 := by omega
      clear hg6 hel6
      have htkv0 : Hid (Rw 2 encP v0 (.slice (some ⟨g6, o6, none⟩) i c6) (L.take i)) := rw_take2 hp6v0.out i (by omega)
      have htl : (L.take i).length = i := by rw [List.length_take]; omega
      go_upto_region 15 with fail
      refine wp_region_lit ?_
      have hB8v0 : Hid (Below w8.heap.size w8 v0) := hb8
      clear hBv0 hyv0 hb8
      refine sg_run (by kernel_rfl) (.slice (some ⟨v0.heap.size, 0, none⟩) 0 0) (v0.alloc (.cells #[] 44)) (by kernel_rfl) ?_
      simp only [Act.put, List.setIfInBounds_toArray, List.set_cons_zero, List.set_cons_succ]
      have hbn_v1 : Below v0.heap.size v0 (v0.alloc (.cells #[] 44)) := (Below.refl _ _).alloc (Nat.le_refl _) _
      have hown0_v1 : (v0.alloc (.cells #[] 44)).ownsRow v0.heap.size 44 2 (.slice (some ⟨v0.heap.size, 0, none⟩) 0 0) 0 [] := World.ownsRow_made _ _ 0 (Nat.le_refl _) (by decide) (by simp)
      obtain ⟨x_v1, hx_v1⟩ : ∃ x, x = (v0.alloc (.cells #[] 44)) := ⟨_, rfl⟩
      obtain ⟨g_v1, hg_v1⟩ : ∃ g, g = v0.heap.size := ⟨_, rfl⟩
      rw [← hx_v1] at hown0_v1 hbn_v1 ⊢
      rw [← hg_v1] at hown0_v1 ⊢
      have hgle_v1 : g_v1 ≤ x_v1.heap.size := by rw [hg_v1]; exact hbn_v1.size
      have hrw_v1 := (htkv0.out).below hbn_v1
      clear hx_v1
      refine sg_run (by kernel_rfl) (.slice (some ⟨g6, o6, none⟩) L.length c6) x_v1 (by kernel_rfl) ?_
      simp only [Act.put, List.setIfInBounds_toArray, List.set_cons_zero, List.set_cons_succ]
      refine sg_run (by kernel_rfl) (.int .i64 (i : Int)) x_v1 (by kernel_rfl) ?_
      simp only [Act.put, List.setIfInBounds_toArray, List.set_cons_zero, List.set_cons_succ]
      refine sg_run (by kernel_rfl) (.slice (some ⟨g6, o6, none⟩) i c6) x_v1 (exec_slice22_h _ _ rfl g6 o6 L.length c6 i (by kernel_rfl) (by kernel_rfl) hcap0 (by omega) _) ?_
      simp only [Act.put, List.setIfInBounds_toArray, List.set_cons_zero, List.set_cons_succ]
      obtain ⟨i44, hi44, hz0, hz1, hz2⟩ := info_parts inf44
      refine BigFrame.wpList_want (by kernel_rfl) fun _ hK => ?_
      refine wp_appendRw 22 44 16 i44 z44 Tryd.underlying22 hi44 hz0 hz1 hz2 rfl (by decide) encP_size encP_ones _ _ rfl g_v1 (.slice (some ⟨g_v1, 0, none⟩) 0 0) [] (L.take i) (by kernel_rfl) hown0_v1 _ (by kernel_rfl) hrw_v1 (by rw [htl]; simp; omega) (by rw [htl]; simp; omega) hgle_v1 ?_
      intro v_v1 v1 hown_v1 hgrow_v1
      refine hK _ _ ?_
      clear hK
      simp only [Act.put, List.setIfInBounds_toArray, List.set_cons_zero, List.set_cons_succ]
      rw [List.nil_append] at hown_v1
      obtain ⟨A_v1, c_v1, rfl⟩ := own_form hown_v1
      have hownv1 : Hid (v1.ownsRow g_v1 44 2 (.slice A_v1 (L.take i).length c_v1) (L.take i).length (flat encP (L.take i))) := hown_v1
      have hb : Below v0.heap.size v0 v1 := hbn_v1.grown hgrow_v1 hbn_v1.size (fun q hq => by simp [Value.ownBlock] at hq; omega)
      have hgv1 : Hid (v0.heap.size ≤ g_v1 ∧ g_v1 ≤ v1.heap.size) := ⟨by show v0.heap.size ≤ g_v1; omega, by have := hgrow_v1.size; omega⟩
      clear hown_v1 hgrow_v1 hown0_v1 hbn_v1 hgle_v1 hrw_v1 hi44 hz0 hz1 hz2 hg_v1 htkv0
      have hb01 : Hid (Below v0.heap.size v0 v1) := hb
      have hp6v1 : Hid (Rw 2 encP v1 (.slice (some ⟨g6, o6, none⟩) L.length c6) L) := hp6v0.out.below hb
      clear hb
      refine sl_run rfl (.slice A_v1 (L.take i).length c_v1) v1 (by kernel_rfl) ?_
      simp only [Act.put, List.setIfInBounds_toArray, List.set_cons_zero, List.set_cons_succ]
      refine wpList_nil ?_
      have hdrv1 : Hid (Rw 2 encP v1 (.slice (some ⟨g6, if c6 = i + 1 then o6 else o6 + (i + 1) * 2, none⟩) (L.length - (i + 1)) (c6 - (i + 1))) (L.drop (i + 1))) := rw_drop hp6v1.out (i + 1) h1
      have hdl : (L.drop (i + 1)).length = L.length - (i + 1) := List.length_drop
      have hup : (i : Int) + 1 = ((i + 1 : Nat) : Int) := by omega
      go_upto_region 16 with fail
      refine wp_region_lit ?_
      refine sl_run rfl (.slice A_v1 (L.take i).length c_v1) v1 (by kernel_rfl) ?_
      simp only [Act.put, List.setIfInBounds_toArray, List.set_cons_zero, List.set_cons_succ]
      refine sl_run rfl (.slice (some ⟨g6, o6, none⟩) L.length c6) v1 (by kernel_rfl) ?_
      simp only [Act.put, List.setIfInBounds_toArray, List.set_cons_zero, List.set_cons_succ]
      refine sl_run rfl (.int .i64 (i : Int)) v1 (by kernel_rfl) ?_
      simp only [Act.put, List.setIfInBounds_toArray, List.set_cons_zero, List.set_cons_succ]
      refine sl_run rfl (.int .i64 ((i + 1 : Nat) : Int)) v1 ((exec_add2 _ _ rfl (i : Int) 1 (by kernel_rfl) (by kernel_rfl) (by omega) (by omega) v1).trans (by rw [hup])) ?_
      simp only [Act.put, List.setIfInBounds_toArray, List.set_cons_zero, List.set_cons_succ]
      refine sl_run rfl (.slice (some ⟨g6, if c6 = i + 1 then o6 else o6 + (i + 1) * 2, none⟩) (L.length - (i + 1)) (c6 - (i + 1))) v1 (exec_slice22_l _ _ rfl g6 o6 L.length c6 (i + 1) (by kernel_rfl) (by kernel_rfl) h1 _) ?_
      simp only [Act.put, List.setIfInBounds_toArray, List.set_cons_zero, List.set_cons_succ]
      obtain ⟨i44, hi44, hz0, hz1, hz2⟩ := info_parts inf44
      refine BigFrame.wpList_want (by kernel_rfl) fun _ hK => ?_
      refine wp_appendRw 22 44 16 i44 z44 Tryd.underlying22 hi44 hz0 hz1 hz2 rfl (by decide) encP_size encP_ones _ _ rfl g_v1 (.slice A_v1 (L.take i).length c_v1) (L.take i) (L.drop (i + 1)) (by kernel_rfl) hownv1.out _ (by kernel_rfl) hdrv1.out (by rw [htl, hdl]; omega) (by rw [htl, hdl]; omega) hgv1.out.2 ?_
      intro v_v2 v2 hown_v2 hgrow_v2
      refine hK _ _ ?_
      clear hK
      simp only [Act.put, List.setIfInBounds_toArray, List.set_cons_zero, List.set_cons_succ]
      obtain ⟨less, hless⟩ : ∃ l, l = L.take i ++ L.drop (i + 1) := ⟨_, rfl⟩
      have hll : less.length ≤ 4096 := by rw [hless, List.length_append, htl, hdl]; omega
      rw [← hless] at hown_v2
      have hcp := Rw.own (enc := encP) encP_size (by decide) hown_v2
      obtain ⟨A_v2, c_v2, rfl⟩ := hcp.form
      have hlv2 : Hid (Rw 2 encP v2 (.slice A_v2 less.length c_v2) less) := hcp
      have hb : Below v0.heap.size v1 v2 := (Below.refl v0.heap.size v1).grown hgrow_v2 (by have := hgv1.out; omega) (fun q hq => by have := own_at hownv1.out q hq; have := hgv1.out.1; omega)
      obtain ⟨other, hoth, hne⟩ := hLess.out i h1
      rw [← hless] at hoth
      have hothH : Hid (buildS n less = (other, 0)) := hoth
      have hneH : Hid (decide (up = other) = false) := decide_eq_false fun e => hne e.symm
      have hol : other.length ≤ 64 := by have := buildS_len n less; rw [hoth] at this; exact this
      clear hown_v2 hgrow_v2 hi44 hz0 hz1 hz2 hcp hdrv1 hownv1 hoth hne
      have hb02 : Below v0.heap.size v0 v2 := hb01.out.trans hb
      clear hb01 hp6v1 hgv1 hb
      have hB8v2 : Hid (Below w8.heap.size w8 v2) := hB8v0.out.trans ((hb02).mono (hB8v0.out).size)
      have hTv2 : Hid (Tab v2) := (hTv0.out).below (hTv0.out).1 hb02
      have hm5v2 : Hid (Ms v2 (.slice A5 up.length c5) up) := (hm5v0.out).below hb02
      have hp6v2 : Hid (Rw 2 encP v2 (.slice (some ⟨g6, o6, none⟩) L.length c6) L) := (hp6v0.out).below hb02
      clear hB8v0 hTv0 hm5v0 hp6v0
      clear hb02
      refine sl_run rfl (.slice A_v2 less.length c_v2) v2 (by kernel_rfl) ?_
      simp only [Act.put, List.setIfInBounds_toArray, List.set_cons_zero, List.set_cons_succ]
      refine wpList_nil ?_
      go_upto_region 17 with fail
      refine wp_region_lit ?_
      refine sl_run rfl (.int .i64 n) v2 (by kernel_rfl) ?_
      simp only [Act.put, List.setIfInBounds_toArray, List.set_cons_zero, List.set_cons_succ]
      refine sl_run rfl (.slice A_v2 less.length c_v2) v2 (by kernel_rfl) ?_
      simp only [Act.put, List.setIfInBounds_toArray, List.set_cons_zero, List.set_cons_succ]
      refine sg_call (by kernel_rfl) 12 #[.int .i64 n, .slice A_v2 less.length c_v2] (by kernel_rfl) (R := fun v w' => ∃ A8 c8, v = .tuple #[.slice A8 other.length c8, .int .i64 ((0 : Nat) : Int)] ∧ Ms w' (.slice A8 other.length c8) other ∧ Below v2.heap.size v2 w') ((build_calls n less A_v2 less.length c_v2 rfl (by omega) v2 hTv2.out hlv2.out).mono fun e w' h => by
        obtain ⟨v, h1, h2, h3⟩ := h
        rw [hothH.out] at h1 h2
        obtain ⟨A8, c8, rfl⟩ := h2.form
        exact ⟨_, h1, A8, c8, rfl, h2, h3⟩) ?_
      rintro _ v3 ⟨A8, c8, rfl, hms8, hb⟩
      simp only [Act.put, List.setIfInBounds_toArray, List.set_cons_zero, List.set_cons_succ]
      have hB8v3 : Hid (Below w8.heap.size w8 v3) := hB8v2.out.trans ((hb).mono (hB8v2.out).size)
      have hTv3 : Hid (Tab v3) := (hTv2.out).below (hTv2.out).1 hb
      have hm5v3 : Hid (Ms v3 (.slice A5 up.length c5) up) := (hm5v2.out).below hb
      have hp6v3 : Hid (Rw 2 encP v3 (.slice (some ⟨g6, o6, none⟩) L.length c6) L) := (hp6v2.out).below hb
      have hlv3 : Hid (Rw 2 encP v3 (.slice A_v2 less.length c_v2) less) := (hlv2.out).below hb
      clear hB8v2 hTv2 hm5v2 hp6v2 hlv2
      clear hb
      have hm8v3 : Hid (Ms v3 (.slice A8 other.length c8) other) := hms8
      clear hms8
      refine sl_run rfl (.tuple #[.slice A8 other.length c8, .int .i64 ((0 : Nat) : Int)]) v3 (by kernel_rfl) ?_
      simp only [Act.put, List.setIfInBounds_toArray, List.set_cons_zero, List.set_cons_succ]
      refine sl_run rfl (.slice A8 other.length c8) v3 (by kernel_rfl) ?_
      simp only [Act.put, List.setIfInBounds_toArray, List.set_cons_zero, List.set_cons_succ]
      refine sl_run rfl (.int .i64 ((0 : Nat) : Int)) v3 (by kernel_rfl) ?_
      simp only [Act.put, List.setIfInBounds_toArray, List.set_cons_zero, List.set_cons_succ]
      refine sl_run rfl (.slice A8 other.length c8) v3 (by kernel_rfl) ?_
      simp only [Act.put, List.setIfInBounds_toArray, List.set_cons_zero, List.set_cons_succ]
      refine sl_run rfl (.int .i64 ((0 : Nat) : Int)) v3 (by kernel_rfl) ?_
      simp only [Act.put, List.setIfInBounds_toArray, List.set_cons_zero, List.set_cons_succ]
      refine wpList_nil ?_
      go_upto_region 18 with fail
      refine wp_region_lit ?_
      refine sl_run rfl (.int .i64 ((0 : Nat) : Int)) v3 (by kernel_rfl) ?_
      simp only [Act.put, List.setIfInBounds_toArray, List.set_cons_zero, List.set_cons_succ]
      refine sl_run rfl (.bool false) v3 (by kernel_rfl) ?_
      simp only [Act.put, List.setIfInBounds_toArray, List.set_cons_zero, List.set_cons_succ]
      refine sl_run rfl (.bool false) v3 (by kernel_rfl) ?_
      simp only [Act.put, List.setIfInBounds_toArray, List.set_cons_zero, List.set_cons_succ]
      refine sg_run (by kernel_rfl) (.slice A5 up.length c5) v3 (by kernel_rfl) ?_
      simp only [Act.put, List.setIfInBounds_toArray, List.set_cons_zero, List.set_cons_succ]
      refine sg_run (by kernel_rfl) (.slice A8 other.length c8) v3 (by kernel_rfl) ?_
      simp only [Act.put, List.setIfInBounds_toArray, List.set_cons_zero, List.set_cons_succ]
      refine sg_call (by kernel_rfl) 14 #[.slice A5 up.length c5, .slice A8 other.length c8] (by kernel_rfl) (R := fun v w' => v = .bool false ∧ Below v3.heap.size v3 w') ((masks_calls up other A5 A8 up.length c5 other.length c8 rfl rfl (by omega) v3 hm5v3.out hm8v3.out).mono fun e w' h => by
        obtain ⟨h1, h2⟩ := h
        rw [hneH.out] at h1
        exact ⟨_, h1, rfl, h2⟩) ?_
      rintro _ v4 ⟨rfl, hb⟩
      simp only [Act.put, List.setIfInBounds_toArray, List.set_cons_zero, List.set_cons_succ]
      have hB8v4 : Hid (Below w8.heap.size w8 v4) := hB8v3.out.trans ((hb).mono (hB8v3.out).size)
      have hTv4 : Hid (Tab v4) := (hTv3.out).below (hTv3.out).1 hb
      have hm5v4 : Hid (Ms v4 (.slice A5 up.length c5) up) := (hm5v3.out).below hb
      have hp6v4 : Hid (Rw 2 encP v4 (.slice (some ⟨g6, o6, none⟩) L.length c6) L) := (hp6v3.out).below hb
      have hlv4 : Hid (Rw 2 encP v4 (.slice A_v2 less.length c_v2) less) := (hlv3.out).below hb
      have hm8v4 : Hid (Ms v4 (.slice A8 other.length c8) other) := (hm8v3.out).below hb
      clear hB8v3 hTv3 hm5v3 hp6v3 hlv3 hm8v3
      clear hb
      refine sg_run (by kernel_rfl) (.bool false) v4 (by kernel_rfl) ?_
      simp only [Act.put, List.setIfInBounds_toArray, List.set_cons_zero, List.set_cons_succ]
      refine wpList_nil ?_
      clear hTv4 hm5v4 hp6v4 hlv4 hm8v4 hothH hneH hup
      go_wp2_with fail
      go_roundw
      case rel => exact ⟨i + 1, by omega, by go_num, hB8v4⟩
      case measure => simp [intOf]; omega
    case neg =>
      clear hb8
      by_cases hle : i < L.length
      case pos =>
        have hI1 : (i : Int) < (L.length : Int) := by omega
        have hI2 : ¬ (i : Int) < 20 := by omega
        clear hp6v0 hin
        go_wp2_with fail
        go_loopw [14] (fun u wr => ∃ i : Nat, i ≤ k ∧ u = .int .i64 (i : Int) ∧ Hid (Below v0.heap.size v0 wr)) (fun u _ => k - (intOf u).toNat)
        case atStart => exact ⟨0, by omega, rfl, Below.refl _ _⟩
        case round =>
          obtain ⟨j, hjk, rfl, hb9⟩ := hrel
          obtain ⟨w9, rfl⟩ : ∃ v : World, v = wr := ⟨_, rfl⟩
          have hB9 : Hid (Below w.heap.size w w9) := hBv0.out.trans (hb9.out.mono hBv0.out.size)
          have hT9 : Hid (Tab w9) := hTv0.out.below hTv0.out.1 hb9.out
          have hy9 : Hid (Rw 2 encP w9 (.slice A k c) pairs) := hyv0.out.below hb9.out
          have hm9 : Hid (Ms w9 (.slice A5 up.length c5) up) := hm5v0.out.below hb9.out
          by_cases hj : j < k
          case neg =>
            have hJ : ¬ (j : Int) < (k : Int) := by omega
            clear hT9 hy9 hm9
            go_wp2_with fail
            go_ret
            exact ⟨rfl, hB9.out⟩
          case pos =>
            have hJ : (j : Int) < (k : Int) := by omega
            have hjl : j < pairs.length := by rw [← hk'.out]; exact hj
            obtain ⟨g2, o2, rfl, hkc, hg2, hel⟩ := hy9.out.elem j hjl
            obtain ⟨pr, hpr⟩ : ∃ p, p = pairs.getD j default := ⟨_, rfl⟩
            rw [← hpr] at hel
            have hmem : pr ∈ pairs := by rw [hpr]; simp [hjl]
            have hat : atS up pr.1 pr.2 := pair_at hfitH.out hordH.out hnnH.out hclosH.out hmem
            obtain ⟨p1, p2⟩ := pr
            have hc1 : Hid (w9.cell? ⟨g2, o2 + j * 2 + 0, none⟩ = some (.int .i64 p1)) := hel 0 _ rfl
            have hc2 : Hid (w9.cell? ⟨g2, o2 + j * 2 + 1, none⟩ = some (.int .i64 p2)) := hel 1 _ rfl
            have hatH : Hid (atS up p1 p2) := hat
            have hg2H : Hid (g2 < w9.heap.size) := hg2
            clear hpr hel hmem hat hg2 hy9 hjl
            go_upto_region 23 with fail
            refine wp_normal ?_
            refine wp_region_held_drew (S := fun w' => Below w9.heap.size w9 w') (by kernel_rfl) (Below.refl _ _).drew (fun hS => ?_)
            change wpAnyH _ _ _ _ _ 13 (Array.replicate 13 false) _ _
            generalize hx : w9.drew = y0 at hS
            clear hx
            refine held_take 0 rfl (by kernel_rfl) (by kernel_rfl) (by kernel_rfl) (.slice A5 up.length c5) (fun _ _ _ h => nomatch h.1) (by kernel_rfl) (fun w' h => by kernel_rfl) hS ?_
            simp only [Act.put, List.setIfInBounds_toArray, List.set_cons_zero, List.set_cons_succ, List.getElem_toArray, List.getElem_cons_succ, List.getElem_cons_zero]
            refine held_take 1 rfl (by kernel_rfl) (by kernel_rfl) (by kernel_rfl) (.slice (some ⟨g2, o2, none⟩) k c) (fun _ _ _ h => nomatch h.1) (by kernel_rfl) (fun w' h => by kernel_rfl) hS ?_
            simp only [Act.put, List.setIfInBounds_toArray, List.set_cons_zero, List.set_cons_succ, List.getElem_toArray, List.getElem_cons_succ, List.getElem_cons_zero]
            refine held_take 2 rfl (by kernel_rfl) (by kernel_rfl) (by kernel_rfl) (.int .i64 (j : Int)) (fun _ _ _ h => nomatch h.1) (by kernel_rfl) (fun w' h => by kernel_rfl) hS ?_
            simp only [Act.put, List.setIfInBounds_toArray, List.set_cons_zero, List.set_cons_succ, List.getElem_toArray, List.getElem_cons_succ, List.getElem_cons_zero]
            refine held_take 3 rfl (by kernel_rfl) (by kernel_rfl) (by kernel_rfl) (.pointer (some ⟨g2, o2 + j * 2, none⟩)) (fun _ _ _ h => nomatch h.1) (by kernel_rfl) (fun w' h => exec_index un22 sz22 _ _ rfl g2 o2 k c j (by kernel_rfl) (by kernel_rfl) hj w') hS ?_
            simp only [Act.put, List.setIfInBounds_toArray, List.set_cons_zero, List.set_cons_succ, List.getElem_toArray, List.getElem_cons_succ, List.getElem_cons_zero]
            refine held_take 4 rfl (by kernel_rfl) (by kernel_rfl) (by kernel_rfl) (.pointer (some ⟨g2, o2 + j * 2 + 0, none⟩)) (fun _ _ _ h => nomatch h.1) (by kernel_rfl) (fun w' h => exec_field44 w' _ 0 rfl g2 (o2 + j * 2) (by kernel_rfl) 0 rfl (by decide)) hS ?_
            simp only [Act.put, List.setIfInBounds_toArray, List.set_cons_zero, List.set_cons_succ, List.getElem_toArray, List.getElem_cons_succ, List.getElem_cons_zero]
            refine held_take 5 rfl (by kernel_rfl) (by kernel_rfl) (by kernel_rfl) (.int .i64 p1) (fun _ _ _ h => nomatch h.1) (by kernel_rfl) (fun w' h => exec_load_cell 3 w' _ rfl ⟨g2, o2 + j * 2 + 0, none⟩ (by kernel_rfl) _ (by rw [h.cell hg2H.out]; exact hc1.out) (fun _ => by kernel_rfl)) hS ?_
            simp only [Act.put, List.setIfInBounds_toArray, List.set_cons_zero, List.set_cons_succ, List.getElem_toArray, List.getElem_cons_succ, List.getElem_cons_zero]
            refine held_take 6 rfl (by kernel_rfl) (by kernel_rfl) (by kernel_rfl) (.slice (some ⟨g2, o2, none⟩) k c) (fun _ _ _ h => nomatch h.1) (by kernel_rfl) (fun w' h => by kernel_rfl) hS ?_
            simp only [Act.put, List.setIfInBounds_toArray, List.set_cons_zero, List.set_cons_succ, List.getElem_toArray, List.getElem_cons_succ, List.getElem_cons_zero]
            refine held_take 7 rfl (by kernel_rfl) (by kernel_rfl) (by kernel_rfl) (.int .i64 (j : Int)) (fun _ _ _ h => nomatch h.1) (by kernel_rfl) (fun w' h => by kernel_rfl) hS ?_
            simp only [Act.put, List.setIfInBounds_toArray, List.set_cons_zero, List.set_cons_succ, List.getElem_toArray, List.getElem_cons_succ, List.getElem_cons_zero]
            refine held_take 8 rfl (by kernel_rfl) (by kernel_rfl) (by kernel_rfl) (.pointer (some ⟨g2, o2 + j * 2, none⟩)) (fun _ _ _ h => nomatch h.1) (by kernel_rfl) (fun w' h => exec_index un22 sz22 _ _ rfl g2 o2 k c j (by kernel_rfl) (by kernel_rfl) hj w') hS ?_
            simp only [Act.put, List.setIfInBounds_toArray, List.set_cons_zero, List.set_cons_succ, List.getElem_toArray, List.getElem_cons_succ, List.getElem_cons_zero]
            refine held_take 9 rfl (by kernel_rfl) (by kernel_rfl) (by kernel_rfl) (.pointer (some ⟨g2, o2 + j * 2 + 1, none⟩)) (fun _ _ _ h => nomatch h.1) (by kernel_rfl) (fun w' h => exec_field44 w' _ 1 rfl g2 (o2 + j * 2) (by kernel_rfl) 1 rfl (by decide)) hS ?_
            simp only [Act.put, List.setIfInBounds_toArray, List.set_cons_zero, List.set_cons_succ, List.getElem_toArray, List.getElem_cons_succ, List.getElem_cons_zero]
            refine held_take 10 rfl (by kernel_rfl) (by kernel_rfl) (by kernel_rfl) (.int .i64 p2) (fun _ _ _ h => nomatch h.1) (by kernel_rfl) (fun w' h => exec_load_cell 3 w' _ rfl ⟨g2, o2 + j * 2 + 1, none⟩ (by kernel_rfl) _ (by rw [h.cell hg2H.out]; exact hc2.out) (fun _ => by kernel_rfl)) hS ?_
            simp only [Act.put, List.setIfInBounds_toArray, List.set_cons_zero, List.set_cons_succ, List.getElem_toArray, List.getElem_cons_succ, List.getElem_cons_zero]
            refine held_call 11 rfl (by kernel_rfl) (by kernel_rfl) 19 #[.slice A5 up.length c5, .int .i64 p1, .int .i64 p2] (by kernel_rfl) (R := fun v w' => v = .bool true ∧ Below y0.heap.size y0 w') (at_callsR up hsm.out A5 up.length c5 rfl p1 p2 y0 (hT9.out.below hT9.out.1 hS) (hm9.out.below hS) hatH.out) ?_
            rintro _ y1 ⟨rfl, hbn⟩
            have hS1 : Below w9.heap.size w9 y1 := hS.trans (hbn.mono hS.size)
            refine ⟨hS1, ?_⟩
            clear hS hbn
            have hS := hS1
            clear hS1
            simp only [Act.put, List.setIfInBounds_toArray, List.set_cons_zero, List.set_cons_succ, List.getElem_toArray, List.getElem_cons_succ, List.getElem_cons_zero]
            refine held_take 12 rfl (by kernel_rfl) (by kernel_rfl) (by kernel_rfl) (.bool false) (fun _ _ _ h => nomatch h.1) (by kernel_rfl) (fun w' h => by kernel_rfl) hS ?_
            simp only [Act.put, List.setIfInBounds_toArray, List.set_cons_zero, List.set_cons_succ, List.getElem_toArray, List.getElem_cons_succ, List.getElem_cons_zero]
            refine wpAnyH_done (by kernel_rfl) ?_ _
            refine ⟨rfl, ?_⟩
            rename_i hK
            refine hK _ _ ?_
            clear hK
            have hb10 : Hid (Below v0.heap.size v0 y1) := hb9.out.trans (hS.mono hb9.out.size)
            clear hS hb9 hB9 hT9 hm9 hc1 hc2 hatH hg2H
            go_wp2_with fail
            go_roundw
            case rel => exact ⟨j + 1, by omega, by go_num, hb10⟩
            case measure => simp [intOf]; omega
      case neg =>
        have hI1 : ¬ (i : Int) < (L.length : Int) := by omega
        clear hp6v0 hin
        go_wp2_with fail
        go_loopw [14] (fun u wr => ∃ i : Nat, i ≤ k ∧ u = .int .i64 (i : Int) ∧ Hid (Below v0.heap.size v0 wr)) (fun u _ => k - (intOf u).toNat)
        case atStart => exact ⟨0, by omega, rfl, Below.refl _ _⟩
        case round =>
          obtain ⟨j, hjk, rfl, hb9⟩ := hrel
          obtain ⟨w9, rfl⟩ : ∃ v : World, v = wr := ⟨_, rfl⟩
          have hB9 : Hid (Below w.heap.size w w9) := hBv0.out.trans (hb9.out.mono hBv0.out.size)
          have hT9 : Hid (Tab w9) := hTv0.out.below hTv0.out.1 hb9.out
          have hy9 : Hid (Rw 2 encP w9 (.slice A k c) pairs) := hyv0.out.below hb9.out
          have hm9 : Hid (Ms w9 (.slice A5 up.length c5) up) := hm5v0.out.below hb9.out
          by_cases hj : j < k
          case neg =>
            have hJ : ¬ (j : Int) < (k : Int) := by omega
            clear hT9 hy9 hm9
            go_wp2_with fail
            go_ret
            exact ⟨rfl, hB9.out⟩
          case pos =>
            have hJ : (j : Int) < (k : Int) := by omega
            have hjl : j < pairs.length := by rw [← hk'.out]; exact hj
            obtain ⟨g2, o2, rfl, hkc, hg2, hel⟩ := hy9.out.elem j hjl
            obtain ⟨pr, hpr⟩ : ∃ p, p = pairs.getD j default := ⟨_, rfl⟩
            rw [← hpr] at hel
            have hmem : pr ∈ pairs := by rw [hpr]; simp [hjl]
            have hat : atS up pr.1 pr.2 := pair_at hfitH.out hordH.out hnnH.out hclosH.out hmem
            obtain ⟨p1, p2⟩ := pr
            have hc1 : Hid (w9.cell? ⟨g2, o2 + j * 2 + 0, none⟩ = some (.int .i64 p1)) := hel 0 _ rfl
            have hc2 : Hid (w9.cell? ⟨g2, o2 + j * 2 + 1, none⟩ = some (.int .i64 p2)) := hel 1 _ rfl
            have hatH : Hid (atS up p1 p2) := hat
            have hg2H : Hid (g2 < w9.heap.size) := hg2
            clear hpr hel hmem hat hg2 hy9 hjl
            go_upto_region 23 with fail
            refine wp_normal ?_
            refine wp_region_held_drew (S := fun w' => Below w9.heap.size w9 w') (by kernel_rfl) (Below.refl _ _).drew (fun hS => ?_)
            change wpAnyH _ _ _ _ _ 13 (Array.replicate 13 false) _ _
            generalize hx : w9.drew = y0 at hS
            clear hx
            refine held_take 0 rfl (by kernel_rfl) (by kernel_rfl) (by kernel_rfl) (.slice A5 up.length c5) (fun _ _ _ h => nomatch h.1) (by kernel_rfl) (fun w' h => by kernel_rfl) hS ?_
            simp only [Act.put, List.setIfInBounds_toArray, List.set_cons_zero, List.set_cons_succ, List.getElem_toArray, List.getElem_cons_succ, List.getElem_cons_zero]
            refine held_take 1 rfl (by kernel_rfl) (by kernel_rfl) (by kernel_rfl) (.slice (some ⟨g2, o2, none⟩) k c) (fun _ _ _ h => nomatch h.1) (by kernel_rfl) (fun w' h => by kernel_rfl) hS ?_
            simp only [Act.put, List.setIfInBounds_toArray, List.set_cons_zero, List.set_cons_succ, List.getElem_toArray, List.getElem_cons_succ, List.getElem_cons_zero]
            refine held_take 2 rfl (by kernel_rfl) (by kernel_rfl) (by kernel_rfl) (.int .i64 (j : Int)) (fun _ _ _ h => nomatch h.1) (by kernel_rfl) (fun w' h => by kernel_rfl) hS ?_
            simp only [Act.put, List.setIfInBounds_toArray, List.set_cons_zero, List.set_cons_succ, List.getElem_toArray, List.getElem_cons_succ, List.getElem_cons_zero]
            refine held_take 3 rfl (by kernel_rfl) (by kernel_rfl) (by kernel_rfl) (.pointer (some ⟨g2, o2 + j * 2, none⟩)) (fun _ _ _ h => nomatch h.1) (by kernel_rfl) (fun w' h => exec_index un22 sz22 _ _ rfl g2 o2 k c j (by kernel_rfl) (by kernel_rfl) hj w') hS ?_
            simp only [Act.put, List.setIfInBounds_toArray, List.set_cons_zero, List.set_cons_succ, List.getElem_toArray, List.getElem_cons_succ, List.getElem_cons_zero]
            refine held_take 4 rfl (by kernel_rfl) (by kernel_rfl) (by kernel_rfl) (.pointer (some ⟨g2, o2 + j * 2 + 0, none⟩)) (fun _ _ _ h => nomatch h.1) (by kernel_rfl) (fun w' h => exec_field44 w' _ 0 rfl g2 (o2 + j * 2) (by kernel_rfl) 0 rfl (by decide)) hS ?_
            simp only [Act.put, List.setIfInBounds_toArray, List.set_cons_zero, List.set_cons_succ, List.getElem_toArray, List.getElem_cons_succ, List.getElem_cons_zero]
            refine held_take 5 rfl (by kernel_rfl) (by kernel_rfl) (by kernel_rfl) (.int .i64 p1) (fun _ _ _ h => nomatch h.1) (by kernel_rfl) (fun w' h => exec_load_cell 3 w' _ rfl ⟨g2, o2 + j * 2 + 0, none⟩ (by kernel_rfl) _ (by rw [h.cell hg2H.out]; exact hc1.out) (fun _ => by kernel_rfl)) hS ?_
            simp only [Act.put, List.setIfInBounds_toArray, List.set_cons_zero, List.set_cons_succ, List.getElem_toArray, List.getElem_cons_succ, List.getElem_cons_zero]
            refine held_take 6 rfl (by kernel_rfl) (by kernel_rfl) (by kernel_rfl) (.slice (some ⟨g2, o2, none⟩) k c) (fun _ _ _ h => nomatch h.1) (by kernel_rfl) (fun w' h => by kernel_rfl) hS ?_
            simp only [Act.put, List.setIfInBounds_toArray, List.set_cons_zero, List.set_cons_succ, List.getElem_toArray, List.getElem_cons_succ, List.getElem_cons_zero]
            refine held_take 7 rfl (by kernel_rfl) (by kernel_rfl) (by kernel_rfl) (.int .i64 (j : Int)) (fun _ _ _ h => nomatch h.1) (by kernel_rfl) (fun w' h => by kernel_rfl) hS ?_
            simp only [Act.put, List.setIfInBounds_toArray, List.set_cons_zero, List.set_cons_succ, List.getElem_toArray, List.getElem_cons_succ, List.getElem_cons_zero]
            refine held_take 8 rfl (by kernel_rfl) (by kernel_rfl) (by kernel_rfl) (.pointer (some ⟨g2, o2 + j * 2, none⟩)) (fun _ _ _ h => nomatch h.1) (by kernel_rfl) (fun w' h => exec_index un22 sz22 _ _ rfl g2 o2 k c j (by kernel_rfl) (by kernel_rfl) hj w') hS ?_
            simp only [Act.put, List.setIfInBounds_toArray, List.set_cons_zero, List.set_cons_succ, List.getElem_toArray, List.getElem_cons_succ, List.getElem_cons_zero]
            refine held_take 9 rfl (by kernel_rfl) (by kernel_rfl) (by kernel_rfl) (.pointer (some ⟨g2, o2 + j * 2 + 1, none⟩)) (fun _ _ _ h => nomatch h.1) (by kernel_rfl) (fun w' h => exec_field44 w' _ 1 rfl g2 (o2 + j * 2) (by kernel_rfl) 1 rfl (by decide)) hS ?_
            simp only [Act.put, List.setIfInBounds_toArray, List.set_cons_zero, List.set_cons_succ, List.getElem_toArray, List.getElem_cons_succ, List.getElem_cons_zero]
            refine held_take 10 rfl (by kernel_rfl) (by kernel_rfl) (by kernel_rfl) (.int .i64 p2) (fun _ _ _ h => nomatch h.1) (by kernel_rfl) (fun w' h => exec_load_cell 3 w' _ rfl ⟨g2, o2 + j * 2 + 1, none⟩ (by kernel_rfl) _ (by rw [h.cell hg2H.out]; exact hc2.out) (fun _ => by kernel_rfl)) hS ?_
            simp only [Act.put, List.setIfInBounds_toArray, List.set_cons_zero, List.set_cons_succ, List.getElem_toArray, List.getElem_cons_succ, List.getElem_cons_zero]
            refine held_call 11 rfl (by kernel_rfl) (by kernel_rfl) 19 #[.slice A5 up.length c5, .int .i64 p1, .int .i64 p2] (by kernel_rfl) (R := fun v w' => v = .bool true ∧ Below y0.heap.size y0 w') (at_callsR up hsm.out A5 up.length c5 rfl p1 p2 y0 (hT9.out.below hT9.out.1 hS) (hm9.out.below hS) hatH.out) ?_
            rintro _ y1 ⟨rfl, hbn⟩
            have hS1 : Below w9.heap.size w9 y1 := hS.trans (hbn.mono hS.size)
            refine ⟨hS1, ?_⟩
            clear hS hbn
            have hS := hS1
            clear hS1
            simp only [Act.put, List.setIfInBounds_toArray, List.set_cons_zero, List.set_cons_succ, List.getElem_toArray, List.getElem_cons_succ, List.getElem_cons_zero]
            refine held_take 12 rfl (by kernel_rfl) (by kernel_rfl) (by kernel_rfl) (.bool false) (fun _ _ _ h => nomatch h.1) (by kernel_rfl) (fun w' h => by kernel_rfl) hS ?_
            simp only [Act.put, List.setIfInBounds_toArray, List.set_cons_zero, List.set_cons_succ, List.getElem_toArray, List.getElem_cons_succ, List.getElem_cons_zero]
            refine wpAnyH_done (by kernel_rfl) ?_ _
            refine ⟨rfl, ?_⟩
            rename_i hK
            refine hK _ _ ?_
            clear hK
            have hb10 : Hid (Below v0.heap.size v0 y1) := hb9.out.trans (hS.mono hb9.out.size)
            clear hS hb9 hB9 hT9 hm9 hc1 hc2 hatH hg2H
            go_wp2_with fail
            go_roundw
            case rel => exact ⟨j + 1, by omega, by go_num, hb10⟩
            case measure => simp [intOf]; omega
end Go.Proofs.YtfbbpodlemllcaaDoor
