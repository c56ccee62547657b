/- Go functions told as plain functions, and that the program's calls come to just these, for all arguments. Written by the session's own program wip/tools/myprint.py (it drives the kit's printer). -/
import Derived.Test.YtmgocpggoajfeaaPAx0
import Derived.Test.YtmgocpggoajfeaaPAx6
import Derived.Test.YtmgocpggoajfeaaPAx7
import Derived.Test.YtmgocpggoajfeaaPAx8
namespace Go.Proofs.Ytmgocpggoajfeaa.PA
open Go.RowKit Go.Proofs.YtmgocpggoajfeaaW.PrintWords Go.Proofs.YtmgocpggoajfeaaW.PrintLast Go.Proofs.YtmgocpggoajfeaaW.PrintMore
attribute [local go_sem] max2_int min2_int max_two min_two max_three min_three max_four min_four   -- for this text's walks alone
set_option linter.unusedVariables false
set_option linter.unusedSimpArgs false

/-! ### value_Sort: function 28 -/
-- value.Sort: two tuples of one value each, of which the second stands ahead
def cmpN (a b : Int) : Int := if a < b then -1 else if b < a then 1 else 0
def cmpV (a b : S25) : Int := if cmpL a.f0.toList b.f0.toList ≠ 0 then cmpL a.f0.toList b.f0.toList else cmpN a.f1 b.f1
def cmpT1 (p : ByteArray) (a : S25) (q : ByteArray) (b : S25) : Int := if cmpL p.toList q.toList ≠ 0 then cmpL p.toList q.toList else cmpV a b
def value_Sort.f (k : Nat) (l0 : List (S28)) : Option (List (S28)) :=
  match l0 with
  | [⟨p, [a]⟩, ⟨q, [b]⟩] => if cmpT1 q b p a = -1 ∧ cmpT1 p a q b ≠ 0 then some [⟨q, [b]⟩, ⟨p, [a]⟩] else none
  | _ => none
theorem value_Sort.mono : ∀ a0 k, LeO (value_Sort.f k a0) (value_Sort.f (k + 1) a0) := fun a0 k => LeO.refl _
theorem wp_normal {P : Program} {c : Code} {K : Act → World → Prop} {Q' : Exit → Act → World → Prop} {a : Act} {w : World}
    (h : c.wp P (fun ex a' w' => ex = .normal ∧ K a' w') a w) : c.wp P (Exit.then K Q') a w := by
  refine wp_mono h ?_
  rintro e a' w' ⟨rfl, hk⟩
  exact hk
theorem inf25 : (Try.prog.info? 25).map (fun i => (i.zero, i.size, i.bytes)) = some (some (.agg #[.string ⟨#[]⟩, .int .i64 0]), 2, 24) := by kernel_rfl
theorem inf28 : (Try.prog.info? 28).map (fun i => (i.zero, i.size, i.bytes)) = some (some (.agg #[.string ⟨#[]⟩, .slice none 0 0]), 2, 40) := by kernel_rfl
theorem exec_eqN {o : Oper} {a : Act} {w : World} (x y : Operand) (ho : o.op = .binOp .eql 3 x y 3) (u v : Int) (hx : a.eval x = .int .i64 u) (hy : a.eval y = .int .i64 v) : (execOp a.eval o).run Try.prog w = .ok (.value (.bool (u == v))) w := by
  unfold execOp
  simp [ho, hx, hy, eqGuard, binOp_eql]
theorem exec_ltN {o : Oper} {a : Act} {w : World} (x y : Operand) (ho : o.op = .binOp .lss 3 x y 3) (u v : Int) (hx : a.eval x = .int .i64 u) (hy : a.eval y = .int .i64 v) : (execOp a.eval o).run Try.prog w = .ok (.value (.bool (decide (u < v)))) w := by
  unfold execOp
  simp [ho, hx, hy, eqGuard, binOp_lss]
theorem step_wp {P : Program} {ops : Array Oper} {o : Oper} {a : Act} {W : World} {Kc : Act → World → Prop} {Q : Exit → Act → World → Prop} (hw : Region.wanted o (yielded ops a.tmps) = true)
    (h : if Region.wanted o (yielded ops a.tmps) = true then Oper.wp P o a W Kc Q else Kc (a.put o.dst undef) W) : Oper.wp P o a W Kc Q := by rwa [if_pos hw] at h
theorem R_form {d : Kd S25} {e : Nat} {w : World} {base : Nat} {ok : Nat → Prop} {v : Value} {xs : List S25} (h : d.R e w base ok v xs) : ∃ A c, v = .slice A xs.length c := by
  obtain ⟨_, _, ⟨_, h2⟩, _⟩ := h
  rcases h2 with ⟨rfl, h0⟩ | ⟨g, cap, cur, rfl, _⟩
  · exact ⟨none, 0, by rw [h0]⟩
  · exact ⟨_, cap, rfl⟩
theorem own_one {d : Kd S25} {e : Nat} {w : World} {base : Nat} {ok : Nat → Prop} {v : Value} {xs : List S25} (h : d.R e w base ok v xs) : v.oneCell' = true := by
  obtain ⟨_, _, ⟨_, h2⟩, _⟩ := h
  rcases h2 with ⟨rfl, _⟩ | ⟨g, cap, cur, rfl, _⟩ <;> rfl
set_option maxRecDepth 100000 in
set_option maxHeartbeats 2000000 in
theorem copied_calls (p : ByteArray) (A : Option Addr) (c : Nat) (l : List S25) (w : World) (hr : Kd.C k25 w A l.length l) (hl : l.length ≤ 1000) :
    Calls Try.prog 40 #[.agg #[.string p, .slice A l.length c]] w fun e w' => ∃ v, e = .returned (.agg #[.string p, v]) ∧ Kd.R k25 25 w' w.heap.size (fun _ => True) v l ∧ Below w.heap.size w w' := by
  have HR : Hid (Kd.C k25 w A l.length l) := hr
  clear hr
  go_enter Try.func40, Try.ntmps40
  go_upto_region 1 with fail
  rename_i hK0
  generalize hW : World.alloc _ _ = W
  have hW0 : W.heap[w.heap.size]? = some (.cells #[.string p, .slice A l.length c] 28 (0, 0)) := by rw [← hW]; exact heap_alloc2_old w _ _
  have hW1 : W.heap[w.heap.size + 1]? = some (.cells #[.string ⟨#[]⟩, .slice none 0 0] 28 (0, 0)) := by rw [← hW]; exact heap_alloc2_new w _ _
  have hWB : Below w.heap.size w W := by rw [← hW]; exact ((Below.refl _ _).alloc (Nat.le_refl _) _).alloc (by simp) _
  have hWs : W.heap.size = w.heap.size + 2 := by rw [← hW]; simp
  clear hW
  obtain ⟨B, hBd⟩ : ∃ B, B = w.heap.size := ⟨_, rfl⟩
  have hBH : Hid (B = w.heap.size) := hBd
  rw [← hBd] at hW0 hW1 hWs ⊢
  clear hBd
  have hRW : Kd.C k25 W A l.length l := Kd.C_below HR.out hWB
  refine wp_normal ?_
  refine wp_region_held_drew (S := fun w' => Below w.heap.size w w' ∧ w'.heap[B]? = some (.cells #[.string p, .slice A l.length c] 28 (0, 0))) (by kernel_rfl) ⟨hWB.drew, hW0⟩ (fun hS => ?_)
  change wpAnyH _ _ _ _ _ 7 (Array.replicate 7 false) _ _
  have hv1 : W.drew.heap[B + 1]? = some (.cells #[.string ⟨#[]⟩, .slice none 0 0] 28 (0, 0)) := hW1
  have hRR : Kd.C k25 W.drew A l.length l := Kd.C_below hRW (Below.refl _ _).drew
  have hvs : W.drew.heap.size = B + 2 := hWs
  generalize hx : W.drew = v0 at hS hv1 hRR hvs
  clear hx
  refine held_take 0 rfl (by kernel_rfl) (by kernel_rfl) (by kernel_rfl) (.pointer (some ⟨B, 0, none⟩)) (fun _ _ _ h => nomatch h.1) (by kernel_rfl) (fun w' h => by kernel_rfl) hS ?_
  simp only [Act.put, List.setIfInBounds_toArray, List.set_cons_zero, List.set_cons_succ, List.getElem_toArray, List.getElem_cons_succ, List.getElem_cons_zero]
  refine held_take 1 rfl (by kernel_rfl) (by kernel_rfl) (by kernel_rfl) (.string p) (fun _ _ _ h => nomatch h.1) (by kernel_rfl) (fun w' h => exec_load_cell 9 w' _ rfl ⟨B, 0, none⟩ (by kernel_rfl) _ (by rw [cell_of_row _ _ _ _ _ _ h.2]; rfl) (fun _ => by kernel_rfl)) hS ?_
  simp only [Act.put, List.setIfInBounds_toArray, List.set_cons_zero, List.set_cons_succ, List.getElem_toArray, List.getElem_cons_succ, List.getElem_cons_zero]
  refine held_take 2 rfl (by kernel_rfl) (by kernel_rfl) (by kernel_rfl) (.pointer (some ⟨B, 1, none⟩)) (fun _ _ _ h => nomatch h.1) (by kernel_rfl) (fun w' h => by kernel_rfl) hS ?_
  simp only [Act.put, List.setIfInBounds_toArray, List.set_cons_zero, List.set_cons_succ, List.getElem_toArray, List.getElem_cons_succ, List.getElem_cons_zero]
  refine held_take 3 rfl (by kernel_rfl) (by kernel_rfl) (by kernel_rfl) (.slice A l.length c) (fun _ _ _ h => nomatch h.1) (by kernel_rfl) (fun w' h => exec_load_cell 26 w' _ rfl ⟨B, 1, none⟩ (by kernel_rfl) _ (by rw [cell_of_row _ _ _ _ _ _ h.2]; rfl) (fun _ => by kernel_rfl)) hS ?_
  simp only [Act.put, List.setIfInBounds_toArray, List.set_cons_zero, List.set_cons_succ, List.getElem_toArray, List.getElem_cons_succ, List.getElem_cons_zero]
  refine held_one 4 rfl (by kernel_rfl) (by kernel_rfl) (fun K hK => ?_)
  refine step_wp (ops := #[]) (by kernel_rfl) (Kd.R_append_rows_step k25 v0.heap.size (by kernel_rfl) _ _ 26 25 _ 24 rfl Try.underlying26 inf25 rfl (by decide) (by decide) (.slice none 0 0) [] l A l.length c (fun _ => True) (fun _ => True) (by kernel_rfl) (by kernel_rfl) (Kd.R_nil _ _ _ _ _) hRR (fun x cs hc => by rw [k25_open hc]; exact k25_mkM _ _ _ _) (fun k _ => ⟨trivial, by simp [Value.ownBlock]⟩) (fun _ _ => trivial) (Below.refl _ _) (Nat.le_refl _) (by simp; omega) ?_)
  intro vv v1 hO hb1 hgx hatx
  clear hgx hatx
  rw [List.nil_append] at hO
  have hS1 : Below w.heap.size w v1 ∧ v1.heap[B]? = some (.cells #[.string p, .slice A l.length c] 28 (0, 0)) := ⟨hS.1.trans (hb1.mono hS.1.size), heap_kept hS.2 hb1⟩
  have hv1' := heap_kept hv1 hb1
  have hO0 : Kd.R k25 25 v1 v0.heap.size (fun k => k ≠ B + 1) vv l := Kd.R_mono (Kd.R_bound hO) (fun k hk => by have := hk.2.1; omega)
  have hO1 : Hid (Kd.R k25 25 v1 w.heap.size (fun k => k ≠ B + 1) vv l) := Kd.R_lower hO0 (by have := hBH.out; omega)
  obtain ⟨A2, c2, rfl⟩ := R_form hO1.out
  refine hK _ _ hS1 ?_
  clear hK hO hRR hb1 hS hO0
  have hS := hS1
  clear hS1
  simp only [Act.put, List.setIfInBounds_toArray, List.set_cons_zero, List.set_cons_succ, List.getElem_toArray, List.getElem_cons_succ, List.getElem_cons_zero]
  refine held_take 5 rfl (by kernel_rfl) (by kernel_rfl) (by kernel_rfl) (.agg #[.string p, .slice A2 l.length c2]) (fun _ _ _ h => nomatch h.1) (by kernel_rfl) (fun w' h => by kernel_rfl) hS ?_
  simp only [Act.put, List.setIfInBounds_toArray, List.set_cons_zero, List.set_cons_succ, List.getElem_toArray, List.getElem_cons_succ, List.getElem_cons_zero]
  refine held_one 6 rfl (by kernel_rfl) (by kernel_rfl) (fun K hK => ?_)
  refine wp_store_row 28 _ _ rfl (B + 1) #[.string p, .slice A2 l.length c2] (by kernel_rfl) (by kernel_rfl) 28 _ hv1' (by kernel_rfl) rfl (by kernel_rfl) ?_
  have hn := setRow_heap v1 (B + 1) _ #[.string p, .slice A2 l.length c2] _ _ hv1'
  have hS2 : Below w.heap.size w (v1.setRow (B + 1) #[.string p, .slice A2 l.length c2]) ∧ (v1.setRow (B + 1) #[.string p, .slice A2 l.length c2]).heap[B]? = some (.cells #[.string p, .slice A l.length c] 28 (0, 0)) :=
    ⟨below_setRow hS.1 (by have := hBH.out; omega) _, (setRow_other _ _ _ _ (by omega)).trans hS.2⟩
  have hO2 : Hid (Kd.R k25 25 (v1.setRow (B + 1) #[.string p, .slice A2 l.length c2]) w.heap.size (fun _ => True) (.slice A2 l.length c2) l) := Kd.R_mono (Kd.R_move hO1.out (fun k hk => setRow_other _ _ _ _ hk)) (fun _ _ => trivial)
  refine hK _ _ hS2 ?_
  clear hK hO1 hS
  generalize v1.setRow _ _ = v2 at hn hS2 hO2 ⊢
  simp only [Act.put, List.setIfInBounds_toArray, List.set_cons_zero, List.set_cons_succ, List.getElem_toArray, List.getElem_cons_succ, List.getElem_cons_zero]
  refine wpAnyH_done (by kernel_rfl) ?_ _
  refine ⟨rfl, ?_⟩
  refine hK0 _ _ (wp_ret ?_)
  exact bodyPost_ret (results_cell_row rfl _ _ (B + 1) 28 _ (0, 0) _ (by kernel_rfl) hn Try.underlying28 rfl (by kernel_rfl)) rfl ⟨_, rfl, hO2.out, hS2.1⟩
theorem order_one (p : ByteArray) (a : S25) (q : ByteArray) (b : S25) : value_Order.f 3 p [a] q [b] = some (cmpT1 p a q b) := by
  unfold value_Order.f cmpT1 cmpV cmpN
  simp only [value_sign_string.f, value_sign_int.f, Option.bind_some, List.length_cons, List.length_nil]
  by_cases h : cmpL p.toList q.toList = 0
  · rw [if_pos h, if_neg (by simp)]
    simp [value_Order.l0, value_Compare.f, value_sign_string.f, value_sign_int64.f, rd_T25, wrap64]
    by_cases h2 : cmpL a.f0.toList b.f0.toList = 0
    · by_cases h3 : a.f1 < b.f1
      · simp [h, h2, h3]
      · by_cases h4 : b.f1 < a.f1 <;> simp [h, h2, h3, h4]
    · simp [h, h2]
  · rw [if_neg h, if_pos h]
/-- What the boxes of two tuples hold. -/
theorem C_W {A : Option Addr} {l : List S25} {w W : World} (h : Kd.C k25 w A l.length l) (hb : Below w.heap.size w W) : Kd.C k25 W A l.length l := Kd.C_below h hb
set_option maxRecDepth 100000 in
set_option maxHeartbeats 1000000 in
theorem before_calls (rv : Value) (k : Nat) (p : ByteArray) (A : Option Addr) (c : Nat) (l : List S25) (q : ByteArray) (A2 : Option Addr) (c2 : Nat) (l2 : List S25) (r : Int) (w : World) (hr : Kd.C k25 w A l.length l) (hc : l.length ≤ c) (hr2 : Kd.C k25 w A2 l2.length l2) (hc2 : l2.length ≤ c2) (h : value_Order.f k p l q l2 = some r) :
    Calls Try.prog 41 #[rv, .agg #[.string p, .slice A l.length c], .agg #[.string q, .slice A2 l2.length c2]] w fun e w' => e = .returned (.int .i64 r) ∧ Below w.heap.size w w' := by
  have hcon := fun W hb => value_Order.calls k p A c l q A2 c2 l2 r W (C_W hr hb) hc (C_W hr2 hb) hc2 h
  generalize hn : l.length = n at hcon ⊢
  generalize hn2 : l2.length = n2 at hcon ⊢
  clear hr hc hr2 hc2 h hn hn2
  go_enter Try.func41, Try.ntmps41
  go_upto_region 1 with fail
  generalize hW : World.alloc _ _ = W
  have hW0 : W.heap[w.heap.size]? = some (.cells #[.string p, .slice A n c] 28 (0, 0)) := by rw [← hW]; exact heap_alloc2_old w _ _
  have hW1 : W.heap[w.heap.size + 1]? = some (.cells #[.string q, .slice A2 n2 c2] 28 (0, 0)) := by rw [← hW]; exact heap_alloc2_new w _ _
  have hWB : Below w.heap.size w W := by rw [← hW]; exact ((Below.refl _ _).alloc (Nat.le_refl _) _).alloc (by simp) _
  clear hW
  obtain ⟨B, hBd⟩ : ∃ B, B = w.heap.size := ⟨_, rfl⟩
  rw [← hBd] at hW0 hW1 ⊢
  clear hBd
  refine wp_region_lit ?_
  refine sl_run rfl (.agg #[.string p, .slice A n c]) W (exec_load_row 28 W _ rfl B (by kernel_rfl) 28 _ (0, 0) _ hW0 Try.underlying28 rfl (by kernel_rfl)) ?_
  simp only [Act.put, List.setIfInBounds_toArray, List.set_cons_zero, List.set_cons_succ]
  refine sl_run rfl (.agg #[.string q, .slice A2 n2 c2]) W (exec_load_row 28 W _ rfl (B + 1) (by kernel_rfl) 28 _ (0, 0) _ hW1 Try.underlying28 rfl (by kernel_rfl)) ?_
  simp only [Act.put, List.setIfInBounds_toArray, List.set_cons_zero, List.set_cons_succ]
  refine sl_call rfl 25 #[.agg #[.string p, .slice A n c], .agg #[.string q, .slice A2 n2 c2]] (by kernel_rfl) (R := fun v w' => v = .int .i64 r ∧ Below W.heap.size W w') ((hcon W hWB).mono fun e w' h => ⟨_, h.1, rfl, h.2⟩) ?_
  rintro _ w2 ⟨rfl, hb2⟩
  simp only [Act.put, List.setIfInBounds_toArray, List.set_cons_zero, List.set_cons_succ]
  refine sl_run rfl (.int .i64 r) w2 (by kernel_rfl) ?_
  simp only [Act.put, List.setIfInBounds_toArray, List.set_cons_zero, List.set_cons_succ]
  refine wpList_nil ?_
  clear hW0 hW1 hcon
  go_wp2_with fail
  go_ret
  exact ⟨rfl, hWB.trans (hb2.mono hWB.size)⟩
set_option maxRecDepth 100000 in
set_option maxHeartbeats 1000000 in
theorem eq_calls (rv : Value) (g : Nat) (k : Nat) (p : ByteArray) (A : Option Addr) (c : Nat) (l : List S25) (q : ByteArray) (A2 : Option Addr) (c2 : Nat) (l2 : List S25) (r : Int) (w : World) (hr : Kd.C k25 w A l.length l) (hc : l.length ≤ c) (hr2 : Kd.C k25 w A2 l2.length l2) (hc2 : l2.length ≤ c2) (h : value_Order.f k p l q l2 = some r)
    (hg : w.heap[g]? = some (.cells #[.func (.func 41) #[rv] #[]] 39 (0, 0))) :
    Calls Try.prog 45 #[.agg #[.string p, .slice A l.length c], .agg #[.string q, .slice A2 l2.length c2], .pointer (some ⟨g, 0, none⟩)] w fun e w' => e = .returned (.bool (r == 0)) ∧ Below w.heap.size w w' := by
  have hcon := fun W (hb : Below w.heap.size w W) => before_calls rv k p A c l q A2 c2 l2 r W (C_W hr hb) hc (C_W hr2 hb) hc2 h
  generalize hn : l.length = n at hcon ⊢
  generalize hn2 : l2.length = n2 at hcon ⊢
  clear hr hc hr2 hc2 h hn hn2
  go_enter Try.func45, Try.ntmps45
  go_upto_region 1 with fail
  generalize hW : World.alloc _ _ = W
  have hW0 : W.heap[w.heap.size]? = some (.cells #[.string p, .slice A n c] 28 (0, 0)) := by rw [← hW]; exact heap_alloc2_old w _ _
  have hW1 : W.heap[w.heap.size + 1]? = some (.cells #[.string q, .slice A2 n2 c2] 28 (0, 0)) := by rw [← hW]; exact heap_alloc2_new w _ _
  have hWB : Below w.heap.size w W := by rw [← hW]; exact ((Below.refl _ _).alloc (Nat.le_refl _) _).alloc (by simp) _
  clear hW
  have hWg := heap_kept hg hWB
  obtain ⟨B, hBd⟩ : ∃ B, B = w.heap.size := ⟨_, rfl⟩
  rw [← hBd] at hW0 hW1 ⊢
  clear hBd hg
  refine wp_region_lit ?_
  refine sl_run rfl (.func (.func 41) #[rv] #[]) W (exec_load_cell 39 W _ rfl ⟨g, 0, none⟩ (by kernel_rfl) _ (by rw [cell_of_row _ _ _ _ _ _ hWg]; rfl) (fun _ => by kernel_rfl)) ?_
  simp only [Act.put, List.setIfInBounds_toArray, List.set_cons_zero, List.set_cons_succ]
  refine sl_run rfl (.agg #[.string p, .slice A n c]) W (exec_load_row 28 W _ rfl B (by kernel_rfl) 28 _ (0, 0) _ hW0 Try.underlying28 rfl (by kernel_rfl)) ?_
  simp only [Act.put, List.setIfInBounds_toArray, List.set_cons_zero, List.set_cons_succ]
  refine sl_run rfl (.agg #[.string q, .slice A2 n2 c2]) W (exec_load_row 28 W _ rfl (B + 1) (by kernel_rfl) 28 _ (0, 0) _ hW1 Try.underlying28 rfl (by kernel_rfl)) ?_
  simp only [Act.put, List.setIfInBounds_toArray, List.set_cons_zero, List.set_cons_succ]
  refine sl_call rfl 41 #[rv, .agg #[.string p, .slice A n c], .agg #[.string q, .slice A2 n2 c2]] (by kernel_rfl) (R := fun v w' => v = .int .i64 r ∧ Below W.heap.size W w') ((hcon W hWB).mono fun e w' h => ⟨_, h.1, rfl, h.2⟩) ?_
  rintro _ w2 ⟨rfl, hb2⟩
  simp only [Act.put, List.setIfInBounds_toArray, List.set_cons_zero, List.set_cons_succ]
  refine sl_run rfl (.bool (r == 0)) w2 (exec_eqN _ _ rfl r 0 (by kernel_rfl) (by kernel_rfl)) ?_
  simp only [Act.put, List.setIfInBounds_toArray, List.set_cons_zero, List.set_cons_succ]
  refine sl_run rfl (.bool (r == 0)) w2 (by kernel_rfl) ?_
  simp only [Act.put, List.setIfInBounds_toArray, List.set_cons_zero, List.set_cons_succ]
  refine wpList_nil ?_
  clear hW0 hW1 hcon hWg
  go_wp2_with fail
  go_ret
  exact ⟨rfl, hWB.trans (hb2.mono hWB.size)⟩
/-- The row of two tuples. -/
def rowTwo (p : ByteArray) (A : Option Addr) (c : Nat) (q : ByteArray) (A2 : Option Addr) (c2 : Nat) : Array Value := #[.string p, .slice A 1 c, .string q, .slice A2 1 c2]
theorem range_two {w : World} {g : Nat} {x y z u : Value} (h : w.heap[g]? = some (.cells #[x, y, z, u] 28 (0, 0))) : w.rangeAt g 0 [x, y] ∧ w.rangeAt g 2 [z, u] := by
  constructor
  · intro j v hj
    rw [cell_of_row _ _ _ _ _ _ h]
    rcases j with _ | _ | j <;> simp at hj ⊢ <;> exact hj
  · intro j v hj
    rw [cell_of_row _ _ _ _ _ _ h]
    rcases j with _ | _ | j <;> simp at hj ⊢ <;> exact hj
theorem grown_set {w W : World} {g : Nat} (h : w.grownBy W (some g)) (i : Nat) (v : Value) : w.grownBy (W.setCell ⟨g, i, none⟩ v) (some g) :=
  ⟨h.os, h.tape, h.output, by simpa using h.size, fun k hk hne => (heap_setCell_other _ _ _ _ (fun e => hne (by rw [e]))).trans (h.block k hk hne)⟩
theorem grown_drew {w W : World} {g : Nat} (h : w.grownBy W (some g)) : w.grownBy W.drew (some g) := ⟨h.os, h.tape, h.output, h.size, h.block⟩
theorem grown_drewN {w W : World} {g : Nat} (h : w.grownBy W (some g)) (n : Nat) : w.grownBy (W.drewN n) (some g) := ⟨h.os, h.tape, h.output, h.size, h.block⟩
set_option maxRecDepth 100000 in
set_option maxHeartbeats 2000000 in
theorem insertion_two (rv : Value) (p : ByteArray) (A : Option Addr) (c : Nat) (a : S25) (q : ByteArray) (A2 : Option Addr) (c2 : Nat) (b : S25) (g cap : Nat) (w : World) (hr : Kd.C k25 w A 1 [a]) (hc : 1 ≤ c) (hr2 : Kd.C k25 w A2 1 [b]) (hc2 : 1 ≤ c2) (h : cmpT1 q b p a = -1)
    (hg : w.heap[g]? = some (.cells #[.string p, .slice A 1 c, .string q, .slice A2 1 c2] 28 (0, 0))) :
    Calls Try.prog 53 #[.slice (some ⟨g, 0, none⟩) 2 cap, .int .i64 0, .int .i64 2, .func (.func 41) #[rv] #[]] w fun e w' => e = .returned (.tuple #[]) ∧ w'.heap[g]? = some (.cells #[.string q, .slice A2 1 c2, .string p, .slice A 1 c] 28 (0, 0)) ∧ w.grownBy w' (some g) := by
  have hcon := fun W (hb : Below w.heap.size w W) => before_calls rv 3 q A2 c2 [b] p A c [a] (-1) W (C_W (l := [b]) hr2 hb) hc2 (C_W (l := [a]) hr hb) hc (by rw [order_one, h])
  clear hr hr2 hc hc2 h
  go_enter Try.func53, Try.ntmps53
  go_wp2_with fail
  refine wp_loop_rounds 2 ?_
  rw [rounds_succ]
  go_wp2_with fail
  refine wp_loop_rounds 2 ?_
  rw [rounds_succ]
  go_wp2_with fail
  refine wp_normal ?_
  refine wp_region_held_drew (S := fun w' => Below w.heap.size w w') (by kernel_rfl) (Below.refl _ _).drew (fun hS => ?_)
  change wpAnyH _ _ _ _ _ 17 (Array.replicate 17 false) _ _
  generalize hx : w.drew = v0 at hS
  clear hx
  refine held_take 0 rfl (by kernel_rfl) (by kernel_rfl) (by kernel_rfl) (.int .i64 1) (fun _ _ _ h => nomatch h.1) (by kernel_rfl) (fun w' h => by kernel_rfl) hS ?_
  simp only [Act.put, List.setIfInBounds_toArray, List.set_cons_zero, List.set_cons_succ, List.getElem_toArray, List.getElem_cons_succ, List.getElem_cons_zero]
  refine held_take 1 rfl (by kernel_rfl) (by kernel_rfl) (by kernel_rfl) (.int .i64 0) (fun _ _ _ h => nomatch h.1) (by kernel_rfl) (fun w' h => by kernel_rfl) hS ?_
  simp only [Act.put, List.setIfInBounds_toArray, List.set_cons_zero, List.set_cons_succ, List.getElem_toArray, List.getElem_cons_succ, List.getElem_cons_zero]
  refine held_take 2 rfl (by kernel_rfl) (by kernel_rfl) (by kernel_rfl) (.bool true) (fun _ _ _ h => nomatch h.1) (by kernel_rfl) (fun w' h => by kernel_rfl) hS ?_
  simp only [Act.put, List.setIfInBounds_toArray, List.set_cons_zero, List.set_cons_succ, List.getElem_toArray, List.getElem_cons_succ, List.getElem_cons_zero]
  refine held_take 3 rfl (by kernel_rfl) (by kernel_rfl) (by kernel_rfl) (.bool true) (fun _ _ _ h => nomatch h.1) (by kernel_rfl) (fun w' h => by kernel_rfl) hS ?_
  simp only [Act.put, List.setIfInBounds_toArray, List.set_cons_zero, List.set_cons_succ, List.getElem_toArray, List.getElem_cons_succ, List.getElem_cons_zero]
  refine held_take 4 rfl (by kernel_rfl) (by kernel_rfl) (by kernel_rfl) (.func (.func 41) #[rv] #[]) (fun _ _ _ h => nomatch h.1) (by kernel_rfl) (fun w' h => by kernel_rfl) hS ?_
  simp only [Act.put, List.setIfInBounds_toArray, List.set_cons_zero, List.set_cons_succ, List.getElem_toArray, List.getElem_cons_succ, List.getElem_cons_zero]
  refine held_take 5 rfl (by kernel_rfl) (by kernel_rfl) (by kernel_rfl) (.slice (some ⟨g, 0, none⟩) 2 cap) (fun _ _ _ h => nomatch h.1) (by kernel_rfl) (fun w' h => by kernel_rfl) hS ?_
  simp only [Act.put, List.setIfInBounds_toArray, List.set_cons_zero, List.set_cons_succ, List.getElem_toArray, List.getElem_cons_succ, List.getElem_cons_zero]
  refine held_take 6 rfl (by kernel_rfl) (by kernel_rfl) (by kernel_rfl) (.int .i64 1) (fun _ _ _ h => nomatch h.1) (by kernel_rfl) (fun w' h => by kernel_rfl) hS ?_
  simp only [Act.put, List.setIfInBounds_toArray, List.set_cons_zero, List.set_cons_succ, List.getElem_toArray, List.getElem_cons_succ, List.getElem_cons_zero]
  refine held_take 7 rfl (by kernel_rfl) (by kernel_rfl) (by kernel_rfl) (.pointer (some ⟨g, 2, none⟩)) (fun _ _ _ h => nomatch h.1) (by kernel_rfl) (fun w' h => by kernel_rfl) hS ?_
  simp only [Act.put, List.setIfInBounds_toArray, List.set_cons_zero, List.set_cons_succ, List.getElem_toArray, List.getElem_cons_succ, List.getElem_cons_zero]
  refine held_take 8 rfl (by kernel_rfl) (by kernel_rfl) (by kernel_rfl) (.agg #[.string q, .slice A2 1 c2]) (fun _ _ _ h => nomatch h.1) (by kernel_rfl) (fun w' h => exec_load_mid 28 w' _ rfl g 2 (by kernel_rfl) _ _ (range_two (heap_kept hg h)).2 Try.underlying28 rfl (by kernel_rfl)) hS ?_
  simp only [Act.put, List.setIfInBounds_toArray, List.set_cons_zero, List.set_cons_succ, List.getElem_toArray, List.getElem_cons_succ, List.getElem_cons_zero]
  refine held_take 9 rfl (by kernel_rfl) (by kernel_rfl) (by kernel_rfl) (.slice (some ⟨g, 0, none⟩) 2 cap) (fun _ _ _ h => nomatch h.1) (by kernel_rfl) (fun w' h => by kernel_rfl) hS ?_
  simp only [Act.put, List.setIfInBounds_toArray, List.set_cons_zero, List.set_cons_succ, List.getElem_toArray, List.getElem_cons_succ, List.getElem_cons_zero]
  refine held_take 10 rfl (by kernel_rfl) (by kernel_rfl) (by kernel_rfl) (.int .i64 1) (fun _ _ _ h => nomatch h.1) (by kernel_rfl) (fun w' h => by kernel_rfl) hS ?_
  simp only [Act.put, List.setIfInBounds_toArray, List.set_cons_zero, List.set_cons_succ, List.getElem_toArray, List.getElem_cons_succ, List.getElem_cons_zero]
  refine held_take 11 rfl (by kernel_rfl) (by kernel_rfl) (by kernel_rfl) (.int .i64 0) (fun _ _ _ h => nomatch h.1) (by kernel_rfl) (fun w' h => by kernel_rfl) hS ?_
  simp only [Act.put, List.setIfInBounds_toArray, List.set_cons_zero, List.set_cons_succ, List.getElem_toArray, List.getElem_cons_succ, List.getElem_cons_zero]
  refine held_take 12 rfl (by kernel_rfl) (by kernel_rfl) (by kernel_rfl) (.pointer (some ⟨g, 0, none⟩)) (fun _ _ _ h => nomatch h.1) (by kernel_rfl) (fun w' h => by kernel_rfl) hS ?_
  simp only [Act.put, List.setIfInBounds_toArray, List.set_cons_zero, List.set_cons_succ, List.getElem_toArray, List.getElem_cons_succ, List.getElem_cons_zero]
  refine held_take 13 rfl (by kernel_rfl) (by kernel_rfl) (by kernel_rfl) (.agg #[.string p, .slice A 1 c]) (fun _ _ _ h => nomatch h.1) (by kernel_rfl) (fun w' h => exec_load_mid 28 w' _ rfl g 0 (by kernel_rfl) _ _ (range_two (heap_kept hg h)).1 Try.underlying28 rfl (by kernel_rfl)) hS ?_
  simp only [Act.put, List.setIfInBounds_toArray, List.set_cons_zero, List.set_cons_succ, List.getElem_toArray, List.getElem_cons_succ, List.getElem_cons_zero]
  refine held_call 14 rfl (by kernel_rfl) (by kernel_rfl) 41 #[rv, .agg #[.string q, .slice A2 1 c2], .agg #[.string p, .slice A 1 c]] (by kernel_rfl) (R := fun v w' => v = .int .i64 (-1) ∧ Below v0.heap.size v0 w') ((hcon v0 hS).mono fun e w' h => ⟨_, h.1, rfl, h.2⟩) ?_
  rintro _ v1 ⟨rfl, hbn⟩
  have hS1 : Below w.heap.size w v1 := hS.trans (hbn.mono hS.size)
  refine ⟨hS1, ?_⟩
  clear hS hbn
  have hS := hS1
  clear hS1
  simp only [Act.put, List.setIfInBounds_toArray, List.set_cons_zero, List.set_cons_succ, List.getElem_toArray, List.getElem_cons_succ, List.getElem_cons_zero]
  refine held_take 15 rfl (by kernel_rfl) (by kernel_rfl) (by kernel_rfl) (.bool true) (fun _ _ _ h => nomatch h.1) (by kernel_rfl) (fun w' h => by kernel_rfl) hS ?_
  simp only [Act.put, List.setIfInBounds_toArray, List.set_cons_zero, List.set_cons_succ, List.getElem_toArray, List.getElem_cons_succ, List.getElem_cons_zero]
  refine held_take 16 rfl (by kernel_rfl) (by kernel_rfl) (by kernel_rfl) (.bool true) (fun _ _ _ h => nomatch h.1) (by kernel_rfl) (fun w' h => by kernel_rfl) hS ?_
  simp only [Act.put, List.setIfInBounds_toArray, List.set_cons_zero, List.set_cons_succ, List.getElem_toArray, List.getElem_cons_succ, List.getElem_cons_zero]
  refine wpAnyH_done (by kernel_rfl) ?_ _
  refine ⟨rfl, ?_⟩
  rename_i hK
  refine hK _ _ ?_
  clear hK
  have hg1 := heap_kept hg hS
  clear hcon
  have c0 : v1.cell? ⟨g, 0, none⟩ = some (.string p) := by rw [cell_of_row _ _ _ _ _ _ hg1]; rfl
  have c1 : v1.cell? ⟨g, 1, none⟩ = some (.slice A 1 c) := by rw [cell_of_row _ _ _ _ _ _ hg1]; rfl
  have c2' : v1.cell? ⟨g, 2, none⟩ = some (.string q) := by rw [cell_of_row _ _ _ _ _ _ hg1]; rfl
  have c3 : v1.cell? ⟨g, 3, none⟩ = some (.slice A2 1 c2) := by rw [cell_of_row _ _ _ _ _ _ hg1]; rfl
  have f0 : v1.frozen? ⟨g, 0, none⟩ = false := frozen_of_row _ _ _ _ _ hg1
  have f1 : v1.frozen? ⟨g, 1, none⟩ = false := frozen_of_row _ _ _ _ _ hg1
  have f2 : v1.frozen? ⟨g, 2, none⟩ = false := frozen_of_row _ _ _ _ _ hg1
  have f3 : v1.frozen? ⟨g, 3, none⟩ = false := frozen_of_row _ _ _ _ _ hg1
  have hg1H : Hid (v1.heap[g]? = some (.cells #[.string p, .slice A 1 c, .string q, .slice A2 1 c2] 28 (0, 0))) := hg1
  have hSH : Hid (Below w.heap.size w v1) := hS
  clear hg hg1 hS
  have hn : Hid (((((v1.setCell ⟨g, 2, none⟩ (.string p)).setCell ⟨g, 3, none⟩ (.slice A 1 c)).setCell ⟨g, 0, none⟩ (.string q)).setCell ⟨g, 1, none⟩ (.slice A2 1 c2)).drew.heap[g]? = some (.cells #[.string q, .slice A2 1 c2, .string p, .slice A 1 c] 28 (0, 0))) :=
    heap_setCell_same _ _ _ _ _ _ (heap_setCell_same _ _ _ _ _ _ (heap_setCell_same _ _ _ _ _ _ (heap_setCell_same _ _ _ _ _ _ hg1H.out)))
  have hgr : Hid (w.grownBy ((((v1.setCell ⟨g, 2, none⟩ (.string p)).setCell ⟨g, 3, none⟩ (.slice A 1 c)).setCell ⟨g, 0, none⟩ (.string q)).setCell ⟨g, 1, none⟩ (.slice A2 1 c2)).drew (some g)) :=
    grown_drew (grown_set (grown_set (grown_set (grown_set (grown_of_below hSH.out _) _ _) _ _) _ _) _ _)
  go_wp2_with fail
  go_region
  generalize World.drew _ = v2 at hn hgr ⊢
  clear c0 c1 c2' c3 f0 f1 f2 f3 hg1H hSH
  go_wp2_with fail
  rw [rounds_succ]
  go_wp2_with fail
  go_quiet (fail)
  go_wp2_with fail
  rw [rounds_succ]
  go_wp2_with fail
  go_end0
  exact ⟨rfl, hn.out, grown_drewN hgr.out _⟩
set_option maxRecDepth 100000 in
set_option maxHeartbeats 2000000 in
theorem pdq_two (rv : Value) (p : ByteArray) (A : Option Addr) (c : Nat) (a : S25) (q : ByteArray) (A2 : Option Addr) (c2 : Nat) (b : S25) (g cap : Nat) (w : World) (hr : Kd.C k25 w A 1 [a]) (hc : 1 ≤ c) (hr2 : Kd.C k25 w A2 1 [b]) (hc2 : 1 ≤ c2) (h : cmpT1 q b p a = -1)
    (hg : w.heap[g]? = some (.cells #[.string p, .slice A 1 c, .string q, .slice A2 1 c2] 28 (0, 0))) :
    Calls Try.prog 50 #[.slice (some ⟨g, 0, none⟩) 2 cap, .int .i64 0, .int .i64 2, .int .i64 2, .func (.func 41) #[rv] #[]] w fun e w' => e = .returned (.tuple #[]) ∧ w'.heap[g]? = some (.cells #[.string q, .slice A2 1 c2, .string p, .slice A 1 c] 28 (0, 0)) ∧ w.grownBy w' (some g) := by
  have hcon := insertion_two rv p A c a q A2 c2 b g cap w hr hc hr2 hc2 h hg
  clear hr hc hr2 hc2 h hg
  go_enter Try.func50, Try.ntmps50
  go_wp2_with fail
  refine wp_loop_rounds 1 ?_
  rw [rounds_succ]
  go_wp2_with (go_at_call 53; refine hcon.mono ?_; rintro e w5 ⟨rfl, hn, hgr⟩)
  refine bodyPost_ret (results_none rfl _ _ _) rfl ?_
  exact ⟨rfl, hn, hgr⟩
set_option maxRecDepth 100000 in
set_option maxHeartbeats 2000000 in
theorem sortfunc_two (rv : Value) (p : ByteArray) (A : Option Addr) (c : Nat) (a : S25) (q : ByteArray) (A2 : Option Addr) (c2 : Nat) (b : S25) (g cap : Nat) (w : World) (hr : Kd.C k25 w A 1 [a]) (hc : 1 ≤ c) (hr2 : Kd.C k25 w A2 1 [b]) (hc2 : 1 ≤ c2) (h : cmpT1 q b p a = -1)
    (hg : w.heap[g]? = some (.cells #[.string p, .slice A 1 c, .string q, .slice A2 1 c2] 28 (0, 0))) :
    Calls Try.prog 42 #[.slice (some ⟨g, 0, none⟩) 2 cap, .func (.func 41) #[rv] #[]] w fun e w' => e = .returned (.tuple #[]) ∧ w'.heap[g]? = some (.cells #[.string q, .slice A2 1 c2, .string p, .slice A 1 c] 28 (0, 0)) ∧ w.grownBy w' (some g) := by
  have hlen := fun W => bits_Len.calls 1 2 2 W rfl
  have hcon := fun W (hD : Drawn0 w W) => pdq_two rv p A c a q A2 c2 b g cap W (Kd.C_below (xs := [a]) hr hD.below) hc (Kd.C_below (xs := [b]) hr2 hD.below) hc2 h (heap_kept hg hD.below)
  clear hr hc hr2 hc2 h hg
  go_enter Try.func42, Try.ntmps42
  go_wp2_with (first | (go_at_call 51; refine (hlen _).mono ?_; rintro e w5 ⟨rfl, ⟨⟨nq, rfl⟩⟩⟩) | (go_at_call 50; refine (hcon _ ⟨⟨_, rfl⟩⟩).mono ?_; rintro e w6 ⟨rfl, hn, hgr⟩))
  go_end0
  exact ⟨rfl, hn, ⟨hgr.os, hgr.tape, hgr.output, hgr.size, hgr.block⟩⟩
set_option maxRecDepth 100000 in
set_option maxHeartbeats 2000000 in
theorem compact_two (rv : Value) (gf : Nat) (q : ByteArray) (A2 : Option Addr) (c2 : Nat) (b : S25) (p : ByteArray) (A : Option Addr) (c : Nat) (a : S25) (g cap : Nat) (w : World) (hr : Kd.C k25 w A 1 [a]) (hc : 1 ≤ c) (hr2 : Kd.C k25 w A2 1 [b]) (hc2 : 1 ≤ c2) (h : cmpT1 p a q b ≠ 0)
    (hf : w.heap[gf]? = some (.cells #[.func (.func 41) #[rv] #[]] 39 (0, 0)))
    (hg : w.heap[g]? = some (.cells #[.string q, .slice A2 1 c2, .string p, .slice A 1 c] 28 (0, 0))) :
    Calls Try.prog 44 #[.slice (some ⟨g, 0, none⟩) 2 cap, .func (.func 45) #[] #[.pointer (some ⟨gf, 0, none⟩)]] w fun e w' => e = .returned (.slice (some ⟨g, 0, none⟩) 2 cap) ∧ Below w.heap.size w w' := by
  obtain ⟨r, hrr⟩ : ∃ r, r = cmpT1 p a q b := ⟨_, rfl⟩
  have hb0 : (r == 0) = false := by rw [beq_eq_false_iff_ne, hrr]; exact h
  have hcon := fun W (hb : Below w.heap.size w W) => eq_calls rv gf 3 p A c [a] q A2 c2 [b] r W (C_W (l := [a]) hr hb) hc (C_W (l := [b]) hr2 hb) hc2 (by rw [order_one, hrr]) (heap_kept hf hb)
  rw [hb0] at hcon
  clear hr hr2 hc hc2 h hrr hb0 hf
  go_enter Try.func44, Try.ntmps44
  go_wp2_with fail
  refine wp_loop_rounds 2 ?_
  rw [rounds_succ]
  go_wp2_with fail
  refine wp_normal ?_
  refine wp_region_held_drew (S := fun w' => Below w.heap.size w w') (by kernel_rfl) (Below.refl _ _).drew (fun hS => ?_)
  change wpAnyH _ _ _ _ _ 11 (Array.replicate 11 false) _ _
  generalize hx : w.drew = v0 at hS
  clear hx
  refine held_take 0 rfl (by kernel_rfl) (by kernel_rfl) (by kernel_rfl) (.func (.func 45) #[] #[.pointer (some ⟨gf, 0, none⟩)]) (fun _ _ _ h => nomatch h.1) (by kernel_rfl) (fun w' h => by kernel_rfl) hS ?_
  simp only [Act.put, List.setIfInBounds_toArray, List.set_cons_zero, List.set_cons_succ, List.getElem_toArray, List.getElem_cons_succ, List.getElem_cons_zero]
  refine held_take 1 rfl (by kernel_rfl) (by kernel_rfl) (by kernel_rfl) (.slice (some ⟨g, 0, none⟩) 2 cap) (fun _ _ _ h => nomatch h.1) (by kernel_rfl) (fun w' h => by kernel_rfl) hS ?_
  simp only [Act.put, List.setIfInBounds_toArray, List.set_cons_zero, List.set_cons_succ, List.getElem_toArray, List.getElem_cons_succ, List.getElem_cons_zero]
  refine held_take 2 rfl (by kernel_rfl) (by kernel_rfl) (by kernel_rfl) (.int .i64 1) (fun _ _ _ h => nomatch h.1) (by kernel_rfl) (fun w' h => by kernel_rfl) hS ?_
  simp only [Act.put, List.setIfInBounds_toArray, List.set_cons_zero, List.set_cons_succ, List.getElem_toArray, List.getElem_cons_succ, List.getElem_cons_zero]
  refine held_take 3 rfl (by kernel_rfl) (by kernel_rfl) (by kernel_rfl) (.pointer (some ⟨g, 2, none⟩)) (fun _ _ _ h => nomatch h.1) (by kernel_rfl) (fun w' h => by kernel_rfl) hS ?_
  simp only [Act.put, List.setIfInBounds_toArray, List.set_cons_zero, List.set_cons_succ, List.getElem_toArray, List.getElem_cons_succ, List.getElem_cons_zero]
  refine held_take 4 rfl (by kernel_rfl) (by kernel_rfl) (by kernel_rfl) (.agg #[.string p, .slice A 1 c]) (fun _ _ _ h => nomatch h.1) (by kernel_rfl) (fun w' h => exec_load_mid 28 w' _ rfl g 2 (by kernel_rfl) _ _ (range_two (heap_kept hg h)).2 Try.underlying28 rfl (by kernel_rfl)) hS ?_
  simp only [Act.put, List.setIfInBounds_toArray, List.set_cons_zero, List.set_cons_succ, List.getElem_toArray, List.getElem_cons_succ, List.getElem_cons_zero]
  refine held_take 5 rfl (by kernel_rfl) (by kernel_rfl) (by kernel_rfl) (.slice (some ⟨g, 0, none⟩) 2 cap) (fun _ _ _ h => nomatch h.1) (by kernel_rfl) (fun w' h => by kernel_rfl) hS ?_
  simp only [Act.put, List.setIfInBounds_toArray, List.set_cons_zero, List.set_cons_succ, List.getElem_toArray, List.getElem_cons_succ, List.getElem_cons_zero]
  refine held_take 6 rfl (by kernel_rfl) (by kernel_rfl) (by kernel_rfl) (.int .i64 1) (fun _ _ _ h => nomatch h.1) (by kernel_rfl) (fun w' h => by kernel_rfl) hS ?_
  simp only [Act.put, List.setIfInBounds_toArray, List.set_cons_zero, List.set_cons_succ, List.getElem_toArray, List.getElem_cons_succ, List.getElem_cons_zero]
  refine held_take 7 rfl (by kernel_rfl) (by kernel_rfl) (by kernel_rfl) (.int .i64 0) (fun _ _ _ h => nomatch h.1) (by kernel_rfl) (fun w' h => by kernel_rfl) hS ?_
  simp only [Act.put, List.setIfInBounds_toArray, List.set_cons_zero, List.set_cons_succ, List.getElem_toArray, List.getElem_cons_succ, List.getElem_cons_zero]
  refine held_take 8 rfl (by kernel_rfl) (by kernel_rfl) (by kernel_rfl) (.pointer (some ⟨g, 0, none⟩)) (fun _ _ _ h => nomatch h.1) (by kernel_rfl) (fun w' h => by kernel_rfl) hS ?_
  simp only [Act.put, List.setIfInBounds_toArray, List.set_cons_zero, List.set_cons_succ, List.getElem_toArray, List.getElem_cons_succ, List.getElem_cons_zero]
  refine held_take 9 rfl (by kernel_rfl) (by kernel_rfl) (by kernel_rfl) (.agg #[.string q, .slice A2 1 c2]) (fun _ _ _ h => nomatch h.1) (by kernel_rfl) (fun w' h => exec_load_mid 28 w' _ rfl g 0 (by kernel_rfl) _ _ (range_two (heap_kept hg h)).1 Try.underlying28 rfl (by kernel_rfl)) hS ?_
  simp only [Act.put, List.setIfInBounds_toArray, List.set_cons_zero, List.set_cons_succ, List.getElem_toArray, List.getElem_cons_succ, List.getElem_cons_zero]
  refine held_call 10 rfl (by kernel_rfl) (by kernel_rfl) 45 #[.agg #[.string p, .slice A 1 c], .agg #[.string q, .slice A2 1 c2], .pointer (some ⟨gf, 0, none⟩)] (by kernel_rfl) (R := fun v w' => v = .bool false ∧ Below v0.heap.size v0 w') ((hcon v0 hS).mono fun e w' h => ⟨_, h.1, rfl, h.2⟩) ?_
  rintro _ v1 ⟨rfl, hbn⟩
  have hS1 : Below w.heap.size w v1 := hS.trans (hbn.mono hS.size)
  refine ⟨hS1, ?_⟩
  clear hS hbn
  have hS := hS1
  clear hS1
  simp only [Act.put, List.setIfInBounds_toArray, List.set_cons_zero, List.set_cons_succ, List.getElem_toArray, List.getElem_cons_succ, List.getElem_cons_zero]
  refine wpAnyH_done (by kernel_rfl) ?_ _
  refine ⟨rfl, ?_⟩
  rename_i hK
  refine hK _ _ ?_
  clear hK hg hcon
  go_wp2_with fail
  rw [rounds_succ]
  go_wp2_with fail
  go_ret
  exact ⟨rfl, hS⟩
set_option maxRecDepth 100000 in
theorem clip_two (g : Nat) (w : World) : Calls Try.prog 43 #[.slice (some ⟨g, 0, none⟩) 2 2] w fun e w' => e = .returned (.slice (some ⟨g, 0, none⟩) 2 2) ∧ w' = w := by
  go_enter Try.func43, Try.ntmps43
  go_wp2
  go_ret
  exact ⟨rfl, rfl⟩
theorem run_loadVar_two (w : World) (ad : Addr) (u v : Value) (h0 : w.cell? ad = some u) (h1 : w.cell? ⟨ad.block, ad.off + 1, none⟩ = some v) : (loadVar 28 ad).run Try.prog w = .ok (.agg #[u, v]) w := by
  have hl : (loadCells ad 2).run Try.prog w = .ok #[u, v] w := run_loadCells_list (P := Try.prog) w ad [u, v] (fun j x hj => by
    rcases j with _ | _ | j
    · simp at hj; subst hj; simpa [Addr.add] using h0
    · simp at hj; subst hj; simpa [Addr.add] using h1
    · simp at hj)
  have hagg : (isAgg 28).run Try.prog w = .ok true w := by kernel_rfl
  have hsz : (sizeOf 28).run Try.prog w = .ok 2 w := by kernel_rfl
  simp [loadVar, hagg, hsz, hl]
theorem exec_load_two {o : Oper} {a : Act} {w : World} (x : Operand) (ho : o.op = .load 28 x) (ad : Addr) (hx : a.eval x = .pointer (some ad)) (u v : Value) (h0 : w.cell? ad = some u) (h1 : w.cell? ⟨ad.block, ad.off + 1, none⟩ = some v) : (execOp a.eval o).run Try.prog w = .ok (.value (.agg #[u, v])) w := by
  unfold execOp
  simp only [ho, hx, Instr.loadAt, Instr.sureAddr, Sem.run_bind, Sem.run_pure, Result.andThen_ok, run_loadVar_two w ad u v h0 h1]
theorem exec_append_room {o : Oper} {a : Act} {w : World} (s x : Operand) (ty : TypeId) (ho : o.op = .call { callee := .builtin .append, args := #[s, x], argTypes := #[ty, ty] }) (e : TypeId) (ht : Try.prog.underlying ty = some (.slice e)) (i : TypeInfo) (hi : Try.prog.info? e = some i) (hsz : i.size = 2)
    (g sLen sCap : Nat) (hs : a.eval s = .slice (some ⟨g, 0, none⟩) sLen sCap) (cur : List Value) (hg : w.heap[g]? = some (.cells cur.toArray e (0, 0))) (ad : Addr) (c : Nat) (hx : a.eval x = .slice (some ad) 1 c) (u v : Value) (h0 : w.cell? ad = some u) (h1 : w.cell? ⟨ad.block, ad.off + 1, none⟩ = some v)
    (hu : u.oneCell' = true) (hv : v.oneCell' = true) (hroom : sLen + 1 ≤ sCap) (hfit : sLen * 2 + 2 ≤ cur.length) (cur' : List Value) (hc : cur.take (sLen * 2) ++ [u, v] ++ cur.drop (sLen * 2 + 2) = cur') :
    (execOp a.eval o).run Try.prog w = .ok (.value (.slice (some ⟨g, 0, none⟩) (sLen + 1) sCap)) (w.setRow g cur'.toArray) := by
  have hrun := run_append_room (P := Try.prog) (w := w) ty o.type e i ht hi g sLen sCap cur.toArray hg ad 1 c [u, v] (by rw [hsz]; rfl) (fun j x hj => by
    rcases j with _ | _ | j
    · simp at hj; subst hj; simpa [Addr.add] using h0
    · simp at hj; subst hj; simpa [Addr.add] using h1
    · simp at hj) (fun x hx => by rcases List.mem_cons.1 hx with rfl | hx; exact hu; rw [List.mem_singleton.1 hx]; exact hv) hroom (by rw [hsz]; simpa using hfit)
  rw [hsz] at hrun
  simp only [List.length_cons, List.length_nil, Nat.zero_add, Nat.reduceAdd, hc] at hrun
  simp [execOp, ho, resolve, invoke, builtin, hs, hx, hrun, Result.andThen]
def zero39 : Value := .nilFunc
theorem R_reads {w : World} {base : Nat} {ok : Nat → Prop} {A : Option Addr} {c : Nat} {x : S25} (h : Kd.R k25 25 w base ok (.slice A 1 c) [x]) : Kd.C k25 w A 1 [x] := by
  exact Kd.C_foot_own (g := w.heap.size) (Kd.R_bound h) (fun k hk => by have := hk.2.2.1; omega) w ⟨Nat.le_refl _, fun _ _ _ _ => rfl⟩
theorem R_cap {w : World} {base : Nat} {ok : Nat → Prop} {A : Option Addr} {c : Nat} {x : S25} (h : Kd.R k25 25 w base ok (.slice A 1 c) [x]) : 1 ≤ c := by
  obtain ⟨_, _, ⟨_, h2⟩, _⟩ := h
  rcases h2 with ⟨h3, h4⟩ | ⟨g, cap, cur, he, _, _, hle, _⟩
  · cases h4
  · cases he; exact hle
theorem R_two {w : World} {base g : Nat} {q : ByteArray} {v1 : Value} {b : S25} {p : ByteArray} {v0 : Value} {a : S25} (hb : base ≤ g) (hg : w.heap[g]? = some (.cells #[.string q, v1, .string p, v0] 28 (0, 0)))
    (h0 : Kd.R k25 25 w base (fun k => k ≠ g) v0 [a]) (h1 : Kd.R k25 25 w base (fun k => k ≠ g) v1 [b]) : Kd.R k28 28 w base (fun _ => True) (.slice (some ⟨g, 0, none⟩) 2 2) [⟨q, [b]⟩, ⟨p, [a]⟩] := by
  refine ⟨fun _ _ => trivial, [.string q, v1, .string p, v0], ⟨rfl, .inr ⟨g, 2, _, rfl, hb, hg, Nat.le_refl _, by decide, rfl, rfl⟩⟩, rfl, fun j x hx => ?_⟩
  have hok : ∀ k, k ≠ g → True ∧ some k ≠ (Value.slice (some ⟨g, 0, none⟩) 2 2).ownBlock := fun k hk => ⟨trivial, fun e => hk (by simpa [Value.ownBlock] using e)⟩
  rcases j with _ | _ | j
  · simp at hx; subst hx
    exact k28_mkM w base _ ⟨q, [b]⟩ (Kd.R_mono h1 hok)
  · simp at hx; subst hx
    exact k28_mkM w base _ ⟨p, [a]⟩ (Kd.R_mono h0 hok)
  · simp at hx
theorem sz28 : ∃ i, Try.prog.info? 28 = some i ∧ i.size = 2 := ⟨_, rfl, by kernel_rfl⟩
set_option maxRecDepth 100000 in
set_option maxHeartbeats 4000000 in
theorem sort_two (c0 : Nat) (ad : Addr) (p : ByteArray) (A : Option Addr) (c : Nat) (a : S25) (q : ByteArray) (A2 : Option Addr) (c2 : Nat) (b : S25) (w : World) (x0 : w.cell? ad = some (.string p)) (x1 : w.cell? ⟨ad.block, ad.off + 1, none⟩ = some (.slice A 1 c)) (x2 : w.cell? (ad.add 2) = some (.string q)) (x3 : w.cell? ⟨(ad.add 2).block, (ad.add 2).off + 1, none⟩ = some (.slice A2 1 c2))
    (hr : Kd.C k25 w A 1 [a]) (hr2 : Kd.C k25 w A2 1 [b]) (h : cmpT1 q b p a = -1) (h2 : cmpT1 p a q b ≠ 0) :
    Calls Try.prog 28 #[.slice (some ad) 2 c0] w fun e w' => ∃ v0_ : Value, e = .returned (v0_) ∧ Kd.R k28 28 w' w.heap.size (fun _ => True) v0_ [⟨q, [b]⟩, ⟨p, [a]⟩] ∧ Below w.heap.size w w' := by
  have hB0 : Hid (Below w.heap.size w w) := Below.refl _ _
  have hrH : Hid (Kd.C k25 w A 1 [a]) := hr
  have hr2H : Hid (Kd.C k25 w A2 1 [b]) := hr2
  clear hr hr2
  obtain ⟨i28, hi28, hs28⟩ := sz28
  go_enter Try.func28, Try.ntmps28
  go_upto_region 1 with fail
  refine wp_region_lit ?_
  refine sl_run rfl (.slice (some ad) 2 c0) w (by kernel_rfl) ?_
  simp only [Act.put, List.setIfInBounds_toArray, List.set_cons_zero, List.set_cons_succ]
  refine sl_run rfl (.int .i64 2) w (by kernel_rfl) ?_
  simp only [Act.put, List.setIfInBounds_toArray, List.set_cons_zero, List.set_cons_succ]
  refine sl_run rfl (.slice (some ⟨w.heap.size, 0, none⟩) 0 2) (w.alloc (.cells #[.string ⟨#[]⟩, .slice none 0 0, .string ⟨#[]⟩, .slice none 0 0] 28)) (by kernel_rfl) ?_
  simp only [Act.put, List.setIfInBounds_toArray, List.set_cons_zero, List.set_cons_succ]
  refine sl_run rfl (.slice (some ⟨w.heap.size, 0, none⟩) 0 2) (w.alloc (.cells #[.string ⟨#[]⟩, .slice none 0 0, .string ⟨#[]⟩, .slice none 0 0] 28)) (by kernel_rfl) ?_
  simp only [Act.put, List.setIfInBounds_toArray, List.set_cons_zero, List.set_cons_succ]
  refine wpList_nil ?_
  have hg0 : (w.alloc (.cells #[.string ⟨#[]⟩, .slice none 0 0, .string ⟨#[]⟩, .slice none 0 0] 28)).heap[w.heap.size]? = some (.cells #[.string ⟨#[]⟩, .slice none 0 0, .string ⟨#[]⟩, .slice none 0 0] 28 (0, 0)) := heap_alloc_new _ _
  have hb1 : Below w.heap.size w (w.alloc (.cells #[.string ⟨#[]⟩, .slice none 0 0, .string ⟨#[]⟩, .slice none 0 0] 28)) := (Below.refl _ _).alloc (Nat.le_refl _) _
  obtain ⟨g, hgd⟩ : ∃ g, g = w.heap.size := ⟨_, rfl⟩
  have hgH : Hid (g = w.heap.size) := hgd
  rw [← hgd] at hg0 ⊢
  clear hgd
  generalize World.alloc _ _ = W1 at hg0 hb1 ⊢
  have hgW1 : Hid (W1.heap[g]? = some (.cells #[.string ⟨#[]⟩, .slice none 0 0, .string ⟨#[]⟩, .slice none 0 0] 28 (0, 0))) := hg0
  have hBW1 : Hid (Below w.heap.size w W1) := hb1
  clear hg0 hb1 hB0
  go_wp2_with fail
  refine wp_loop_rounds 3 ?_
  rw [rounds_succ]
  go_upto_region 4 with fail
  refine wp_region_lit ?_
  refine sl_run rfl (.pointer (some ad)) W1 (by kernel_rfl) ?_
  simp only [Act.put, List.setIfInBounds_toArray, List.set_cons_zero, List.set_cons_succ]
  refine sl_run rfl (.agg #[.string p, .slice A 1 c]) W1 (exec_load_two _ rfl ad (by kernel_rfl) _ _ ((hBW1.out.cell (World.block_lt_of_cell? w _ x0)).trans x0) ((hBW1.out.cell (World.block_lt_of_cell? w _ x1)).trans x1)) ?_
  simp only [Act.put, List.setIfInBounds_toArray, List.set_cons_zero, List.set_cons_succ]
  refine sl_run rfl (.pointer (some ⟨W1.heap.size, 0, none⟩)) (W1.alloc (.cells #[.string ⟨#[]⟩, .slice none 0 0] 28)) (by kernel_rfl) ?_
  simp only [Act.put, List.setIfInBounds_toArray, List.set_cons_zero, List.set_cons_succ]
  refine wpList_store_row rfl 28 _ _ rfl W1.heap.size #[.string p, .slice A 1 c] (by kernel_rfl) (by kernel_rfl) 28 _ (heap_alloc_new _ _) (by kernel_rfl) (by kernel_rfl) (by kernel_rfl) ?_
  simp only [Act.put, List.setIfInBounds_toArray, List.set_cons_zero, List.set_cons_succ]
  refine wpList_nil ?_
  have hx0 := setRow_heap (W1.alloc (.cells #[.string ⟨#[]⟩, .slice none 0 0] 28)) W1.heap.size _ #[.string p, .slice A 1 c] _ _ (heap_alloc_new _ _)
  have hb0 : Below W1.heap.size W1 ((W1.alloc (.cells #[.string ⟨#[]⟩, .slice none 0 0] 28)).setRow W1.heap.size #[.string p, .slice A 1 c]) := below_setRow ((Below.refl _ _).alloc (Nat.le_refl _) _) (Nat.le_refl _) _
  obtain ⟨bx0, hbx0⟩ : ∃ b, b = W1.heap.size := ⟨_, rfl⟩
  rw [← hbx0] at hx0 ⊢
  rw [← hbx0] at hb0
  generalize World.setRow _ _ _ = W1b at hx0 hb0 ⊢
  rw [hbx0] at hb0
  have hx0H : Hid (W1b.heap[bx0]? = some (.cells #[.string p, .slice A 1 c] 28 (0, 0))) := hx0
  have hgW1b : Hid (W1b.heap[g]? = some (.cells #[.string ⟨#[]⟩, .slice none 0 0, .string ⟨#[]⟩, .slice none 0 0] 28 (0, 0))) := heap_kept hgW1.out hb0
  have hBW1b : Hid (Below w.heap.size w W1b) := hBW1.out.trans (hb0.mono hBW1.out.size)
  skip
  clear hx0 hb0 hbx0 hgW1 hBW1
  go_upto_region 5 with fail
  refine wp_region_lit ?_
  refine sl_run rfl (.slice (some ⟨g, 0, none⟩) 0 2) W1b (by kernel_rfl) ?_
  simp only [Act.put, List.setIfInBounds_toArray, List.set_cons_zero, List.set_cons_succ]
  refine sl_run rfl (.agg #[.string p, .slice A 1 c]) W1b (exec_load_row 28 W1b _ rfl bx0 (by kernel_rfl) 28 _ (0, 0) _ hx0H.out Try.underlying28 rfl (by kernel_rfl)) ?_
  simp only [Act.put, List.setIfInBounds_toArray, List.set_cons_zero, List.set_cons_succ]
  refine sl_call rfl 40 #[.agg #[.string p, .slice A 1 c]] (by kernel_rfl) (R := fun v w' => ∃ v1, v = .agg #[.string p, v1] ∧ Kd.R k25 25 w' W1b.heap.size (fun _ => True) v1 [a] ∧ Below W1b.heap.size W1b w') ((copied_calls p A c [a] W1b (Kd.C_below (xs := [a]) hrH.out hBW1b.out) (by simp)).mono fun e w' h => by
    obtain ⟨v1, h1, h2, h3⟩ := h
    exact ⟨_, h1, v1, rfl, h2, h3⟩) ?_
  rintro _ W1c ⟨v1, rfl, hv, hb⟩
  obtain ⟨An0, cn0, rfl⟩ := R_form hv
  have hlt0 : g < W1b.heap.size := (Array.getElem?_eq_some_iff.1 hgW1b.out).1
  have hv1 : Kd.R k25 25 W1c w.heap.size (fun k => k ≠ g) (.slice An0 1 cn0) [a] := Kd.R_lower (Kd.R_mono (Kd.R_bound hv) (fun k hk => by have := hk.2.1; omega)) hBW1b.out.size
  have hgW1c : W1c.heap[g]? = some (.cells #[.string ⟨#[]⟩, .slice none 0 0, .string ⟨#[]⟩, .slice none 0 0] 28 (0, 0)) := heap_kept hgW1b.out hb
  have hBW1c : Below w.heap.size w W1c := hBW1b.out.trans (hb.mono hBW1b.out.size)
  skip
  simp only [List.length_cons, List.length_nil, Nat.zero_add]
  simp only [Act.put, List.setIfInBounds_toArray, List.set_cons_zero, List.set_cons_succ]
  refine sl_run rfl (.slice (some ⟨W1c.heap.size, 0, none⟩) 1 1) (W1c.alloc (.cells #[.string p, .slice An0 1 cn0] 28)) (by kernel_rfl) ?_
  simp only [Act.put, List.setIfInBounds_toArray, List.set_cons_zero, List.set_cons_succ]
  have hnb := heap_alloc_new W1c (.cells #[.string p, .slice An0 1 cn0] 28)
  have hb4 : Below W1c.heap.size W1c (W1c.alloc (.cells #[.string p, .slice An0 1 cn0] 28)) := (Below.refl _ _).alloc (Nat.le_refl _) _
  obtain ⟨nb, hnbd⟩ : ∃ b, b = W1c.heap.size := ⟨_, rfl⟩
  rw [← hnbd] at hnb ⊢
  generalize World.alloc _ _ = W1d at hnb hb4 ⊢
  have hgW1d := heap_kept hgW1c hb4
  have hv2 := Kd.R_below hv1 hb4
  have hBW1d : Below w.heap.size w W1d := hBW1c.trans (hb4.mono hBW1c.size)
  skip
  refine sl_run rfl (.slice (some ⟨g, 0, none⟩) 1 2) (W1d.setRow g #[.string p, .slice An0 1 cn0, .string ⟨#[]⟩, .slice none 0 0]) (exec_append_room _ _ 56 rfl 28 Try.underlying56 i28 hi28 hs28 g 0 2 (by kernel_rfl) [.string ⟨#[]⟩, .slice none 0 0, .string ⟨#[]⟩, .slice none 0 0] hgW1d ⟨nb, 0, none⟩ 1 (by kernel_rfl) (.string p) (.slice An0 1 cn0) (by rw [cell_of_row _ _ _ _ _ _ hnb]; rfl) (by rw [cell_of_row _ _ _ _ _ _ hnb]; rfl) rfl rfl (by decide) (by simp) [.string p, .slice An0 1 cn0, .string ⟨#[]⟩, .slice none 0 0] rfl) ?_
  simp only [Act.put, List.setIfInBounds_toArray, List.set_cons_zero, List.set_cons_succ]
  have hgn := setRow_heap W1d g _ #[.string p, .slice An0 1 cn0, .string ⟨#[]⟩, .slice none 0 0] _ _ hgW1d
  have hvn : Hid (Kd.R k25 25 (W1d.setRow g #[.string p, .slice An0 1 cn0, .string ⟨#[]⟩, .slice none 0 0]) w.heap.size (fun k => k ≠ g) (.slice An0 1 cn0) [a]) := Kd.R_move hv2 (fun k hk => setRow_other _ _ _ _ hk)
  have hBn : Below w.heap.size w (W1d.setRow g #[.string p, .slice An0 1 cn0, .string ⟨#[]⟩, .slice none 0 0]) := below_setRow hBW1d (by have := hgH.out; omega) _
  skip
  generalize World.setRow _ _ _ = W2 at hgn hvn hBn ⊢
  refine sl_run rfl (.slice (some ⟨g, 0, none⟩) 1 2) W2 (by kernel_rfl) ?_
  simp only [Act.put, List.setIfInBounds_toArray, List.set_cons_zero, List.set_cons_succ]
  refine wpList_nil ?_
  have hgW2 : Hid (W2.heap[g]? = some (.cells #[.string p, .slice An0 1 cn0, .string ⟨#[]⟩, .slice none 0 0] 28 (0, 0))) := hgn
  have hBW2 : Hid (Below w.heap.size w W2) := hBn
  have hv0W2 : Hid (Kd.R k25 25 W2 w.heap.size (fun k => k ≠ g) (.slice An0 1 cn0) [a]) := hvn
  skip
  clear hx0H hgW1b hBW1b hv hb hlt0 hv1 hgW1c hBW1c hnb hb4 hnbd hgW1d hv2 hBW1d hgn hvn hBn
  go_wp2_with fail
  rw [rounds_succ]
  go_upto_region 4 with fail
  refine wp_region_lit ?_
  refine sl_run rfl (.pointer (some (ad.add 2))) W2 (by kernel_rfl) ?_
  simp only [Act.put, List.setIfInBounds_toArray, List.set_cons_zero, List.set_cons_succ]
  refine sl_run rfl (.agg #[.string q, .slice A2 1 c2]) W2 (exec_load_two _ rfl (ad.add 2) (by kernel_rfl) _ _ ((hBW2.out.cell (World.block_lt_of_cell? w _ x2)).trans x2) ((hBW2.out.cell (World.block_lt_of_cell? w _ x3)).trans x3)) ?_
  simp only [Act.put, List.setIfInBounds_toArray, List.set_cons_zero, List.set_cons_succ]
  refine sl_run rfl (.pointer (some ⟨W2.heap.size, 0, none⟩)) (W2.alloc (.cells #[.string ⟨#[]⟩, .slice none 0 0] 28)) (by kernel_rfl) ?_
  simp only [Act.put, List.setIfInBounds_toArray, List.set_cons_zero, List.set_cons_succ]
  refine wpList_store_row rfl 28 _ _ rfl W2.heap.size #[.string q, .slice A2 1 c2] (by kernel_rfl) (by kernel_rfl) 28 _ (heap_alloc_new _ _) (by kernel_rfl) (by kernel_rfl) (by kernel_rfl) ?_
  simp only [Act.put, List.setIfInBounds_toArray, List.set_cons_zero, List.set_cons_succ]
  refine wpList_nil ?_
  have hx1 := setRow_heap (W2.alloc (.cells #[.string ⟨#[]⟩, .slice none 0 0] 28)) W2.heap.size _ #[.string q, .slice A2 1 c2] _ _ (heap_alloc_new _ _)
  have hb1 : Below W2.heap.size W2 ((W2.alloc (.cells #[.string ⟨#[]⟩, .slice none 0 0] 28)).setRow W2.heap.size #[.string q, .slice A2 1 c2]) := below_setRow ((Below.refl _ _).alloc (Nat.le_refl _) _) (Nat.le_refl _) _
  obtain ⟨bx1, hbx1⟩ : ∃ b, b = W2.heap.size := ⟨_, rfl⟩
  rw [← hbx1] at hx1 ⊢
  rw [← hbx1] at hb1
  generalize World.setRow _ _ _ = W2b at hx1 hb1 ⊢
  rw [hbx1] at hb1
  have hx1H : Hid (W2b.heap[bx1]? = some (.cells #[.string q, .slice A2 1 c2] 28 (0, 0))) := hx1
  have hgW2b : Hid (W2b.heap[g]? = some (.cells #[.string p, .slice An0 1 cn0, .string ⟨#[]⟩, .slice none 0 0] 28 (0, 0))) := heap_kept hgW2.out hb1
  have hBW2b : Hid (Below w.heap.size w W2b) := hBW2.out.trans (hb1.mono hBW2.out.size)
  have ho2 : Hid (Kd.R k25 25 W2b w.heap.size (fun k => k ≠ g) (.slice An0 1 cn0) [a]) := Kd.R_below hv0W2.out hb1
  clear hx1 hb1 hbx1 hgW2 hBW2
  go_upto_region 5 with fail
  refine wp_region_lit ?_
  refine sl_run rfl (.slice (some ⟨g, 0, none⟩) 1 2) W2b (by kernel_rfl) ?_
  simp only [Act.put, List.setIfInBounds_toArray, List.set_cons_zero, List.set_cons_succ]
  refine sl_run rfl (.agg #[.string q, .slice A2 1 c2]) W2b (exec_load_row 28 W2b _ rfl bx1 (by kernel_rfl) 28 _ (0, 0) _ hx1H.out Try.underlying28 rfl (by kernel_rfl)) ?_
  simp only [Act.put, List.setIfInBounds_toArray, List.set_cons_zero, List.set_cons_succ]
  refine sl_call rfl 40 #[.agg #[.string q, .slice A2 1 c2]] (by kernel_rfl) (R := fun v w' => ∃ v1, v = .agg #[.string q, v1] ∧ Kd.R k25 25 w' W2b.heap.size (fun _ => True) v1 [b] ∧ Below W2b.heap.size W2b w') ((copied_calls q A2 c2 [b] W2b (Kd.C_below (xs := [b]) hr2H.out hBW2b.out) (by simp)).mono fun e w' h => by
    obtain ⟨v1, h1, h2, h3⟩ := h
    exact ⟨_, h1, v1, rfl, h2, h3⟩) ?_
  rintro _ W2c ⟨v1, rfl, hv, hb⟩
  obtain ⟨An1, cn1, rfl⟩ := R_form hv
  have hlt1 : g < W2b.heap.size := (Array.getElem?_eq_some_iff.1 hgW2b.out).1
  have hv1 : Kd.R k25 25 W2c w.heap.size (fun k => k ≠ g) (.slice An1 1 cn1) [b] := Kd.R_lower (Kd.R_mono (Kd.R_bound hv) (fun k hk => by have := hk.2.1; omega)) hBW2b.out.size
  have hgW2c : W2c.heap[g]? = some (.cells #[.string p, .slice An0 1 cn0, .string ⟨#[]⟩, .slice none 0 0] 28 (0, 0)) := heap_kept hgW2b.out hb
  have hBW2c : Below w.heap.size w W2c := hBW2b.out.trans (hb.mono hBW2b.out.size)
  have ho3 : Kd.R k25 25 W2c w.heap.size (fun k => k ≠ g) (.slice An0 1 cn0) [a] := Kd.R_below ho2.out hb
  simp only [List.length_cons, List.length_nil, Nat.zero_add]
  simp only [Act.put, List.setIfInBounds_toArray, List.set_cons_zero, List.set_cons_succ]
  refine sl_run rfl (.slice (some ⟨W2c.heap.size, 0, none⟩) 1 1) (W2c.alloc (.cells #[.string q, .slice An1 1 cn1] 28)) (by kernel_rfl) ?_
  simp only [Act.put, List.setIfInBounds_toArray, List.set_cons_zero, List.set_cons_succ]
  have hnb := heap_alloc_new W2c (.cells #[.string q, .slice An1 1 cn1] 28)
  have hb4 : Below W2c.heap.size W2c (W2c.alloc (.cells #[.string q, .slice An1 1 cn1] 28)) := (Below.refl _ _).alloc (Nat.le_refl _) _
  obtain ⟨nb, hnbd⟩ : ∃ b, b = W2c.heap.size := ⟨_, rfl⟩
  rw [← hnbd] at hnb ⊢
  generalize World.alloc _ _ = W2d at hnb hb4 ⊢
  have hgW2d := heap_kept hgW2c hb4
  have hv2 := Kd.R_below hv1 hb4
  have hBW2d : Below w.heap.size w W2d := hBW2c.trans (hb4.mono hBW2c.size)
  have ho4 : Kd.R k25 25 W2d w.heap.size (fun k => k ≠ g) (.slice An0 1 cn0) [a] := Kd.R_below ho3 hb4
  refine sl_run rfl (.slice (some ⟨g, 0, none⟩) 2 2) (W2d.setRow g #[.string p, .slice An0 1 cn0, .string q, .slice An1 1 cn1]) (exec_append_room _ _ 56 rfl 28 Try.underlying56 i28 hi28 hs28 g 1 2 (by kernel_rfl) [.string p, .slice An0 1 cn0, .string ⟨#[]⟩, .slice none 0 0] hgW2d ⟨nb, 0, none⟩ 1 (by kernel_rfl) (.string q) (.slice An1 1 cn1) (by rw [cell_of_row _ _ _ _ _ _ hnb]; rfl) (by rw [cell_of_row _ _ _ _ _ _ hnb]; rfl) rfl rfl (by decide) (by simp) [.string p, .slice An0 1 cn0, .string q, .slice An1 1 cn1] rfl) ?_
  simp only [Act.put, List.setIfInBounds_toArray, List.set_cons_zero, List.set_cons_succ]
  have hgn := setRow_heap W2d g _ #[.string p, .slice An0 1 cn0, .string q, .slice An1 1 cn1] _ _ hgW2d
  have hvn : Hid (Kd.R k25 25 (W2d.setRow g #[.string p, .slice An0 1 cn0, .string q, .slice An1 1 cn1]) w.heap.size (fun k => k ≠ g) (.slice An1 1 cn1) [b]) := Kd.R_move hv2 (fun k hk => setRow_other _ _ _ _ hk)
  have hBn : Below w.heap.size w (W2d.setRow g #[.string p, .slice An0 1 cn0, .string q, .slice An1 1 cn1]) := below_setRow hBW2d (by have := hgH.out; omega) _
  have hoE : Kd.R k25 25 (W2d.setRow g #[.string p, .slice An0 1 cn0, .string q, .slice An1 1 cn1]) w.heap.size (fun k => k ≠ g) (.slice An0 1 cn0) [a] := Kd.R_move ho4 (fun k hk => setRow_other _ _ _ _ hk)
  generalize World.setRow _ _ _ = W3 at hgn hvn hBn hoE ⊢
  refine sl_run rfl (.slice (some ⟨g, 0, none⟩) 2 2) W3 (by kernel_rfl) ?_
  simp only [Act.put, List.setIfInBounds_toArray, List.set_cons_zero, List.set_cons_succ]
  refine wpList_nil ?_
  have hgW3 : Hid (W3.heap[g]? = some (.cells #[.string p, .slice An0 1 cn0, .string q, .slice An1 1 cn1] 28 (0, 0))) := hgn
  have hBW3 : Hid (Below w.heap.size w W3) := hBn
  have hv1W3 : Hid (Kd.R k25 25 W3 w.heap.size (fun k => k ≠ g) (.slice An1 1 cn1) [b]) := hvn
  have hv0W3 : Hid (Kd.R k25 25 W3 w.heap.size (fun k => k ≠ g) (.slice An0 1 cn0) [a]) := hoE
  clear hx1H hgW2b hBW2b hv hb hlt1 hv1 hgW2c hBW2c hnb hb4 hnbd hgW2d hv2 hBW2d hgn hvn hBn ho2 ho3 ho4 hoE hv0W2
  go_wp2_with fail
  rw [rounds_succ]
  go_upto_region 7 with fail
  refine wp_region_lit ?_
  refine sl_run rfl (.slice (some ⟨g, 0, none⟩) 2 2) W3 (by kernel_rfl) ?_
  simp only [Act.put, List.setIfInBounds_toArray, List.set_cons_zero, List.set_cons_succ]
  refine sl_run rfl (.func (.func 41) #[.slice (some ⟨g, 0, none⟩) 2 2] #[]) W3 (by kernel_rfl) ?_
  simp only [Act.put, List.setIfInBounds_toArray, List.set_cons_zero, List.set_cons_succ]
  refine sl_run rfl (.pointer (some ⟨W3.heap.size, 0, none⟩)) (W3.alloc (.cells #[zero39] 39)) (by kernel_rfl) ?_
  simp only [Act.put, List.setIfInBounds_toArray, List.set_cons_zero, List.set_cons_succ]
  have hz0 : (W3.alloc (.cells #[zero39] 39)).heap[W3.heap.size]? = some (.cells #[zero39] 39 (0, 0)) := heap_alloc_new _ _
  refine wpList_store_cell rfl 39 _ _ rfl W3.heap.size 0 (by kernel_rfl) (.func (.func 41) #[.slice (some ⟨g, 0, none⟩) 2 2] #[]) (by kernel_rfl) zero39 (by rw [cell_of_row _ _ _ _ _ _ hz0]; rfl) (frozen_of_row _ _ _ _ _ hz0) (fun _ => by kernel_rfl) rfl rfl ?_
  refine wpList_nil ?_
  simp only [Act.put, List.setIfInBounds_toArray, List.set_cons_zero, List.set_cons_succ]
  have hf1 := heap_setCell_same _ _ 0 _ _ (.func (.func 41) #[.slice (some ⟨g, 0, none⟩) 2 2] #[]) hz0
  have hb5 : Below W3.heap.size W3 ((W3.alloc (.cells #[zero39] 39)).setCell ⟨W3.heap.size, 0, none⟩ (.func (.func 41) #[.slice (some ⟨g, 0, none⟩) 2 2] #[])) := ((Below.refl _ _).alloc (Nat.le_refl _) _).setCell (Nat.le_refl _) _
  obtain ⟨gf, hgf⟩ : ∃ b, b = W3.heap.size := ⟨_, rfl⟩
  rw [← hgf] at hf1 ⊢
  rw [← hgf] at hb5
  generalize World.setCell _ _ _ = W4 at hf1 hb5 ⊢
  rw [hgf] at hb5
  have hf4 : Hid (W4.heap[gf]? = some (.cells #[.func (.func 41) #[.slice (some ⟨g, 0, none⟩) 2 2] #[]] 39 (0, 0))) := hf1
  have hg4 : Hid (W4.heap[g]? = some (.cells #[.string p, .slice An0 1 cn0, .string q, .slice An1 1 cn1] 28 (0, 0))) := heap_kept hgW3.out hb5
  have hB4 : Hid (Below w.heap.size w W4) := hBW3.out.trans (hb5.mono hBW3.out.size)
  have ha4 : Hid (Kd.R k25 25 W4 w.heap.size (fun k => k ≠ g) (.slice An0 1 cn0) [a]) := Kd.R_below hv0W3.out hb5
  have hc4 : Hid (Kd.R k25 25 W4 w.heap.size (fun k => k ≠ g) (.slice An1 1 cn1) [b]) := Kd.R_below hv1W3.out hb5
  have hgl : Hid (g ≠ gf) := fun e => by have := hg4.out; rw [e, hf4.out] at this; cases this
  clear hz0 hf1 hb5 hgW3 hBW3 hv0W3 hv1W3 hgf
  go_upto_region 8 with fail
  refine wp_region_lit ?_
  refine sl_run rfl (.slice (some ⟨g, 0, none⟩) 2 2) W4 (by kernel_rfl) ?_
  simp only [Act.put, List.setIfInBounds_toArray, List.set_cons_zero, List.set_cons_succ]
  refine sl_run rfl (.func (.func 41) #[.slice (some ⟨g, 0, none⟩) 2 2] #[]) W4 (exec_load_cell 39 W4 _ rfl ⟨gf, 0, none⟩ (by kernel_rfl) _ (by rw [cell_of_row _ _ _ _ _ _ hf4.out]; rfl) (fun _ => by kernel_rfl)) ?_
  simp only [Act.put, List.setIfInBounds_toArray, List.set_cons_zero, List.set_cons_succ]
  refine sl_call rfl 42 #[.slice (some ⟨g, 0, none⟩) 2 2, .func (.func 41) #[.slice (some ⟨g, 0, none⟩) 2 2] #[]] (by kernel_rfl) (R := fun v w' => v = .tuple #[] ∧ w'.heap[g]? = some (.cells #[.string q, .slice An1 1 cn1, .string p, .slice An0 1 cn0] 28 (0, 0)) ∧ W4.grownBy w' (some g)) ((sortfunc_two _ p An0 cn0 a q An1 cn1 b g 2 W4 (R_reads ha4.out) (R_cap ha4.out) (R_reads hc4.out) (R_cap hc4.out) h hg4.out).mono fun e w' h => ⟨_, h.1, rfl, h.2⟩) ?_
  rintro _ W5 ⟨rfl, hg5, hgr⟩
  simp only [Act.put, List.setIfInBounds_toArray, List.set_cons_zero, List.set_cons_succ]
  refine wpList_nil ?_
  have hg5H : Hid (W5.heap[g]? = some (.cells #[.string q, .slice An1 1 cn1, .string p, .slice An0 1 cn0] 28 (0, 0))) := hg5
  have hf5 : Hid (W5.heap[gf]? = some (.cells #[.func (.func 41) #[.slice (some ⟨g, 0, none⟩) 2 2] #[]] 39 (0, 0))) := (hgr.block gf (Array.getElem?_eq_some_iff.1 hf4.out).1 (fun e => hgl.out (Option.some.inj e).symm)).trans hf4.out
  have ha5 : Hid (Kd.R k25 25 W5 w.heap.size (fun k => k ≠ g) (.slice An0 1 cn0) [a]) := Kd.R_grown ha4.out hgr (fun k hk e => hk (Option.some.inj e))
  have hc5 : Hid (Kd.R k25 25 W5 w.heap.size (fun k => k ≠ g) (.slice An1 1 cn1) [b]) := Kd.R_grown hc4.out hgr (fun k hk e => hk (Option.some.inj e))
  have hB5 : Hid (Below w.heap.size w W5) := hB4.out.grown hgr hB4.out.size (fun k e => by have := hgH.out; have := Option.some.inj e; omega)
  clear hg5 hgr hf4 hg4 hB4 ha4 hc4
  go_upto_region 9 with fail
  refine wp_region_lit ?_
  refine sl_run rfl (.slice (some ⟨g, 0, none⟩) 2 2) W5 (by kernel_rfl) ?_
  simp only [Act.put, List.setIfInBounds_toArray, List.set_cons_zero, List.set_cons_succ]
  refine sl_run rfl (.func (.func 45) #[] #[.pointer (some ⟨gf, 0, none⟩)]) W5 (by kernel_rfl) ?_
  simp only [Act.put, List.setIfInBounds_toArray, List.set_cons_zero, List.set_cons_succ]
  refine sl_call rfl 44 #[.slice (some ⟨g, 0, none⟩) 2 2, .func (.func 45) #[] #[.pointer (some ⟨gf, 0, none⟩)]] (by kernel_rfl) (R := fun v w' => v = .slice (some ⟨g, 0, none⟩) 2 2 ∧ Below W5.heap.size W5 w') ((compact_two _ gf q An1 cn1 b p An0 cn0 a g 2 W5 (R_reads ha5.out) (R_cap ha5.out) (R_reads hc5.out) (R_cap hc5.out) h2 hf5.out hg5H.out).mono fun e w' h => ⟨_, h.1, rfl, h.2⟩) ?_
  rintro _ W6 ⟨rfl, hb6⟩
  simp only [Act.put, List.setIfInBounds_toArray, List.set_cons_zero, List.set_cons_succ]
  refine sl_call rfl 43 #[.slice (some ⟨g, 0, none⟩) 2 2] (by kernel_rfl) (R := fun v w' => v = .slice (some ⟨g, 0, none⟩) 2 2 ∧ W6 = w') ((clip_two g W6).mono fun e w' h => ⟨_, h.1, rfl, h.2.symm⟩) ?_
  rintro _ _ ⟨rfl, rfl⟩
  simp only [Act.put, List.setIfInBounds_toArray, List.set_cons_zero, List.set_cons_succ]
  refine sl_run rfl (.slice (some ⟨g, 0, none⟩) 2 2) W6 (by kernel_rfl) ?_
  simp only [Act.put, List.setIfInBounds_toArray, List.set_cons_zero, List.set_cons_succ]
  refine wpList_nil ?_
  have hg6 : Hid (W6.heap[g]? = some (.cells #[.string q, .slice An1 1 cn1, .string p, .slice An0 1 cn0] 28 (0, 0))) := heap_kept hg5H.out hb6
  have ha6 : Hid (Kd.R k25 25 W6 w.heap.size (fun k => k ≠ g) (.slice An0 1 cn0) [a]) := Kd.R_below ha5.out hb6
  have hc6 : Hid (Kd.R k25 25 W6 w.heap.size (fun k => k ≠ g) (.slice An1 1 cn1) [b]) := Kd.R_below hc5.out hb6
  have hB6 : Hid (Below w.heap.size w W6) := hB5.out.trans (hb6.mono hB5.out.size)
  clear hb6 hg5H hf5 ha5 hc5 hB5
  go_wp2_with fail
  go_ret
  exact ⟨_, rfl, R_two (by have := hgH.out; omega) hg6.out ha6.out hc6.out, hB6.out⟩
set_option maxRecDepth 100000 in
theorem value_Sort.calls (k : Nat) (A0 : Option Addr) (c0 : Nat) (l0 : List (S28)) (r : List (S28)) (w : World) (hr0 : Kd.C k28 w A0 l0.length l0) (hc0 : l0.length ≤ c0) (h : value_Sort.f k l0 = some r) :
    Calls Try.prog 28 #[.slice A0 l0.length c0] w fun e w' => ∃ v0_ : Value, e = .returned (v0_) ∧ Kd.R k28 28 w' w.heap.size (fun _ => True) v0_ r ∧ Below w.heap.size w w' := by
  unfold value_Sort.f at h
  split at h
  · rename_i p a q b
    split at h
    · rename_i hh
      obtain rfl := Option.some.inj h
      obtain ⟨ad, A, c, rfl, x0, x1, lc, hC⟩ := at_T28 hr0 0 (by decide) (by simp)
      obtain ⟨ad', A2, c2, e2, x2, x3, lc2, hC2⟩ := at_T28 hr0 1 (by decide) (by simp)
      obtain rfl := Option.some.inj e2
      exact sort_two c0 ad p A c a q A2 c2 b w x0 x1 x2 x3 hC hC2 hh.1 hh.2
    · cases h
  · cases h

end Go.Proofs.Ytmgocpggoajfeaa.PA
