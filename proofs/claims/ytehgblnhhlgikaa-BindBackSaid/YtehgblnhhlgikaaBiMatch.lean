/-
  Bindings: the program's Match.
-/
import Derived.Test.YtehgblnhhlgikaaBiSmall
namespace Go.Proofs.Ytehgblnhhlgikaa.Bi
open Go.RowKit
set_option linter.unusedVariables false
set_option linter.unusedSimpArgs false
set_option pp.maxSteps 50000
/-- Are two values alike? -/
def eqV (u v : V2) : Bool := (u.s.toList == v.s.toList) && (u.n == v.n)
theorem run_eq46 (u v : V2) (w : World) : (Op.equalIn 10000 46 (.agg u.c) (.agg v.c)).run Try.prog w = .ok (eqV u v) w := by
  have hf : Try.prog.fieldsOf 46 = #[{ name := "Sym", type := 9, offset := 0, embedded := false, tag := "", pkgPath := "", byteOffset := 0 }, { name := "Num", type := 2, offset := 1, embedded := false, tag := "", pkgPath := "", byteOffset := 16 }] := by kernel_rfl
  have p1 : ∀ (x : V2) (w : World), (part 9 x.c 0).run Try.prog w = .ok (.string x.s) w := fun x w => by kernel_rfl
  have p2 : ∀ (x : V2) (w : World), (part 2 x.c 1).run Try.prog w = .ok (.int .i64 x.n) w := fun x w => by kernel_rfl
  rw [run_equalIn_struct w 9999 46 u.c v.c (by rw [hf]; exact Try.underlying46) (by kernel_rfl), hf]
  simp only [Op.eqFields, p1, p2, Sem.run_bind, Result.andThen_ok, run_equalIn_string w 9998 9 _ _ Try.underlying9, run_equalIn_int w 9998 2 .i64 .i64 _ _ Try.underlying2]
  by_cases h1 : u.s.toList = v.s.toList <;> by_cases h2 : u.n = v.n <;> simp [eqV, h1, h2, Op.eqFields, p1, p2, run_equalIn_string w 9998 9 _ _ Try.underlying9, run_equalIn_int w 9998 2 .i64 .i64 _ _ Try.underlying2]
theorem guard46 : Try.prog.eqGuardType Try.prog.depth 46 = false := by kernel_rfl
theorem exec_neq46 {o : Oper} {a : Act} (x y : Operand) (ho : o.op = .binOp .neq 46 x y 46) (u v : V2) (hx : a.eval x = .agg u.c) (hy : a.eval y = .agg v.c) (w : World) : (execOp a.eval o).run Try.prog w = .ok (.value (.bool (!(eqV u v)))) w := by
  unfold execOp
  simp only [ho, hx, hy, Sem.run_bind, run_eqGuard_agg w .neq 46 x y _ _ guard46, Result.andThen_ok, run_neq_struct, run_eq46, Sem.run_pure]
theorem quiet_runG {P : Program} {ops : Array Oper} {C : World → Prop} {rest : List Oper} {o : Oper} {a : Act} {Q : Act → Prop} (hw : Region.wanted o (yielded ops a.tmps) = true) (v : Value) (he : ∀ w, C w → (execOp a.eval o).run P w = .ok (.value v) w)
    (k : wpQuiet P ops C Q rest (a.put o.dst v)) : wpQuiet P ops C Q (o :: rest) a := by
  rw [wpQuiet, if_pos hw]
  exact ⟨v, fun w hw => by unfold Oper.quietAt; rw [he w hw]; exact ⟨rfl, rfl⟩, k⟩
theorem quiet_skipG {P : Program} {ops : Array Oper} {C : World → Prop} {rest : List Oper} {o : Oper} {a : Act} {Q : Act → Prop} (hw : Region.wanted o (yielded ops a.tmps) = false)
    (k : wpQuiet P ops C Q rest (a.put o.dst undef)) : wpQuiet P ops C Q (o :: rest) a := by
  rw [wpQuiet, if_neg (by rw [hw]; exact Bool.false_ne_true)]
  exact k
theorem own_ne48 {w : World} {base n d : Nat} {v : Value} {xs : List Value} {cs : Array Value} {fr : Nat × Nat} (h : w.ownsRow base 50 3 v n xs) (hd : w.heap[d]? = some (.cells cs 48 fr)) : some d ≠ v.ownBlock := by
  rcases h.2 with ⟨rfl, _⟩ | ⟨g', cap, cur, rfl, _, h2, _⟩
  · simp [Value.ownBlock]
  · intro e
    simp [Value.ownBlock] at e
    subst e
    rw [h2] at hd
    simp at hd
theorem own_keep3 {w w' : World} {base n : Nat} {v : Value} {xs : List Value} (h : w.ownsRow base 50 3 v n xs) (hb : ∀ k, v.ownBlock = some k → w'.heap[k]? = w.heap[k]?) : w'.ownsRow base 50 3 v n xs := by
  refine ⟨h.1, ?_⟩
  rcases h.2 with h2 | ⟨g', cap, cur, rfl, h1, h2, h3⟩
  · exact .inl h2
  · exact .inr ⟨g', cap, cur, rfl, h1, by rw [hb g' rfl]; exact h2, h3⟩
theorem wpList_skip {P : Program} {ops : Array Oper} {rest : List Oper} {o : Oper} {a : Act} {w : World} {Q : Exit → Act → World → Prop} (hw : Region.wanted o (yielded ops a.tmps) = false) (h : wpList P ops Q rest (a.put o.dst undef) w) : wpList P ops Q (o :: rest) a w := by
  rw [wpList, if_neg (by rw [hw]; exact Bool.false_ne_true)]; exact h
/-- A literal's terms held against values, one by one. -/
def goOn : List T3 → List V2 → List T3 → Option (List T3)
  | x :: xs, v :: vs, out => if (look out x).2 then (if eqV (look out x).1 v then goOn xs vs out else none) else goOn xs vs (out ++ [⟨x.x, v⟩])
  | _, _, out => some out
/-- A literal held against a tuple. -/
def matchS (k : Nat) (p : ByteArray) (args : List T3) (tp : ByteArray) (ts : List V2) (b : List T3) : Option (List T3) :=
  if (k = 1 ∨ k = 2) ∧ p.toList = tp.toList ∧ args.length = ts.length then goOn args ts b else none
theorem drop_cons {α : Type} [Inhabited α] (l : List α) (i : Nat) (h : i < l.length) : l.drop i = l.getD i default :: l.drop (i + 1) := by
  rw [List.drop_eq_getElem_cons h]; simp [h]
theorem goOn_step (args : List T3) (ts : List V2) (out : List T3) (i : Nat) (h1 : i < args.length) (h2 : i < ts.length) :
    goOn (args.drop i) (ts.drop i) out = if (look out (args.getD i default)).2 then (if eqV (look out (args.getD i default)).1 (ts.getD i default) then goOn (args.drop (i + 1)) (ts.drop (i + 1)) out else none) else goOn (args.drop (i + 1)) (ts.drop (i + 1)) (out ++ [⟨(args.getD i default).x, ts.getD i default⟩]) := by
  rw [drop_cons args i h1, drop_cons ts i h2, goOn]
theorem goOn_end (args : List T3) (ts : List V2) (out : List T3) (i : Nat) (h1 : args.length ≤ i) : goOn (args.drop i) (ts.drop i) out = some out := by
  rw [List.drop_eq_nil_iff.2 h1, goOn]
  intro x xs v vs h _
  cases h
set_option maxRecDepth 100000 in
set_option maxHeartbeats 2000000 in
theorem match_calls (k : Nat) (p tp : ByteArray) (args b : List T3) (ts : List V2) (A1 A2 A3 : Option Addr) (n m q c1 c2 c3 : Nat) (hn : n = args.length) (hm : m = ts.length) (hq : q = b.length) (hn9 : n ≤ 1000000) (hq9 : q ≤ 1000000) (w : World)
    (hy1 : Rw 3 T3.c w (.slice A1 n c1) args) (hy2 : Rw 2 V2.c w (.slice A2 m c2) ts) (hy3 : Rw 3 T3.c w (.slice A3 q c3) b) :
    Calls Try.prog 9 #[.agg #[.int .u8 (k : Int), .string p, .slice A1 n c1], .agg #[.string tp, .slice A2 m c2], .slice A3 q c3] w fun e w' => ∃ v, e = .returned (.tuple #[v, .bool (matchS k p args tp ts b).isSome]) ∧ Rw 3 T3.c w' v ((matchS k p args tp ts b).getD []) ∧ Below w.heap.size w w' := by
  obtain ⟨r, hr0⟩ : ∃ r, r = matchS k p args tp ts b := ⟨_, rfl⟩
  rw [← hr0]
  have hr : Hid (r = matchS k p args tp ts b) := hr0
  have hH : Hid ((n = args.length ∧ m = ts.length ∧ q = b.length) ∧ Rw 3 T3.c w (.slice A1 n c1) args ∧ Rw 2 V2.c w (.slice A2 m c2) ts ∧ Rw 3 T3.c w (.slice A3 q c3) b) := ⟨⟨hn, hm, hq⟩, hy1, hy2, hy3⟩
  clear hr0 hn hm hq hy1 hy2 hy3
  go_enter Try.func9, Try.ntmps9
  go_upto_region 1 with fail
  generalize hW : World.alloc _ _ = W
  have hW0 : W.heap[w.heap.size]? = some (.cells #[.int .u8 (k : Int), .string p, .slice A1 n c1] 24 (0, 0)) := by rw [← hW]; exact heap_alloc2_old w _ _
  have hW1 : W.heap[w.heap.size + 1]? = some (.cells #[.string tp, .slice A2 m c2] 27 (0, 0)) := by rw [← hW]; exact heap_alloc2_new w _ _
  have hWB : Below w.heap.size w W := by rw [← hW]; exact ((Below.refl _ _).alloc (Nat.le_refl _) _).alloc (by simp) _
  have hWs : W.heap.size = w.heap.size + 2 := by rw [← hW]; simp
  clear hW
  refine wp_region_lit ?_
  refine sl_run rfl (.agg #[.int .u8 (k : Int), .string p, .slice A1 n c1]) W (exec_load_row 24 W _ rfl w.heap.size (by kernel_rfl) 24 _ (0, 0) _ hW0 Try.underlying24 rfl (by kernel_rfl)) ?_
  refine sl_call rfl 20 #[.agg #[.int .u8 (k : Int), .string p, .slice A1 n c1]] (by kernel_rfl) (R := fun v w' => v = .bool (decide (k = 1 ∨ k = 2)) ∧ Below W.heap.size W w') ((said_calls k p A1 n c1 W).mono fun e w' h => ⟨_, h.1, rfl, h.2⟩) ?_
  rintro _ w5 ⟨rfl, hB5⟩
  simp only [Act.put, List.setIfInBounds_toArray, List.set_cons_zero, List.set_cons_succ]
  have h50 : w5.heap[w.heap.size]? = some (.cells #[.int .u8 (k : Int), .string p, .slice A1 n c1] 24 (0, 0)) := by rw [hB5.block _ (by omega)]; exact hW0
  have h51 : w5.heap[w.heap.size + 1]? = some (.cells #[.string tp, .slice A2 m c2] 27 (0, 0)) := by rw [hB5.block _ (by omega)]; exact hW1
  have c01 : w5.cell? ⟨w.heap.size, 1, none⟩ = some (.string p) := by rw [cell_of_row _ _ _ _ _ _ h50]; rfl
  have c02 : w5.cell? ⟨w.heap.size, 2, none⟩ = some (.slice A1 n c1) := by rw [cell_of_row _ _ _ _ _ _ h50]; rfl
  have c10 : w5.cell? ⟨w.heap.size + 1, 0, none⟩ = some (.string tp) := by rw [cell_of_row _ _ _ _ _ _ h51]; rfl
  have c11 : w5.cell? ⟨w.heap.size + 1, 1, none⟩ = some (.slice A2 m c2) := by rw [cell_of_row _ _ _ _ _ _ h51]; rfl
  have hB6 : Hid (Below w.heap.size w w5) := hWB.trans (hB5.mono (by omega))
  have h5s : w.heap.size + 2 ≤ w5.heap.size := by have := hB5.size; omega
  have h51' : Hid (w5.heap[w.heap.size + 1]? = some (.cells #[.string tp, .slice A2 m c2] 27 (0, 0))) := h51
  clear hW0 hW1 hWB hWs hB5 h50 h51
  by_cases hk : k = 1 ∨ k = 2
  · have hkd : decide (k = 1 ∨ k = 2) = true := decide_eq_true hk
    rw [hkd]
    by_cases hp : p.toList = tp.toList
    · have hpe : (p.toList == tp.toList) = true := by simpa using hp
      by_cases hnm : n = m
      · have hnme : ((n : Int) == (m : Int)) = true := by rw [hnm]; simp
        have hrr : Hid (r = goOn args ts b) := by
          show _ = _
          rw [hr.out]; unfold matchS; rw [if_pos ⟨hk, hp, by have := hH.out.1; omega⟩]
        subst hnm
        go_upto_region 3 with fail
        obtain ⟨⟨hna, hnt, hqb⟩, hy1, hy2, hy3⟩ := hH.out
        have hna' : Hid (n = args.length) := hna
        have hnt' : Hid (n = ts.length) := hnt
        have hqb' : Hid (q = b.length) := hqb
        have hy1' : Hid (Rw 3 T3.c w (.slice A1 n c1) args) := hy1
        have hy2' : Hid (Rw 2 V2.c w (.slice A2 n c2) ts) := hy2
        have hy35 := hy3.below hB6.out
        clear hna hnt hy1 hy2 hy3 hH hnme c01 c10
        refine wp_region_lit ?_
        refine sl_run rfl (.slice A3 q c3) w5 (by kernel_rfl) ?_
        refine sl_call rfl 21 #[.slice A3 q c3] (by kernel_rfl) (R := fun v w' => w'.ownsRow w5.heap.size 50 3 v b.length (flat T3.c b) ∧ Below w5.heap.size w5 w') ((clone3_calls b A3 q c3 w5 hqb hq9 hy35).mono fun e w' h => by obtain ⟨v, h1, h2⟩ := h; exact ⟨v, h1, h2⟩) ?_
        rintro v6 w6 ⟨hown6, hB56⟩
        refine sl_run rfl v6 w6 (by kernel_rfl) ?_
        refine wpList_nil ?_
        simp only [Act.put, List.setIfInBounds_toArray, List.set_cons_zero, List.set_cons_succ]
        clear hqb hy35
        have c02 : w6.cell? ⟨w.heap.size, 2, none⟩ = some (.slice A1 n c1) := by rw [hB56.cell (by show w.heap.size < _; omega)]; exact c02
        have h61 : w6.heap[w.heap.size + 1]? = some (.cells #[.string tp, .slice A2 n c2] 27 (0, 0)) := by rw [hB56.block _ (by omega)]; exact h51'.out
        have hB66 : Hid (Below w.heap.size w w6) := hB6.out.trans (hB56.mono (by omega))
        have hs56 := hB56.size
        obtain ⟨H, hHd⟩ : ∃ H, H = w5.heap.size := ⟨_, rfl⟩
        rw [← hHd] at hown6 h5s hs56
        clear hB6 c11 h51' hB56 hHd
        go_upto_region 4 with fail
        go_wp2_with fail
        go_loopw [8, 37] (fun v u wr => ∃ (i : Nat) (out : List T3), i ≤ n ∧ u = .int .i64 i ∧ out.length ≤ q + i ∧ wr.ownsRow H 50 3 v out.length (flat T3.c out) ∧ Hid (goOn args ts b = goOn (args.drop i) (ts.drop i) out) ∧ wr.heap[w.heap.size + 1]? = some (.cells #[.string tp, .slice A2 n c2] 27 (0, 0)) ∧ H ≤ wr.heap.size ∧ Hid (Below w.heap.size w wr)) (fun _ u _ => n - (intOf u).toNat)
        case atStart => exact ⟨0, b, by omega, rfl, by have := hqb'.out; omega, hown6, rfl, h61, hs56, hB66⟩
        case round =>
          clear hown6 h61 hs56 hB66
          obtain ⟨i, out, hi, rfl, hol, hown, hgo, h1, hHs, hB⟩ := hrel
          by_cases hlt : i < n
          · have hil : i < args.length := by rw [← hna'.out]; exact hlt
            have hitl : i < ts.length := by rw [← hnt'.out]; exact hlt
            have hI : (i : Int) < (n : Int) := by omega
            obtain ⟨g, o, rfl, hnc, hg, hra⟩ := hy1'.out.elem i hil
            obtain ⟨g2, o2, rfl, hnc2, hg2, hra2⟩ := hy2'.out.elem i hitl
            obtain ⟨e, hee⟩ : ∃ e, e = args.getD i default := ⟨_, rfl⟩
            obtain ⟨tv, htv⟩ : ∃ tv, tv = ts.getD i default := ⟨_, rfl⟩
            have hstep := goOn_step args ts out i hil hitl
            rw [← hee, ← htv] at hstep
            rw [← hee] at hra
            rw [← htv] at hra2
            have hstep' : Hid (goOn (args.drop i) (ts.drop i) out = if (look out e).2 then (if eqV (look out e).1 tv then goOn (args.drop (i + 1)) (ts.drop (i + 1)) out else none) else goOn (args.drop (i + 1)) (ts.drop (i + 1)) (out ++ [⟨e.x, tv⟩])) := hstep
            clear hstep hee htv hil hitl
            have hraw := range_below hra hB.out hg
            have hBs := Below.size hB.out
            obtain ⟨Ao, co, rfl⟩ : ∃ A c, u8 = .slice A out.length c := by
              rcases hown.2 with ⟨rfl, h0⟩ | ⟨g9, cap, cur, rfl, _⟩
              · exact ⟨none, 0, by rw [h0]⟩
              · exact ⟨_, cap, rfl⟩
            go_upto_region 6 with fail
            refine wp_region_lit ?_
            refine sl_run rfl (.int .i64 i) wr (by kernel_rfl) ?_
            refine sl_run rfl (.pointer (some ⟨g, o + i * 3, none⟩)) wr (exec_index un22 sz22 _ _ rfl g o n c1 i (by kernel_rfl) (by kernel_rfl) hlt wr) ?_
            refine sl_run rfl (.agg e.c) wr (exec_load_mid 48 wr _ rfl g (o + i * 3) (by kernel_rfl) e.c.toList _ hraw Try.underlying48 rfl (by kernel_rfl)) ?_
            refine sl_run rfl (.pointer (some ⟨wr.heap.size, 0, none⟩)) (wr.alloc (.cells (default : T3).c 48)) (by kernel_rfl) ?_
            refine sl_run rfl (.int .i64 i) (wr.alloc (.cells (default : T3).c 48)) (by kernel_rfl) ?_
            refine wpList_store_row rfl 48 _ _ rfl wr.heap.size e.c (by kernel_rfl) (by kernel_rfl) 48 _ (heap_alloc_new _ _) (by kernel_rfl) (by kernel_rfl) (all_oneCell_toArray (t3_ones e)) ?_
            rw [World.setRow_alloc_new]
            refine wpList_nil ?_
            simp only [Act.put, List.setIfInBounds_toArray, List.set_cons_zero, List.set_cons_succ]
            obtain ⟨d, hd⟩ : ∃ d, d = wr.heap.size := ⟨_, rfl⟩
            have hd3 : (wr.alloc (.cells e.c 48)).heap[wr.heap.size]? = some (.cells e.c 48 (0, 0)) := heap_alloc_new _ _
            have hB3 : Below wr.heap.size wr (wr.alloc (.cells e.c 48)) := (Below.refl _ _).alloc (Nat.le_refl _) _
            have hs3 : wr.heap.size < (wr.alloc (.cells e.c 48)).heap.size := by simp
            have hown3 := hown.alloc (.cells e.c 48)
            have h13 : (wr.alloc (.cells e.c 48)).heap[w.heap.size + 1]? = some (.cells #[.string tp, .slice (some ⟨g2, o2, none⟩) n c2] 27 (0, 0)) := by rw [heap_alloc_old _ _ (by omega)]; exact h1
            have c023 : (wr.alloc (.cells e.c 48)).heap.size = wr.heap.size + 1 := by simp
            rw [← hd] at hd3 hs3 ⊢
            generalize wr.alloc _ = w3 at hd3 hB3 hs3 hown3 h13 c023
            have hB03 : Hid (Below w.heap.size w w3) := hB.out.trans (hB3.mono (by omega))
            clear hown h1 hra hraw hB3 hB
            go_upto_region 7 with fail
            refine wp_region_lit ?_
            refine sl_run rfl (.slice Ao out.length co) w3 (by kernel_rfl) ?_
            refine sl_run rfl (.agg e.c) w3 (exec_load_row 48 w3 _ rfl d (by kernel_rfl) 48 _ (0, 0) _ hd3 Try.underlying48 rfl (by kernel_rfl)) ?_
            obtain ⟨lv, hlv⟩ : ∃ lv, lv = (look out e).1 := ⟨_, rfl⟩
            obtain ⟨lb, hlb⟩ : ∃ lb, lb = (look out e).2 := ⟨_, rfl⟩
            refine sl_call rfl 22 #[.slice Ao out.length co, .agg e.c] (by kernel_rfl) (R := fun v w' => v = .tuple #[.agg lv.c, .bool lb] ∧ Below w3.heap.size w3 w') ((look_calls out e Ao out.length co w3 rfl (by omega) (Rw.own t3_size (by decide) hown3)).mono fun e w' h => ⟨_, h.1, by rw [hlv, hlb], h.2⟩) ?_
            rintro _ w4 ⟨rfl, hB4⟩
            simp only [Act.put, List.setIfInBounds_toArray, List.set_cons_zero, List.set_cons_succ]
            refine sl_run rfl (.tuple #[.agg lv.c, .bool lb]) w4 (by kernel_rfl) ?_
            refine sl_run rfl (.agg lv.c) w4 (by kernel_rfl) ?_
            refine sl_run rfl (.bool lb) w4 (by kernel_rfl) ?_
            simp only [Act.put, List.setIfInBounds_toArray, List.set_cons_zero, List.set_cons_succ]
            have hd4 : w4.heap[d]? = some (.cells e.c 48 (0, 0)) := by rw [hB4.block _ (by omega)]; exact hd3
            have h14 : w4.heap[w.heap.size + 1]? = some (.cells #[.string tp, .slice (some ⟨g2, o2, none⟩) n c2] 27 (0, 0)) := by rw [hB4.block _ (by omega)]; exact h13
            have hown4 : w4.ownsRow H 50 3 (.slice Ao out.length co) out.length (flat T3.c out) := own_keep3 hown3 (fun q hq => hB4.block q (hown3.lt q hq).2)
            have hB04 : Hid (Below w.heap.size w w4) := hB03.out.trans (hB4.mono (by omega))
            have hs4 := hB4.size
            clear hd3 h13 hown3 hB03 hB4
            refine sl_run rfl (.pointer (some ⟨w4.heap.size, 0, none⟩)) (w4.alloc (.cells (default : V2).c 46)) (by kernel_rfl) ?_
            refine wpList_store_row rfl 46 _ _ rfl w4.heap.size lv.c (by kernel_rfl) (by kernel_rfl) 46 _ (heap_alloc_new _ _) (by kernel_rfl) (by kernel_rfl) (v2_one _) ?_
            rw [World.setRow_alloc_new]
            refine sl_run rfl (.bool lb) (w4.alloc (.cells lv.c 46)) (by kernel_rfl) ?_
            refine wpList_nil ?_
            simp only [Act.put, List.setIfInBounds_toArray, List.set_cons_zero, List.set_cons_succ]
            obtain ⟨f, hf⟩ : ∃ f, f = w4.heap.size := ⟨_, rfl⟩
            have hf5 : (w4.alloc (.cells lv.c 46)).heap[w4.heap.size]? = some (.cells lv.c 46 (0, 0)) := heap_alloc_new _ _
            have hB5 : Below w4.heap.size w4 (w4.alloc (.cells lv.c 46)) := (Below.refl _ _).alloc (Nat.le_refl _) _
            have hown5 := hown4.alloc (.cells lv.c 46)
            have hd5 : (w4.alloc (.cells lv.c 46)).heap[d]? = some (.cells e.c 48 (0, 0)) := by rw [heap_alloc_old _ _ (by omega)]; exact hd4
            have h15 : (w4.alloc (.cells lv.c 46)).heap[w.heap.size + 1]? = some (.cells #[.string tp, .slice (some ⟨g2, o2, none⟩) n c2] 27 (0, 0)) := by rw [heap_alloc_old _ _ (by omega)]; exact h14
            have hs5 : (w4.alloc (.cells lv.c 46)).heap.size = w4.heap.size + 1 := by simp
            rw [← hf] at hf5 hs5 ⊢
            generalize w4.alloc _ = w5 at hf5 hB5 hown5 hd5 h15 hs5
            have hB05 : Hid (Below w.heap.size w w5) := hB04.out.trans (hB5.mono (by omega))
            have hra25 := range_below hra2 hB05.out hg2
            have hra2' := hra2
            clear hown4 hd4 h14 hB5 hB04 hra2
            have hlvb : Hid (goOn (args.drop i) (ts.drop i) out = if lb then (if eqV lv tv then goOn (args.drop (i + 1)) (ts.drop (i + 1)) out else none) else goOn (args.drop (i + 1)) (ts.drop (i + 1)) (out ++ [⟨e.x, tv⟩])) := by rw [hlv, hlb]; exact hstep'
            clear hstep' hlv hlb
            have c11 : ∀ w', Below w5.heap.size w5 w' → w'.cell? ⟨w.heap.size + 1, 1, none⟩ = some (.slice (some ⟨g2, o2, none⟩) n c2) := fun w' h => by rw [h.cell (by show w.heap.size + 1 < _; omega), cell_of_row _ _ _ _ _ _ h15]; rfl
            have ctv : ∀ w', Below w5.heap.size w5 w' → w'.rangeAt g2 (o2 + i * 2) tv.c.toList := fun w' h => range_below hra25 h (by omega)
            cases lb with
            | true =>
              go_upto_region 8 with fail
              refine wp_region_quiet (C := Below w5.heap.size w5) (by kernel_rfl) (by kernel_rfl) (Below.refl _ _).drew ?_
              refine quiet_run rfl (.bool true) (fun _ _ => by kernel_rfl) ?_
              simp only [Act.put, List.setIfInBounds_toArray, List.set_cons_zero, List.set_cons_succ]
              refine quiet_run rfl (.bool true) (fun _ _ => by kernel_rfl) ?_
              simp only [Act.put, List.setIfInBounds_toArray, List.set_cons_zero, List.set_cons_succ]
              refine quiet_runG (by kernel_rfl) (.agg lv.c) (fun w' h => exec_load_row 46 w' _ rfl f (by kernel_rfl) 46 _ (0, 0) _ (by rw [h.block _ (by omega)]; exact hf5) Try.underlying46 rfl (by kernel_rfl)) ?_
              simp only [Act.put, List.setIfInBounds_toArray, List.set_cons_zero, List.set_cons_succ]
              refine quiet_runG (by kernel_rfl) (.pointer (some ⟨w.heap.size + 1, 1, none⟩)) (fun _ _ => by kernel_rfl) ?_
              simp only [Act.put, List.setIfInBounds_toArray, List.set_cons_zero, List.set_cons_succ]
              refine quiet_runG (by kernel_rfl) (.slice (some ⟨g2, o2, none⟩) n c2) (fun w' h => exec_load_cell 25 w' _ rfl ⟨w.heap.size + 1, 1, none⟩ (by kernel_rfl) _ (c11 w' h) (fun _ => by kernel_rfl)) ?_
              simp only [Act.put, List.setIfInBounds_toArray, List.set_cons_zero, List.set_cons_succ]
              refine quiet_runG (by kernel_rfl) (.int .i64 i) (fun _ _ => by kernel_rfl) ?_
              simp only [Act.put, List.setIfInBounds_toArray, List.set_cons_zero, List.set_cons_succ]
              refine quiet_runG (by kernel_rfl) (.pointer (some ⟨g2, o2 + i * 2, none⟩)) (fun w' _ => exec_index un25 sz25 _ _ rfl g2 o2 n c2 i (by kernel_rfl) (by kernel_rfl) hlt w') ?_
              simp only [Act.put, List.setIfInBounds_toArray, List.set_cons_zero, List.set_cons_succ]
              refine quiet_runG (by kernel_rfl) (.agg tv.c) (fun w' h => exec_load_mid 46 w' _ rfl g2 (o2 + i * 2) (by kernel_rfl) tv.c.toList _ (ctv w' h) Try.underlying46 rfl (by kernel_rfl)) ?_
              simp only [Act.put, List.setIfInBounds_toArray, List.set_cons_zero, List.set_cons_succ]
              refine quiet_runG (by kernel_rfl) (.bool (!(eqV lv tv))) (fun w' _ => exec_neq46 _ _ rfl lv tv (by kernel_rfl) (by kernel_rfl) w') ?_
              simp only [Act.put, List.setIfInBounds_toArray, List.set_cons_zero, List.set_cons_succ]
              refine quiet_run rfl (.bool (!(eqV lv tv))) (fun _ _ => by kernel_rfl) ?_
              simp only [Act.put, List.setIfInBounds_toArray, List.set_cons_zero, List.set_cons_succ]
              refine wpQuiet_nil ?_
              intro w6 hB6
              have hB06 : Hid (Below w.heap.size w w6) := hB05.out.trans (hB6.mono (by omega))
              have hown6 : w6.ownsRow H 50 3 (.slice Ao out.length co) out.length (flat T3.c out) := own_keep3 hown5 (fun q hq => hB6.block q (hown5.lt q hq).2)
              have h16 : w6.heap[w.heap.size + 1]? = some (.cells #[.string tp, .slice (some ⟨g2, o2, none⟩) n c2] 27 (0, 0)) := by rw [hB6.block _ (by omega)]; exact h15
              have hs6 : H ≤ w6.heap.size := by have := hB6.size; omega
              clear hf5 hown5 hd5 h15 hra25 c11 ctv hB05 hB6
              cases hq2 : eqV lv tv with
              | true =>
                have hgo2 : Hid (goOn args ts b = goOn (args.drop (i + 1)) (ts.drop (i + 1)) out) := by show _ = _; rw [hgo.out, hlvb.out, hq2]; rfl
                clear hgo hlvb hq2
                go_wp2_with fail
                go_roundw
                case rel => exact ⟨i + 1, out, by omega, by go_num, by omega, hown6, hgo2, h16, hs6, hB06⟩
                case measure => simp [intOf]; omega
              | false =>
                have hgo2 : Hid (r = none) := by show _ = _; rw [hrr.out, hgo.out, hlvb.out, hq2]; rfl
                clear hgo hlvb hq2
                go_wp2_with fail
                refine bodyPost_ret (v := .tuple #[.slice none 0 0, .bool false]) (by kernel_rfl) (by kernel_rfl) ?_
                exact ⟨_, by rw [hgo2.out]; rfl, by rw [hgo2.out]; exact Rw.nil, hB06.out⟩
            | false =>
              go_upto_region 8 with fail
              go_quiet (fail)
              have hB6 : Below w5.heap.size w5 (w5.drewN nq) := ⟨rfl, rfl, rfl, Nat.le_refl _, fun _ _ => rfl⟩
              generalize w5.drewN nq = w6 at hB6 ⊢
              have hB06 : Hid (Below w.heap.size w w6) := hB05.out.trans (hB6.mono (by omega))
              have hown6 : w6.ownsRow H 50 3 (.slice Ao out.length co) out.length (flat T3.c out) := own_keep3 hown5 (fun q hq => hB6.block q (hown5.lt q hq).2)
              have h16 : w6.heap[w.heap.size + 1]? = some (.cells #[.string tp, .slice (some ⟨g2, o2, none⟩) n c2] 27 (0, 0)) := by rw [hB6.block _ (by omega)]; exact h15
              have hd6 : w6.heap[d]? = some (.cells e.c 48 (0, 0)) := by rw [hB6.block _ (by omega)]; exact hd5
              have hra26 := range_below hra2' hB06.out hg2
              have hs6 : H ≤ w6.heap.size := by have := hB6.size; omega
              have hd6s : d < w6.heap.size := by have := hB6.size; omega
              have hw6s : w.heap.size + 1 < w6.heap.size := by have := hB6.size; omega
              clear hf5 hown5 hd5 h15 hra25 c11 ctv hB05 hB6
              have hgo2 : Hid (goOn args ts b = goOn (args.drop (i + 1)) (ts.drop (i + 1)) (out ++ [⟨e.x, tv⟩])) := by show _ = _; rw [hgo.out, hlvb.out]; rfl
              clear hgo hlvb
              obtain ⟨i50, hi50, hz0, hz1, hz2⟩ := info_parts inf50
              go_upto_region 11 with fail
              have hown7 := hown6.drew
              refine wp_region_held_drew (S := fun w' => w'.heap[d]? = some (.cells e.c 48 (0, 0)) ∧ Below H w6 w') (by kernel_rfl) ⟨hd6, (Below.refl _ _).drew⟩ (fun hS => ?_)
              change wpAnyH _ _ _ _ _ 12 (Array.replicate 12 false) _ _
              generalize hx : w6.drew = w7 at hS hown7
              clear hx
              refine held_take 0 rfl (by kernel_rfl) (by kernel_rfl) (by kernel_rfl) (.slice Ao out.length co) (fun _ _ _ h => h) (by kernel_rfl) (fun _ _ => by kernel_rfl) hS ?_
              simp only [Act.put, List.setIfInBounds_toArray, List.set_cons_zero, List.set_cons_succ, List.getElem_toArray, List.getElem_cons_succ, List.getElem_cons_zero]
              refine held_take 1 rfl (by kernel_rfl) (by kernel_rfl) (by kernel_rfl) (.pointer (some ⟨d, 0, none⟩)) (fun _ _ _ h => h) (by kernel_rfl) (fun _ _ => by kernel_rfl) hS ?_
              simp only [Act.put, List.setIfInBounds_toArray, List.set_cons_zero, List.set_cons_succ, List.getElem_toArray, List.getElem_cons_succ, List.getElem_cons_zero]
              refine held_take 2 rfl (by kernel_rfl) (by kernel_rfl) (by kernel_rfl) (.string e.x) (fun _ _ _ h => h) (by kernel_rfl) (fun w' h => exec_load_cell 9 w' _ rfl ⟨d, 0, none⟩ (by kernel_rfl) _ (by rw [cell_of_row _ _ _ _ _ _ h.1]; rfl) (fun _ => by kernel_rfl)) hS ?_
              simp only [Act.put, List.setIfInBounds_toArray, List.set_cons_zero, List.set_cons_succ, List.getElem_toArray, List.getElem_cons_succ, List.getElem_cons_zero]
              refine held_take 3 rfl (by kernel_rfl) (by kernel_rfl) (by kernel_rfl) (.pointer (some ⟨w.heap.size + 1, 1, none⟩)) (fun _ _ _ h => h) (by kernel_rfl) (fun _ _ => by kernel_rfl) hS ?_
              simp only [Act.put, List.setIfInBounds_toArray, List.set_cons_zero, List.set_cons_succ, List.getElem_toArray, List.getElem_cons_succ, List.getElem_cons_zero]
              refine held_take 4 rfl (by kernel_rfl) (by kernel_rfl) (by kernel_rfl) (.slice (some ⟨g2, o2, none⟩) n c2) (fun _ _ _ h => h) (by kernel_rfl) (fun w' h => exec_load_cell 25 w' _ rfl ⟨w.heap.size + 1, 1, none⟩ (by kernel_rfl) _ (by rw [h.2.cell (by show w.heap.size + 1 < H; omega), cell_of_row _ _ _ _ _ _ h16]; rfl) (fun _ => by kernel_rfl)) hS ?_
              simp only [Act.put, List.setIfInBounds_toArray, List.set_cons_zero, List.set_cons_succ, List.getElem_toArray, List.getElem_cons_succ, List.getElem_cons_zero]
              refine held_take 5 rfl (by kernel_rfl) (by kernel_rfl) (by kernel_rfl) (.int .i64 i) (fun _ _ _ h => h) (by kernel_rfl) (fun _ _ => by kernel_rfl) hS ?_
              simp only [Act.put, List.setIfInBounds_toArray, List.set_cons_zero, List.set_cons_succ, List.getElem_toArray, List.getElem_cons_succ, List.getElem_cons_zero]
              refine held_take 6 rfl (by kernel_rfl) (by kernel_rfl) (by kernel_rfl) (.pointer (some ⟨g2, o2 + i * 2, none⟩)) (fun _ _ _ h => h) (by kernel_rfl) (fun w' _ => exec_index un25 sz25 _ _ rfl g2 o2 n c2 i (by kernel_rfl) (by kernel_rfl) hlt w') hS ?_
              simp only [Act.put, List.setIfInBounds_toArray, List.set_cons_zero, List.set_cons_succ, List.getElem_toArray, List.getElem_cons_succ, List.getElem_cons_zero]
              refine held_take 7 rfl (by kernel_rfl) (by kernel_rfl) (by kernel_rfl) (.agg tv.c) (fun _ _ _ h => h) (by kernel_rfl) (fun w' h => exec_load_mid 46 w' _ rfl g2 (o2 + i * 2) (by kernel_rfl) tv.c.toList _ (range_below hra26 h.2 (by omega)) Try.underlying46 rfl (by kernel_rfl)) hS ?_
              simp only [Act.put, List.setIfInBounds_toArray, List.set_cons_zero, List.set_cons_succ, List.getElem_toArray, List.getElem_cons_succ, List.getElem_cons_zero]
              refine held_take 8 rfl (by kernel_rfl) (by kernel_rfl) (by kernel_rfl) (.agg (T3.c ⟨e.x, tv⟩)) (fun _ _ _ h => h) (by kernel_rfl) (fun _ _ => by kernel_rfl) hS ?_
              simp only [Act.put, List.setIfInBounds_toArray, List.set_cons_zero, List.set_cons_succ, List.getElem_toArray, List.getElem_cons_succ, List.getElem_cons_zero]
              have hs7 : w6.heap.size ≤ w7.heap.size := hS.2.size
              refine held_new 9 rfl (by kernel_rfl) (by kernel_rfl) (.slice (some ⟨w7.heap.size, 0, none⟩) 1 1) (w7.alloc (.cells (T3.c ⟨e.x, tv⟩) 50)) (by kernel_rfl) (fun w' => (w'.heap[d]? = some (.cells e.c 48 (0, 0)) ∧ Below H w6 w') ∧ w'.ownsRow H 50 3 (.slice Ao out.length co) out.length (flat T3.c out) ∧ w'.heap[w7.heap.size]? = some (.cells (T3.c ⟨e.x, tv⟩) 50 (0, 0))) ⟨⟨by rw [heap_alloc_old _ _ (by omega)]; exact hS.1, hS.2.alloc (by omega) _⟩, hown7.alloc _, heap_alloc_new _ _⟩ ?_
              rintro w8 ⟨hS8, hown8, hnew8⟩
              refine ⟨hS8, ?_⟩
              simp only [Act.put, List.setIfInBounds_toArray, List.set_cons_zero, List.set_cons_succ, List.getElem_toArray, List.getElem_cons_succ, List.getElem_cons_zero]
              refine held_one 10 rfl (by kernel_rfl) (by kernel_rfl) (fun K hK => ?_)
              refine wp_append_own w8 _ _ 28 rfl H 50 i50 z3 3 40 Try.underlying28 hi50 hz0 hz1 hz2 rfl (by decide) (.slice Ao out.length co) out.length (flat T3.c out) (by kernel_rfl) hown8 ⟨w7.heap.size, 0, none⟩ 1 1 (T3.c ⟨e.x, tv⟩).toList (by kernel_rfl) rfl (fun j u hu => by rw [Addr.add_mid, Nat.zero_add, cell_of_row _ _ _ _ _ _ hnew8]; simpa using hu) (t3_ones _) (by unfold maxLen; omega) (by omega) (by have := hS8.2.size; omega) ?_
              intro v9 w9 hw9 hgr9 hnil9
              clear hnil9
              have hd8 : d < w8.heap.size := (Array.getElem?_eq_some_iff.1 hS8.1).1
              have hS9 : Below H w6 w9 := Below.grown hS8.2 hgr9 (by have := hS8.2.size; omega) (fun q hq => (hown8.lt q hq).1)
              have hown9 : w9.ownsRow H 50 3 v9 (out ++ [(⟨e.x, tv⟩ : T3)]).length (flat T3.c (out ++ [(⟨e.x, tv⟩ : T3)])) := by
                rw [flat_app, List.length_append]; exact hw9
              clear hw9
              have hSS : w9.heap[d]? = some (.cells e.c 48 (0, 0)) ∧ Below H w6 w9 := ⟨by rw [hgr9.block d hd8 (own_ne48 hown8 hS8.1)]; exact hS8.1, hS9⟩
              refine hK _ _ hSS ?_
              simp only [Act.put, List.setIfInBounds_toArray, List.set_cons_zero, List.set_cons_succ, List.getElem_toArray, List.getElem_cons_succ, List.getElem_cons_zero]
              refine held_take 11 rfl (by kernel_rfl) (by kernel_rfl) (by kernel_rfl) v9 (fun _ _ _ h => h) (by kernel_rfl) (fun _ _ => by kernel_rfl) hSS ?_
              simp only [Act.put, List.setIfInBounds_toArray, List.set_cons_zero, List.set_cons_succ, List.getElem_toArray, List.getElem_cons_succ, List.getElem_cons_zero]
              refine wpAnyH_done (by kernel_rfl) ?_ _
              have h19 : w9.heap[w.heap.size + 1]? = some (.cells #[.string tp, .slice (some ⟨g2, o2, none⟩) n c2] 27 (0, 0)) := by rw [hS9.block _ (by omega)]; exact h16
              have hB09 : Hid (Below w.heap.size w w9) := hB06.out.trans (hS9.mono (by omega))
              have hs9 : H ≤ w9.heap.size := by have := hS9.size; omega
              clear hown7 hS8 hown8 hnew8 hgr9 hS9 hd6 h16 hown6 hra26 hB06 hK hSS
              rename_i hK
              refine hK _ _ ?_
              go_wp2_with fail
              go_roundw
              case rel => exact ⟨i + 1, out ++ [⟨e.x, tv⟩], by omega, by go_num, by simp; omega, hown9, hgo2, h19, hs9, hB09⟩
              case measure => simp [intOf]; omega
          · have hI : ¬ (i : Int) < (n : Int) := by omega
            have hgo2 : Hid (r = some out) := by show _ = _; rw [hrr.out, hgo.out, goOn_end args ts out i (by have := hna'.out; omega)]
            have hs0 : w.heap.size ≤ wr.heap.size := Below.size hB.out
            go_upto_region 13 with fail
            refine wp_region_lit ?_
            refine sl_run rfl u8 wr (by kernel_rfl) ?_
            refine sl_call rfl 23 #[u8] (by kernel_rfl) (R := fun v w' => Rw 3 T3.c w' v out ∧ Below wr.heap.size wr w') ((clip3_calls out u8 wr (by omega) (Rw.own t3_size (by decide) hown)).mono fun e w' h => by obtain ⟨v, h1, h2⟩ := h; exact ⟨v, h1, h2⟩) ?_
            rintro v5 w5 ⟨hy5, hB5⟩
            refine sl_run rfl v5 w5 (by kernel_rfl) ?_
            refine sl_run rfl (.bool true) w5 (by kernel_rfl) ?_
            refine wpList_nil ?_
            simp only [Act.put, List.setIfInBounds_toArray, List.set_cons_zero, List.set_cons_succ]
            rename_i hK
            refine hK _ _ (wp_ret ?_)
            refine bodyPost_ret (v := .tuple #[v5, .bool true]) (by kernel_rfl) (by kernel_rfl) ?_
            exact ⟨_, by rw [hgo2.out]; rfl, by rw [hgo2.out]; exact hy5, hB.out.trans (hB5.mono hs0)⟩
      · have hnme : ((n : Int) == (m : Int)) = false := by rw [beq_eq_false_iff_ne]; omega
        have hrr : Hid (r = none) := by
          show _ = _
          rw [hr.out]; unfold matchS; rw [if_neg (fun h => hnm (by have := hH.out.1; omega))]
        go_wp2_with fail
        refine bodyPost_ret (v := .tuple #[.slice none 0 0, .bool false]) (by kernel_rfl) (by kernel_rfl) ?_
        exact ⟨_, by rw [hrr.out]; rfl, by rw [hrr.out]; exact Rw.nil, hB6.out⟩
    · have hpe : (p.toList == tp.toList) = false := by simpa using hp
      have hrr : Hid (r = none) := by
        show _ = _
        rw [hr.out]; unfold matchS; rw [if_neg (fun h => hp h.2.1)]
      go_wp2_with fail
      refine bodyPost_ret (v := .tuple #[.slice none 0 0, .bool false]) (by kernel_rfl) (by kernel_rfl) ?_
      exact ⟨_, by rw [hrr.out]; rfl, by rw [hrr.out]; exact Rw.nil, hB6.out⟩
  · have hkd : decide (k = 1 ∨ k = 2) = false := decide_eq_false hk
    rw [hkd]
    have hrr : Hid (r = none) := by
      show _ = _
      rw [hr.out]; unfold matchS; rw [if_neg (fun h => hk h.1)]
    go_wp2_with fail
    refine bodyPost_ret (v := .tuple #[.slice none 0 0, .bool false]) (by kernel_rfl) (by kernel_rfl) ?_
    exact ⟨_, by rw [hrr.out]; rfl, by rw [hrr.out]; exact Rw.nil, hB6.out⟩
end Go.Proofs.Ytehgblnhhlgikaa.Bi
