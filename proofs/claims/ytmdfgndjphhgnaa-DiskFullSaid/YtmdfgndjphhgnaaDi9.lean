/-
  Crash of a disk.
-/
import Derived.Test.YtmdfgndjphhgnaaDiCr
namespace Go.Proofs.Ytmdfgndjphhgnaa
open Go.RowKit
set_option linter.unusedVariables false
set_option linter.unusedSimpArgs false
theorem Crash_nil (n : Int) (w : World) : Calls Try.prog 26 #[.pointer none, .int .i64 n] w fun e w' => e = .returned (.tuple #[]) ∧ w = w' := by
  go_enter Try.func26, Try.ntmps26
  go_wp2_with fail
  refine bodyPost_ret (v := .tuple #[]) (by kernel_rfl) (by kernel_rfl) ?_
  exact ⟨rfl, rfl⟩
theorem exec_next {o : Oper} {a : Act} {w w' : World} (x : Operand) (ho : o.op = .next x false) (u v : Value) (hx : a.eval x = u) (h : (Instr.next u false 0).run Try.prog w = .ok v w') : (execOp a.eval o).run Try.prog w = .ok (.value v) w' := by
  have h : (Instr.next u false o.type).run Try.prog w = .ok v w' := h
  unfold execOp
  simp [ho, hx, h, Result.andThen]
theorem exec_entry {o : Oper} {a : Act} {w w' : World} (x : Operand) (ho : o.op = .entry x) (u v : Value) (hx : a.eval x = u) (h : (Instr.entry u).run Try.prog w = .ok v w') : (execOp a.eval o).run Try.prog w = .ok (.value v) w' := by
  unfold execOp
  simp [ho, hx, h, Result.andThen]
theorem exec_rangem {o : Oper} {a : Act} {w w' : World} (x : Operand) (ho : o.op = .range 61 x) (u v : Value) (hx : a.eval x = u) (h : (Instr.range 61 u).run Try.prog w = .ok v w') : (execOp a.eval o).run Try.prog w = .ok (.value v) w' := by
  unfold execOp
  simp [ho, hx, h, Result.andThen]
theorem iterSeen_at {w : World} {R : Nat} {m : Option Nat} {s c : Nat} {seen : Array Nat} (h : w.heap[R]? = some (.mapIter m s seen c)) : w.iterSeen R = seen := by unfold World.iterSeen; rw [h]
theorem exec_putE {o : Oper} {a : Act} {w : World} (x y z : Operand) (ho : o.op = .mapUpdate 61 x y z) {mb clock : Nat} {es : Array MapEntry} {L : List (ByteArray × Value)} (h : DE w mb es clock L) (s : ByteArray) (v u : Value) (hl : lk L s = some u) (hx : a.eval x = .map (some mb)) (hy : a.eval y = .string s) (hz : a.eval z = v) :
    ∃ w', (execOp a.eval o).run Try.prog w = .ok .skip w' ∧ ∃ es', DE w' mb es' clock (pt L s v) ∧ es'.toList.map (·.born) = es.toList.map (·.born) ∧ Only mb w w' := by
  obtain ⟨es', w', hr, h2, h3, h4⟩ := run_putE h un61 un9 s v u hl
  refine ⟨w', ?_, es', h2, h3, h4⟩
  unfold execOp
  simp [ho, hx, hy, hz, hr, Result.andThen]
set_option maxRecDepth 100000 in
set_option maxHeartbeats 1000000 in
theorem Crash_calls {w : World} {D mb : Nat} {d : DS} (h : DiskI w D mb d) (keep : Int) (hk9 : keep < 9223372036854775808) : Calls Try.prog 26 #[.pointer (some ⟨D, 0, none⟩), .int .i64 keep] w fun e w' => e = .returned (.tuple #[]) ∧ DiskI w' D mb (d.crash keep) ∧ KpS (TD D mb) w w' := by
  have hDw : Hid (DiskI w D mb d) := h
  have hfin : Hid (∀ f ∈ d.L, f.sure ≤ f.bs.length ∧ f.bs.length ≤ 1048576) := h.fine
  clear h
  go_enter Try.func26, Try.ntmps26
  go_upto_region 1 with fail
  refine wp_region_lit ?_
  refine sl_run rfl (.pointer (some ⟨D, 0, none⟩)) w (by kernel_rfl) ?_
  simp only [Act.put, List.setIfInBounds_toArray, List.set_cons_zero, List.set_cons_succ]
  refine sl_run rfl (.pointer (some ⟨D, 0, none⟩)) w (by kernel_rfl) ?_
  simp only [Act.put, List.setIfInBounds_toArray, List.set_cons_zero, List.set_cons_succ]
  refine sl_run rfl (.pointer (some ⟨D, 0, none⟩)) w (by kernel_rfl) ?_
  simp only [Act.put, List.setIfInBounds_toArray, List.set_cons_zero, List.set_cons_succ]
  refine sl_run rfl (.pointer (some ⟨D, 2, none⟩)) w (by kernel_rfl) ?_
  simp only [Act.put, List.setIfInBounds_toArray, List.set_cons_zero, List.set_cons_succ]
  refine sl_skipped (by kernel_rfl) (w.setCell ⟨D, 2, none⟩ (.bool false)) ?he ?_
  case he => exact exec_store_cell 4 _ _ rfl D 2 (by kernel_rfl) (.bool false) (by kernel_rfl) _ hDw.out.c2 (hDw.out.fr 2) (fun w => by kernel_rfl) rfl rfl
  simp only [Act.put, List.setIfInBounds_toArray, List.set_cons_zero, List.set_cons_succ]
  have hDw2 : Hid (DiskI (w.setCell ⟨D, 2, none⟩ (.bool false)) D mb ⟨d.L, d.left, false⟩) := hDw.out.set2 false
  have hkw2 : Hid (KpS (TD D mb) w (w.setCell ⟨D, 2, none⟩ (.bool false))) := kpD _ _ _ _ _
  generalize (w.setCell ⟨D, 2, none⟩ (.bool false)) = w2 at hDw2 hkw2 ⊢
  clear hDw
  refine sl_run rfl (.pointer (some ⟨D, 0, none⟩)) w2 (by kernel_rfl) ?_
  simp only [Act.put, List.setIfInBounds_toArray, List.set_cons_zero, List.set_cons_succ]
  refine sl_run rfl (.pointer (some ⟨D, 1, none⟩)) w2 (by kernel_rfl) ?_
  simp only [Act.put, List.setIfInBounds_toArray, List.set_cons_zero, List.set_cons_succ]
  refine sl_skipped (by kernel_rfl) (w2.setCell ⟨D, 1, none⟩ (.int .i64 (-1))) ?he ?_
  case he => exact exec_store_cell 3 _ _ rfl D 1 (by kernel_rfl) (.int .i64 (-1)) (by kernel_rfl) _ hDw2.out.c1 (hDw2.out.fr 1) (fun w => by kernel_rfl) rfl rfl
  simp only [Act.put, List.setIfInBounds_toArray, List.set_cons_zero, List.set_cons_succ]
  have hDw3 : Hid (DiskI (w2.setCell ⟨D, 1, none⟩ (.int .i64 (-1))) D mb ⟨d.L, -1, false⟩) := hDw2.out.set1 (-1) (by decide) (by decide)
  have hkw3 : Hid (KpS (TD D mb) w (w2.setCell ⟨D, 1, none⟩ (.int .i64 (-1)))) := hkw2.out.trans (kpD _ _ _ _ _)
  generalize (w2.setCell ⟨D, 1, none⟩ (.int .i64 (-1))) = w3 at hDw3 hkw3 ⊢
  clear hDw2 hkw2
  refine wpList_nil ?_
  obtain ⟨L0, ⟨es0, since, hde0⟩, hL0, hrw0⟩ := hDw3.out.ex
  obtain ⟨Bn, hBn⟩ : ∃ B, B = es0.toList.map (·.born) := ⟨_, rfl⟩
  have hlen : Bn.length = d.L.length := by
    rw [hBn, List.length_map, Array.length_toList, hde0.len, List.length_map, ← hL0, List.length_map]
  go_upto_region 2 with fail
  refine wp_region_lit ?_
  refine sl_run rfl (.pointer (some ⟨D, 0, none⟩)) w3 (by kernel_rfl) ?_
  simp only [Act.put, List.setIfInBounds_toArray, List.set_cons_zero, List.set_cons_succ]
  refine sl_run rfl (.pointer (some ⟨D, 0, none⟩)) w3 (by kernel_rfl) ?_
  simp only [Act.put, List.setIfInBounds_toArray, List.set_cons_zero, List.set_cons_succ]
  refine sl_run rfl (.pointer (some ⟨D, 0, none⟩)) w3 (by kernel_rfl) ?_
  simp only [Act.put, List.setIfInBounds_toArray, List.set_cons_zero, List.set_cons_succ]
  refine sl_run rfl (.map (some mb)) w3 (exec_load_cell 61 w3 _ rfl ⟨D, 0, none⟩ (by kernel_rfl) _ hDw3.out.c0 (fun _ => by kernel_rfl)) ?_
  simp only [Act.put, List.setIfInBounds_toArray, List.set_cons_zero, List.set_cons_succ]
  refine sg_run (by kernel_rfl) (.pointer (some ⟨w3.heap.size, 0, none⟩)) (w3.alloc (.mapIter (some mb) since #[] since)) ?he ?_
  case he => exact exec_rangem _ rfl (.map (some mb)) _ (by kernel_rfl) (run_range_map w3 61 9 65 mb es0 since un61 hde0.heap)
  simp only [Act.put, List.setIfInBounds_toArray, List.set_cons_zero, List.set_cons_succ]
  have hM0 : MI w3 D mb since (-1) false es0 L0 := ⟨hDw3.out.row, hde0, hrw0⟩
  have hC0 : CrI w D mb w3.heap.size since keep d.L Bn #[] (w3.alloc (.mapIter (some mb) since #[] since)) := ⟨⟨es0, L0, hM0.below ((Below.refl _ _).alloc (Nat.le_refl _) _), hBn.symm, by
      rw [hL0]
      have e8 : (Bn.zip d.L).map (fun p => if (#[] : Array Nat).contains p.1 then DS.crash1 keep p.2 else p.2) = (Bn.zip d.L).map Prod.snd := List.map_congr_left fun p _ => by simp
      rw [e8, List.map_snd_zip (by omega)]⟩, heap_alloc_new _ _, hkw3.out.trans (KpS.of ((Below.refl _ _).alloc (Nat.le_refl _) _))⟩
  have hR0 : w.heap.size ≤ w3.heap.size := hkw3.out.size
  generalize (w3.alloc (.mapIter (some mb) since #[] since)) = w4 at hC0 ⊢
  obtain ⟨R, hRe⟩ : ∃ R, R = w3.heap.size := ⟨_, rfl⟩
  rw [← hRe] at hC0 hR0 ⊢
  have hCw4 : Hid (CrI w D mb R since keep d.L Bn #[] w4) := hC0
  have hRle : Hid (w.heap.size ≤ R) := hR0
  have hlenH : Hid (Bn.length = d.L.length) := hlen
  have hBne : Hid ((∀ b ∈ Bn, True)) := fun _ _ => trivial
  clear hC0 hR0 hRe hM0 hde0 hL0 hrw0 hBn hlen hDw3 hkw3 hBne
  refine wpList_nil ?_
  go_wp2_with fail
  go_loopw [21] (fun _ wr => ∃ seen : Array Nat, Hid (CrI w D mb R since keep d.L Bn seen wr)) (fun _ wr => (Bn.filter fun b => !(wr.iterSeen R).contains b).length)
  case atStart => exact ⟨#[], hCw4⟩
  case round =>
    obtain ⟨seen, hC⟩ := hrel
    clear hCw4
    obtain ⟨wo, rfl⟩ : ∃ v : World, v = wr := ⟨_, rfl⟩
    obtain ⟨es, L, hm, hb, hL⟩ := hC.out.ex
    have hmH : Hid (MI wo D mb since (-1) false es L) := hm
    have hbH : Hid (es.toList.map (·.born) = Bn) := hb
    have hLH : Hid (L.map (·.1) = (Bn.zip d.L).map fun p => if seen.contains p.1 then DS.crash1 keep p.2 else p.2) := hL
    clear hm hb hL
    go_upto_region 3 with fail
    refine wp_region_lit ?_
    rcases run_next_at (P := Try.prog) wo 0 R mb since since seen es since hC.out.it hmH.out.de.heap hmH.out.de.st.1 (Nat.le_refl _) with ⟨h0, hrun⟩ | ⟨e, he, w1, hw1, hrun⟩
    case inl =>
      have hall : ∀ b ∈ Bn, seen.contains b = true := fun b hb => by
        rw [← hbH.out] at hb
        obtain ⟨x, hx, rfl⟩ := List.mem_map.1 hb
        cases hc : seen.contains x.born with
        | true => rfl
        | false =>
          exfalso
          have hx2 : x ∈ leftOf es seen := by
            unfold leftOf
            rw [Array.mem_filter]
            exact ⟨by simpa using hx, by rw [hc]; rfl⟩
          rw [Array.eq_empty_of_size_eq_zero h0] at hx2
          simp at hx2
      have hF : Hid (DiskI wo D mb (d.crash keep) ∧ KpS (TD D mb) w wo) := And.intro (hC.out.done hlenH.out hfin.out hall) hC.out.kp
      refine sl_run rfl (.tuple #[.bool false]) wo ?he ?_
      case he => exact exec_next _ rfl _ _ (by kernel_rfl) hrun
      simp only [Act.put, List.setIfInBounds_toArray, List.set_cons_zero, List.set_cons_succ]
      clear hall h0 hrun hC hmH hbH hLH hlenH hfin hRle
      refine sl_run rfl (.bool false) wo (by kernel_rfl) ?_
      simp only [Act.put, List.setIfInBounds_toArray, List.set_cons_zero, List.set_cons_succ]
      refine wpList_nil ?_
      go_wp2_with fail
      refine bodyPost_fall (v := .tuple #[]) (by kernel_rfl) (by kernel_rfl) ?_
      exact ⟨rfl, hF.out.1, hF.out.2⟩
    case inr =>
    obtain ⟨i, f, v, hei, hsn, hBi, hFi, hLi, hkey, hval⟩ := CrI.at (w0 := w) (R := R) hmH.out hbH.out hLH.out hlenH.out he
    have hvf : ∃ A c, v = .slice A f.bs.length c := (hmH.out.rw (f, v) (List.mem_of_getElem? hLi)).form
    obtain ⟨A, c, hv0⟩ := hvf
    subst hv0
    have hfine := hfin.out f (List.mem_of_getElem? hFi)
    have hfineH : Hid (f.sure ≤ f.bs.length ∧ f.bs.length ≤ 1048576) := hfine
    have hRlt : R < wo.heap.size := (Array.getElem?_eq_some_iff.1 hC.out.it).1
    obtain ⟨hkR, hit5⟩ := kp_setBlock hw1 R (.mapIter (some mb) since (seen.push e.born) since) hRlt
    refine sg_run (by kernel_rfl) (.tuple #[.bool true, .string f.nm, .agg #[.slice A f.bs.length c, .int .i64 (f.sure : Int)]]) (Go.ChangeMaps.setBlock w1 R (.mapIter (some mb) since (seen.push e.born) since)) ?he ?_
    case he => exact (exec_next _ rfl _ _ (by kernel_rfl) hrun).trans (by rw [hkey, hval])
    simp only [Act.put, List.setIfInBounds_toArray, List.set_cons_zero, List.set_cons_succ]
    have hm5 := hmH.out.kR hC.out.it hkR
    have hk5 : KpS (TD D mb) w (Go.ChangeMaps.setBlock w1 R (.mapIter (some mb) since (seen.push e.born) since)) := kp_join hC.out.kp hkR hRle.out
    have hsz5 := hkR.size
    generalize (Go.ChangeMaps.setBlock w1 R (.mapIter (some mb) since (seen.push e.born) since)) = W5 at hm5 hk5 hit5 hsz5 ⊢
    have hmW5 : Hid (MI W5 D mb since (-1) false es L) := hm5
    have hkW5 : Hid (KpS (TD D mb) w W5) := hk5
    have hiW5 : Hid (W5.heap[R]? = some (.mapIter (some mb) since (seen.push e.born) since)) := hit5
    have hsW5 : Hid (w.heap.size ≤ W5.heap.size) := hk5.size
    have hesH : Hid (e ∈ es.toList) := List.mem_of_getElem? hei
    have hiso : Hid (wo.iterSeen R = seen) := iterSeen_at hC.out.it
    have hidx : Hid (Bn[i]? = some e.born ∧ d.L[i]? = some f ∧ L[i]? = some (f, .slice A f.bs.length c) ∧ seen.contains e.born = false) := And.intro hBi (And.intro hFi (And.intro hLi hsn))
    have hkeyH : Hid (e.key = .string f.nm ∧ e.val = .agg #[.slice A f.bs.length c, .int .i64 (f.sure : Int)]) := And.intro hkey hval
    clear hm5 hk5 hit5 hsz5 hkR hw1 hrun hfine hRlt hmH hC hei hsn hBi hFi hLi hkey hval he
    refine sl_run rfl (.bool true) W5 (by kernel_rfl) ?_
    simp only [Act.put, List.setIfInBounds_toArray, List.set_cons_zero, List.set_cons_succ]
    refine wpList_nil ?_
    go_upto_region 4 with fail
    refine wp_region_lit ?_
    refine sl_run rfl (.tuple #[.string f.nm, .agg #[.slice A f.bs.length c, .int .i64 (f.sure : Int)]]) W5 ?he ?_
    case he => exact (exec_entry _ rfl _ _ (by kernel_rfl) (run_entry_at W5 R mb since seen es since e hiW5.out hmW5.out.de.heap hesH.out hmW5.out.de.st.2.1)).trans (by rw [hkeyH.out.1, hkeyH.out.2])
    simp only [Act.put, List.setIfInBounds_toArray, List.set_cons_zero, List.set_cons_succ]
    refine sl_run rfl (.string f.nm) W5 (by kernel_rfl) ?_
    simp only [Act.put, List.setIfInBounds_toArray, List.set_cons_zero, List.set_cons_succ]
    refine sl_run rfl (.agg #[.slice A f.bs.length c, .int .i64 (f.sure : Int)]) W5 (by kernel_rfl) ?_
    simp only [Act.put, List.setIfInBounds_toArray, List.set_cons_zero, List.set_cons_succ]
    refine sg_run (by kernel_rfl) (.pointer (some ⟨W5.heap.size, 0, none⟩)) (W5.alloc (.cells #[.slice none 0 0, .int .i64 0] 65)) (by kernel_rfl) ?_
    simp only [Act.put, List.setIfInBounds_toArray, List.set_cons_zero, List.set_cons_succ]
    refine sl_run rfl (.string f.nm) (W5.alloc (.cells #[.slice none 0 0, .int .i64 0] 65)) (by kernel_rfl) ?_
    simp only [Act.put, List.setIfInBounds_toArray, List.set_cons_zero, List.set_cons_succ]
    refine sl_skipped (by kernel_rfl) ((W5.alloc (.cells #[.slice none 0 0, .int .i64 0] 65)).setRow W5.heap.size #[.slice A f.bs.length c, .int .i64 (f.sure : Int)]) ?he ?_
    case he => exact exec_store_f _ _ rfl W5.heap.size (by kernel_rfl) (.slice A f.bs.length c) (f.sure : Int) rfl (by kernel_rfl) #[.slice none 0 0, .int .i64 0] (heap_alloc_new _ _) rfl
    simp only [Act.put, List.setIfInBounds_toArray, List.set_cons_zero, List.set_cons_succ]
    have hb : Below W5.heap.size W5 ((W5.alloc (.cells #[.slice none 0 0, .int .i64 0] 65)).setRow W5.heap.size #[.slice A f.bs.length c, .int .i64 (f.sure : Int)]) := below_setRow ((Below.refl _ _).alloc (Nat.le_refl _) _) (Nat.le_refl _) _
    have hf0 : ((W5.alloc (.cells #[.slice none 0 0, .int .i64 0] 65)).setRow W5.heap.size #[.slice A f.bs.length c, .int .i64 (f.sure : Int)]).heap[W5.heap.size]? = some (.cells #[.slice A f.bs.length c, .int .i64 (f.sure : Int)] 65 (0, 0)) := setRow_heap _ _ #[.slice none 0 0, .int .i64 0] _ 65 (0, 0) (heap_alloc_new _ _)
    generalize ((W5.alloc (.cells #[.slice none 0 0, .int .i64 0] 65)).setRow W5.heap.size #[.slice A f.bs.length c, .int .i64 (f.sure : Int)]) = W6 at hb hf0 ⊢
    obtain ⟨F, hFe⟩ : ∃ F, F = W5.heap.size := ⟨_, rfl⟩
    rw [← hFe] at hf0 ⊢
    have hFW6 : Hid (W6.heap[F]? = some (.cells #[.slice A f.bs.length c, .int .i64 (f.sure : Int)] 65 (0, 0))) := hf0
    have hmW6 : Hid (MI W6 D mb since (-1) false es L) := hmW5.out.below hb
    have hkW6 : Hid (KpS (TD D mb) w W6) := hkW5.out.trans (KpS.of hb)
    have hiW6 : Hid (W6.heap[R]? = some (.mapIter (some mb) since (seen.push e.born) since)) := heap_kept hiW5.out hb
    clear hb hf0 hFe hmW5 hkW5 hiW5 hsW5 hesH hkeyH
    refine wpList_nil ?_
    obtain ⟨nn, hnn⟩ : ∃ n : Nat, n = f.sure + min (max keep 0).toNat (f.bs.length - f.sure) := ⟨_, rfl⟩
    have hnnH : Hid (nn = f.sure + min (max keep 0).toNat (f.bs.length - f.sure)) := hnn
    have hnl : nn ≤ f.bs.length := by have := hfineH.out.1; omega
    clear hnn
    go_upto_region 5 with fail
    refine wp_region_lit ?_
    refine sl_run rfl (.pointer (some ⟨F, 0, none⟩)) W6 (by kernel_rfl) ?_
    simp only [Act.put, List.setIfInBounds_toArray, List.set_cons_zero, List.set_cons_succ]
    refine sl_run rfl (.slice A f.bs.length c) W6 (exec_load_cell 30 W6 _ rfl ⟨F, 0, none⟩ (by kernel_rfl) _ (by rw [cell_of_row _ _ _ _ _ _ hFW6.out]; rfl) (fun _ => by kernel_rfl)) ?_
    simp only [Act.put, List.setIfInBounds_toArray, List.set_cons_zero, List.set_cons_succ]
    refine sl_run rfl (.int .i64 (f.bs.length : Int)) W6 (by kernel_rfl) ?_
    simp only [Act.put, List.setIfInBounds_toArray, List.set_cons_zero, List.set_cons_succ]
    refine sl_run rfl (.pointer (some ⟨F, 1, none⟩)) W6 (by kernel_rfl) ?_
    simp only [Act.put, List.setIfInBounds_toArray, List.set_cons_zero, List.set_cons_succ]
    refine sl_run rfl (.int .i64 (f.sure : Int)) W6 (exec_load_cell 3 W6 _ rfl ⟨F, 1, none⟩ (by kernel_rfl) _ (by rw [cell_of_row _ _ _ _ _ _ hFW6.out]; rfl) (fun _ => by kernel_rfl)) ?_
    simp only [Act.put, List.setIfInBounds_toArray, List.set_cons_zero, List.set_cons_succ]
    refine sl_run rfl (.int .i64 ((f.bs.length : Int) - (f.sure : Int))) W6 (exec_subI _ _ rfl (f.bs.length : Int) (f.sure : Int) (by kernel_rfl) (by kernel_rfl) (by have := hfineH.out; omega) (by have := hfineH.out; omega) W6) ?_
    simp only [Act.put, List.setIfInBounds_toArray, List.set_cons_zero, List.set_cons_succ]
    refine sl_run rfl (.int .i64 ((f.bs.length : Int) - (f.sure : Int))) W6 (by kernel_rfl) ?_
    simp only [Act.put, List.setIfInBounds_toArray, List.set_cons_zero, List.set_cons_succ]
    refine wpList_nil ?_
    go_upto_region 6 with fail
    refine wp_region_lit ?_
    refine sl_run rfl (.pointer (some ⟨F, 1, none⟩)) W6 (by kernel_rfl) ?_
    simp only [Act.put, List.setIfInBounds_toArray, List.set_cons_zero, List.set_cons_succ]
    refine sl_run rfl (.int .i64 (f.sure : Int)) W6 (exec_load_cell 3 W6 _ rfl ⟨F, 1, none⟩ (by kernel_rfl) _ (by rw [cell_of_row _ _ _ _ _ _ hFW6.out]; rfl) (fun _ => by kernel_rfl)) ?_
    simp only [Act.put, List.setIfInBounds_toArray, List.set_cons_zero, List.set_cons_succ]
    refine sl_run rfl (.int .i64 keep) W6 (by kernel_rfl) ?_
    simp only [Act.put, List.setIfInBounds_toArray, List.set_cons_zero, List.set_cons_succ]
    refine sl_run rfl (.int .i64 (max keep 0)) W6 (exec_maxI _ _ 3 rfl keep 0 (by kernel_rfl) (by kernel_rfl) W6) ?_
    simp only [Act.put, List.setIfInBounds_toArray, List.set_cons_zero, List.set_cons_succ]
    refine sl_run rfl (.int .i64 ((f.bs.length : Int) - (f.sure : Int))) W6 (by kernel_rfl) ?_
    simp only [Act.put, List.setIfInBounds_toArray, List.set_cons_zero, List.set_cons_succ]
    refine sl_run rfl (.int .i64 (min (max keep 0) ((f.bs.length : Int) - (f.sure : Int)))) W6 (exec_minI _ _ rfl (max keep 0) ((f.bs.length : Int) - (f.sure : Int)) (by kernel_rfl) (by kernel_rfl) W6) ?_
    simp only [Act.put, List.setIfInBounds_toArray, List.set_cons_zero, List.set_cons_succ]
    refine sl_run rfl (.int .i64 (nn : Int)) W6 ((exec_add2 _ _ rfl (f.sure : Int) (min (max keep 0) ((f.bs.length : Int) - (f.sure : Int))) (by kernel_rfl) (by kernel_rfl) (by have := hfineH.out; omega) (by have := hfineH.out; omega) W6).trans (by rw [show (f.sure : Int) + min (max keep 0) ((f.bs.length : Int) - (f.sure : Int)) = (nn : Int) by have := hnnH.out; have := hfineH.out; omega])) ?_
    simp only [Act.put, List.setIfInBounds_toArray, List.set_cons_zero, List.set_cons_succ]
    refine sl_run rfl (.int .i64 (nn : Int)) W6 (by kernel_rfl) ?_
    simp only [Act.put, List.setIfInBounds_toArray, List.set_cons_zero, List.set_cons_succ]
    refine wpList_nil ?_
    obtain ⟨A2, hA2⟩ : ∃ A2, A2 = (if nn = 0 then A else A.map (·.add 0)) := ⟨_, rfl⟩
    have hcr := cut_rw (hmW6.out.rw (f, .slice A f.bs.length c) (List.mem_of_getElem? hidx.out.2.2.1)) hnl
    rw [← hA2] at hcr
    have hA2H : Hid (A2 = (if nn = 0 then A else A.map (·.add 0))) := hA2
    have hcrH : Hid (Rw 1 encB W6 (.slice A2 nn nn) (f.bs.take nn)) := hcr.2
    have hmc : nn ≤ c := hcr.1
    clear hA2 hcr
    go_upto_region 7 with fail
    refine wp_normalG ?_
    refine wp_region_held_drew (S := fun w' => KpS (TD D mb) W6 w' ∧ w'.cell? ⟨D, 0, none⟩ = some (.map (some mb)) ∧ w'.heap[F]? = some (.cells #[.slice A f.bs.length c, .int .i64 (f.sure : Int)] 65 (0, 0))) (by kernel_rfl) ?hS0 (fun hS => ?_)
    case hS0 =>
      refine ⟨KpS.of (Below.refl _ _).drew, ?_, heap_kept hFW6.out (Below.refl _ _).drew⟩
      rw [(Below.refl W6.heap.size W6).drew.cell (by exact (Array.getElem?_eq_some_iff.1 hmW6.out.row).1), cell_of_row _ _ _ _ _ _ hmW6.out.row]; rfl
    change wpAnyH _ _ _ _ _ 13 (Array.replicate 13 false) _ _
    have hBy : Below W6.heap.size W6 W6.drew := (Below.refl _ _).drew
    generalize hx : W6.drew = y at hS hBy
    clear hx
    refine held_take 0 rfl (by kernel_rfl) (by kernel_rfl) (by kernel_rfl) (.pointer (some ⟨D, 0, none⟩)) (fun _ _ _ h => nomatch h.1) (by kernel_rfl) (fun w' h => (by kernel_rfl)) hS ?_
    simp only [Act.put, List.setIfInBounds_toArray, List.set_cons_zero, List.set_cons_succ, List.getElem_toArray, List.getElem_cons_succ, List.getElem_cons_zero]
    refine held_take 1 rfl (by kernel_rfl) (by kernel_rfl) (by kernel_rfl) (.pointer (some ⟨D, 0, none⟩)) (fun _ _ _ h => nomatch h.1) (by kernel_rfl) (fun w' h => (by kernel_rfl)) hS ?_
    simp only [Act.put, List.setIfInBounds_toArray, List.set_cons_zero, List.set_cons_succ, List.getElem_toArray, List.getElem_cons_succ, List.getElem_cons_zero]
    refine held_take 2 rfl (by kernel_rfl) (by kernel_rfl) (by kernel_rfl) (.pointer (some ⟨D, 0, none⟩)) (fun _ _ _ h => nomatch h.1) (by kernel_rfl) (fun w' h => (by kernel_rfl)) hS ?_
    simp only [Act.put, List.setIfInBounds_toArray, List.set_cons_zero, List.set_cons_succ, List.getElem_toArray, List.getElem_cons_succ, List.getElem_cons_zero]
    refine held_take 3 rfl (by kernel_rfl) (by kernel_rfl) (by kernel_rfl) (.map (some mb)) (fun _ _ _ h => nomatch h.1) (by kernel_rfl) (fun w' h => (exec_load_cell 61 w' _ rfl ⟨D, 0, none⟩ (by kernel_rfl) _ h.2.1 (fun _ => by kernel_rfl))) hS ?_
    simp only [Act.put, List.setIfInBounds_toArray, List.set_cons_zero, List.set_cons_succ, List.getElem_toArray, List.getElem_cons_succ, List.getElem_cons_zero]
    refine held_take 4 rfl (by kernel_rfl) (by kernel_rfl) (by kernel_rfl) (.string f.nm) (fun _ _ _ h => nomatch h.1) (by kernel_rfl) (fun w' h => (by kernel_rfl)) hS ?_
    simp only [Act.put, List.setIfInBounds_toArray, List.set_cons_zero, List.set_cons_succ, List.getElem_toArray, List.getElem_cons_succ, List.getElem_cons_zero]
    refine held_take 5 rfl (by kernel_rfl) (by kernel_rfl) (by kernel_rfl) (.pointer (some ⟨F, 0, none⟩)) (fun _ _ _ h => nomatch h.1) (by kernel_rfl) (fun w' h => (by kernel_rfl)) hS ?_
    simp only [Act.put, List.setIfInBounds_toArray, List.set_cons_zero, List.set_cons_succ, List.getElem_toArray, List.getElem_cons_succ, List.getElem_cons_zero]
    refine held_take 6 rfl (by kernel_rfl) (by kernel_rfl) (by kernel_rfl) (.slice A f.bs.length c) (fun _ _ _ h => nomatch h.1) (by kernel_rfl) (fun w' h => (exec_load_cell 30 w' _ rfl ⟨F, 0, none⟩ (by kernel_rfl) _ (by rw [cell_of_row _ _ _ _ _ _ h.2.2]; rfl) (fun _ => by kernel_rfl))) hS ?_
    simp only [Act.put, List.setIfInBounds_toArray, List.set_cons_zero, List.set_cons_succ, List.getElem_toArray, List.getElem_cons_succ, List.getElem_cons_zero]
    refine held_take 7 rfl (by kernel_rfl) (by kernel_rfl) (by kernel_rfl) (.int .i64 (nn : Int)) (fun _ _ _ h => nomatch h.1) (by kernel_rfl) (fun w' h => (by kernel_rfl)) hS ?_
    simp only [Act.put, List.setIfInBounds_toArray, List.set_cons_zero, List.set_cons_succ, List.getElem_toArray, List.getElem_cons_succ, List.getElem_cons_zero]
    refine held_take 8 rfl (by kernel_rfl) (by kernel_rfl) (by kernel_rfl) (.int .i64 (nn : Int)) (fun _ _ _ h => nomatch h.1) (by kernel_rfl) (fun w' h => (by kernel_rfl)) hS ?_
    simp only [Act.put, List.setIfInBounds_toArray, List.set_cons_zero, List.set_cons_succ, List.getElem_toArray, List.getElem_cons_succ, List.getElem_cons_zero]
    refine held_take 9 rfl (by kernel_rfl) (by kernel_rfl) (by kernel_rfl) (.slice A2 nn nn) (fun _ _ _ h => nomatch h.1) (by kernel_rfl) (fun w' h => (exec_cutS _ _ _ rfl A f.bs.length c nn (by kernel_rfl) (by kernel_rfl) (by kernel_rfl) hmc w').trans (by rw [hA2H.out])) hS ?_
    simp only [Act.put, List.setIfInBounds_toArray, List.set_cons_zero, List.set_cons_succ, List.getElem_toArray, List.getElem_cons_succ, List.getElem_cons_zero]
    refine held_take 10 rfl (by kernel_rfl) (by kernel_rfl) (by kernel_rfl) (.int .i64 (nn : Int)) (fun _ _ _ h => nomatch h.1) (by kernel_rfl) (fun w' h => (by kernel_rfl)) hS ?_
    simp only [Act.put, List.setIfInBounds_toArray, List.set_cons_zero, List.set_cons_succ, List.getElem_toArray, List.getElem_cons_succ, List.getElem_cons_zero]
    refine held_take 11 rfl (by kernel_rfl) (by kernel_rfl) (by kernel_rfl) (.agg #[.slice A2 nn nn, .int .i64 (nn : Int)]) (fun _ _ _ h => nomatch h.1) (by kernel_rfl) (fun w' h => by kernel_rfl) hS ?_
    simp only [Act.put, List.setIfInBounds_toArray, List.set_cons_zero, List.set_cons_succ, List.getElem_toArray, List.getElem_cons_succ, List.getElem_cons_zero]
    have hmy : MI y D mb since (-1) false es L := hmW6.out.below hBy
    have hlk : lk (L.map vv) f.nm = some (vv (f, .slice A f.bs.length c)).2 := lk_at hmy.de.nodup (j := i) (by rw [List.getElem?_map, hidx.out.2.2.1]; rfl)
    refine held_act 12 rfl (by kernel_rfl) (by kernel_rfl) (R := fun w' => ∃ es', DE w' mb es' since (pt (L.map vv) f.nm (.agg #[.slice A2 nn nn, .int .i64 (nn : Int)])) ∧ es'.toList.map (·.born) = es.toList.map (·.born) ∧ Only mb y w') ?he ?_
    case he => exact exec_putE _ _ _ rfl hmy.de f.nm (.agg #[.slice A2 nn nn, .int .i64 (nn : Int)]) _ hlk (by kernel_rfl) (by kernel_rfl) (by kernel_rfl)
    rintro y2 ⟨es', hde2, hbo2, hon2⟩
    have hKy : KpS (TD D mb) y y2 := KpS.only hon2 (.inr rfl)
    have hDne : D ≠ mb := fun e9 => by have h8 := hmy.row; rw [e9, hmy.de.heap] at h8; cases h8
    have hRne : R ≠ mb := fun e9 => by have h8 := heap_kept hiW6.out hBy; rw [e9, hmy.de.heap] at h8; cases h8
    have hFne : F ≠ mb := fun e9 => by have h8 := heap_kept hFW6.out hBy; rw [e9, hmy.de.heap] at h8; cases h8
    have hrwy : ∀ {v : Value} {l : List Nat}, Rw 1 encB y v l → Rw 1 encB y2 v l := fun hr => hr.kept hKy.size (fun hl q hq => hKy.block q (hr.lt hl q hq) (fun hs => by
      obtain ⟨A', c', rfl⟩ := hr.form
      obtain ⟨g9, o9, rfl, _, _, hel⟩ := hr.elem 0 (List.length_pos_iff.2 hl)
      have hg : g9 = q := by simp [Value.ownBlock] at hq; exact hq
      subst hg
      have hc := hel 0 _ rfl
      rcases hs with rfl | rfl
      · rw [cell_of_row _ _ _ _ _ _ hmy.row] at hc
        simp only [Nat.zero_mul, Nat.add_zero] at hc
        match o9, hc with
        | 0, hc => simp at hc
        | 1, hc => simp at hc
        | 2, hc => simp at hc
        | o + 3, hc => simp at hc
      · simp [World.cell?, hmy.de.heap] at hc))
    have hstep : CrI w D mb R since keep d.L Bn (seen.push e.born) y2 := CrI.step (v' := .slice A2 nn nn) hmy hbH.out hLH.out hidx.out.1 hidx.out.2.1 hidx.out.2.2.1 (by
        show Rw 1 encB y2 (.slice A2 nn nn) (f.bs.take (f.sure + min (max keep 0).toNat (f.bs.length - f.sure)))
        rw [← hnnH.out]; exact hrwy (hcrH.out.below hBy)) (by
        show DE y2 mb es' since (pt (L.map vv) f.nm (.agg #[.slice A2 nn nn, .int .i64 ((f.sure + min (max keep 0).toNat (f.bs.length - f.sure) : Nat) : Int)]))
        rw [← hnnH.out]; exact hde2) hbo2 hKy (hon2.block D hDne) ((hon2.block R hRne).trans (heap_kept hiW6.out hBy)) (hkW6.out.trans (KpS.of hBy)) (fun p hp => hrwy (hmy.rw p hp))
    have hstepH : Hid (CrI w D mb R since keep d.L Bn (seen.push e.born) y2) := hstep
    have hms : Hid ((Bn.filter fun b => !(y2.iterSeen R).contains b).length < (Bn.filter fun b => !(wo.iterSeen R).contains b).length) := by
      show _ < _
      rw [hiso.out, iterSeen_at hstep.it]
      exact filter_lt _ _ (fun x hx => by
        rw [contains_push] at hx
        cases hc : seen.contains x with
        | true => rw [hc] at hx; simp at hx
        | false => rfl) e.born (by rw [hidx.out.2.2.2]; rfl) (by rw [contains_push]; simp) Bn (List.mem_of_getElem? hidx.out.1)
    refine ⟨⟨(KpS.of hBy).trans hKy, ?_, (hon2.block F hFne).trans (heap_kept hFW6.out hBy)⟩, ?_⟩
    · rw [cell_of_row _ _ _ _ _ _ ((hon2.block D hDne).trans hmy.row)]; rfl
    simp only [Act.put, List.setIfInBounds_toArray, List.set_cons_zero, List.set_cons_succ, List.getElem_toArray, List.getElem_cons_succ, List.getElem_cons_zero]
    clear hS hBy hmy hlk hde2 hbo2 hon2 hKy hDne hRne hFne hrwy hstep hmW6 hkW6 hiW6 hFW6 hcrH hA2H hnnH hidx hiso hbH hLH hfineH
    refine wpAnyH_done (by kernel_rfl) ?_ _
    refine ⟨rfl, ?_⟩
    go_wp2_with fail
    go_roundw
    case rel => exact ⟨seen.push e.born, hstepH⟩
    case measure => exact hms.out
end Go.Proofs.Ytmdfgndjphhgnaa
