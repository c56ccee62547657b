/-
  Contracts of functions that the laws of this chapter reach, joined.
-/
import Derived.Test.YtdkaaieenbmihaaMgD
import Derived.Lib.SlBytesConst
set_option linter.unusedVariables false
set_option linter.unusedSimpArgs false
namespace Go.Proofs.Ytdkaaieenbmihaa
open Go.RowKit
theorem exec_next {o : Oper} {a : Act} {w w' : World} (x : Operand) (ho : o.op = .next x false) (u v : Value) (hx : a.eval x = u) (h : (Instr.next u false 0).run Try.prog w = .ok v w') : (execOp a.eval o).run Try.prog w = .ok (.value v) w' := by
  have h : (Instr.next u false o.type).run Try.prog w = .ok v w' := h
  unfold execOp
  simp [ho, hx, h, Result.andThen]
theorem exec_entry {o : Oper} {a : Act} {w w' : World} (x : Operand) (ho : o.op = .entry x) (u v : Value) (hx : a.eval x = u) (h : (Instr.entry u).run Try.prog w = .ok v w') : (execOp a.eval o).run Try.prog w = .ok (.value v) w' := by
  unfold execOp
  simp [ho, hx, h, Result.andThen]
theorem exec_rangem {o : Oper} {a : Act} {w w' : World} (x : Operand) (ho : o.op = .range 64 x) (u v : Value) (hx : a.eval x = u) (h : (Instr.range 64 u).run Try.prog w = .ok v w') : (execOp a.eval o).run Try.prog w = .ok (.value v) w' := by
  unfold execOp
  simp [ho, hx, h, Result.andThen]
theorem iterSeen_at {w : World} {R : Nat} {m : Option Nat} {s c : Nat} {seen : Array Nat} (h : w.heap[R]? = some (.mapIter m s seen c)) : w.iterSeen R = seen := by unfold World.iterSeen; rw [h]
theorem exec_putE {o : Oper} {a : Act} {w : World} (x y z : Operand) (ho : o.op = .mapUpdate 64 x y z) {mb clock : Nat} {es : Array MapEntry} {L : List (ByteArray × Value)} (h : DE w mb es clock L) (s : ByteArray) (v u : Value) (hl : lk L s = some u) (hx : a.eval x = .map (some mb)) (hy : a.eval y = .string s) (hz : a.eval z = v) :
    ∃ w', (execOp a.eval o).run Try.prog w = .ok .skip w' ∧ ∃ es', DE w' mb es' clock (pt L s v) ∧ es'.toList.map (·.born) = es.toList.map (·.born) ∧ Only mb w w' := by
  obtain ⟨es', w', hr, h2, h3, h4⟩ := run_putE h un61 un9 s v u hl
  refine ⟨w', ?_, es', h2, h3, h4⟩
  unfold execOp
  simp [ho, hx, hy, hz, hr, Result.andThen]
set_option maxRecDepth 100000 in
set_option maxHeartbeats 1000000 in
theorem Crash_calls {w : World} {D mb : Nat} {d : DS} (h : DiskI w D mb d) (keep : Int) (hk9 : keep < 9223372036854775808) : Calls Try.prog 21 #[.pointer (some ⟨D, 0, none⟩), .int .i64 keep] w fun e w' => e = .returned (.tuple #[]) ∧ DiskI w' D mb (d.crash keep) ∧ KpS (TD D mb) w w' := by
  have hDw : Hid (DiskI w D mb d) := h
  have hfin : Hid (∀ f ∈ d.L, f.sure ≤ f.bs.length ∧ f.bs.length ≤ 1048576) := h.fine
  clear h
  go_enter Try.func21, Try.ntmps21
  go_upto_region 1 with fail
  refine wp_region_lit ?_
  refine sl_run rfl (.pointer (some ⟨D, 0, none⟩)) w (by kernel_rfl) ?_
  simp only [Act.put, fl1, fl2, fl3]
  refine sl_run rfl (.pointer (some ⟨D, 0, none⟩)) w (by kernel_rfl) ?_
  simp only [Act.put, fl1, fl2, fl3]
  refine sl_run rfl (.pointer (some ⟨D, 0, none⟩)) w (by kernel_rfl) ?_
  simp only [Act.put, fl1, fl2, fl3]
  refine sl_run rfl (.pointer (some ⟨D, 2, none⟩)) w (by kernel_rfl) ?_
  simp only [Act.put, fl1, fl2, fl3]
  refine sl_skipped (by kernel_rfl) (w.setCell ⟨D, 2, none⟩ (.bool false)) ?he ?_
  case he => exact exec_store_cell 4 _ _ rfl D 2 (by kernel_rfl) (.bool false) (by kernel_rfl) _ hDw.out.c2 (hDw.out.fr 2) (fun w => by kernel_rfl) rfl rfl
  simp only [Act.put, fl1, fl2, fl3]
  have hDw2 : Hid (DiskI (w.setCell ⟨D, 2, none⟩ (.bool false)) D mb ⟨d.L, d.left, false⟩) := hDw.out.set2 false
  have hkw2 : Hid (KpS (TD D mb) w (w.setCell ⟨D, 2, none⟩ (.bool false))) := kpD _ _ _ _ _
  generalize (w.setCell ⟨D, 2, none⟩ (.bool false)) = w2 at hDw2 hkw2 ⊢
  clear hDw
  refine sl_run rfl (.pointer (some ⟨D, 0, none⟩)) w2 (by kernel_rfl) ?_
  simp only [Act.put, fl1, fl2, fl3]
  refine sl_run rfl (.pointer (some ⟨D, 1, none⟩)) w2 (by kernel_rfl) ?_
  simp only [Act.put, fl1, fl2, fl3]
  refine sl_skipped (by kernel_rfl) (w2.setCell ⟨D, 1, none⟩ (.int .i64 (-1))) ?he ?_
  case he => exact exec_store_cell 3 _ _ rfl D 1 (by kernel_rfl) (.int .i64 (-1)) (by kernel_rfl) _ hDw2.out.c1 (hDw2.out.fr 1) (fun w => by kernel_rfl) rfl rfl
  simp only [Act.put, fl1, fl2, fl3]
  have hDw3 : Hid (DiskI (w2.setCell ⟨D, 1, none⟩ (.int .i64 (-1))) D mb ⟨d.L, -1, false⟩) := hDw2.out.set1 (-1) (by decide) (by decide)
  have hkw3 : Hid (KpS (TD D mb) w (w2.setCell ⟨D, 1, none⟩ (.int .i64 (-1)))) := hkw2.out.trans (kpD _ _ _ _ _)
  generalize (w2.setCell ⟨D, 1, none⟩ (.int .i64 (-1))) = w3 at hDw3 hkw3 ⊢
  clear hDw2 hkw2
  refine wpList_nil ?_
  obtain ⟨L0, ⟨es0, since, hde0⟩, hL0, hrw0⟩ := hDw3.out.ex
  obtain ⟨Bn, hBn⟩ : ∃ B, B = es0.toList.map (·.born) := ⟨_, rfl⟩
  have hlen : Bn.length = d.L.length := by
    rw [hBn, List.length_map, Array.length_toList, hde0.len, List.length_map, ← hL0, List.length_map]
  go_upto_region 2 with fail
  refine wp_region_lit ?_
  refine sl_run rfl (.pointer (some ⟨D, 0, none⟩)) w3 (by kernel_rfl) ?_
  simp only [Act.put, fl1, fl2, fl3]
  refine sl_run rfl (.pointer (some ⟨D, 0, none⟩)) w3 (by kernel_rfl) ?_
  simp only [Act.put, fl1, fl2, fl3]
  refine sl_run rfl (.pointer (some ⟨D, 0, none⟩)) w3 (by kernel_rfl) ?_
  simp only [Act.put, fl1, fl2, fl3]
  refine sl_run rfl (.map (some mb)) w3 (exec_load_cell 64 w3 _ rfl ⟨D, 0, none⟩ (by kernel_rfl) _ hDw3.out.c0 (fun _ => by kernel_rfl)) ?_
  simp only [Act.put, fl1, fl2, fl3]
  refine sg_run (by kernel_rfl) (.pointer (some ⟨w3.heap.size, 0, none⟩)) (w3.alloc (.mapIter (some mb) since #[] since)) ?he ?_
  case he => exact exec_rangem _ rfl (.map (some mb)) _ (by kernel_rfl) (run_range_map w3 64 9 77 mb es0 since un61 hde0.heap)
  simp only [Act.put, fl1, fl2, fl3]
  have hM0 : MI w3 D mb since (-1) false es0 L0 := ⟨hDw3.out.row, hde0, hrw0⟩
  have hC0 : CrI w D mb w3.heap.size since keep d.L Bn #[] (w3.alloc (.mapIter (some mb) since #[] since)) := ⟨⟨es0, L0, hM0.below ((Below.refl _ _).alloc (Nat.le_refl _) _), hBn.symm, by
      rw [hL0]
      have e8 : (Bn.zip d.L).map (fun p => if (#[] : Array Nat).contains p.1 then DS.crash1 keep p.2 else p.2) = (Bn.zip d.L).map Prod.snd := List.map_congr_left fun p _ => by simp
      rw [e8, List.map_snd_zip (by omega)]⟩, heap_alloc_new _ _, hkw3.out.trans (KpS.of ((Below.refl _ _).alloc (Nat.le_refl _) _))⟩
  have hR0 : w.heap.size ≤ w3.heap.size := hkw3.out.size
  generalize (w3.alloc (.mapIter (some mb) since #[] since)) = w4 at hC0 ⊢
  obtain ⟨R, hRe⟩ : ∃ R, R = w3.heap.size := ⟨_, rfl⟩
  rw [← hRe] at hC0 hR0 ⊢
  have hCw4 : Hid (CrI w D mb R since keep d.L Bn #[] w4) := hC0
  have hRle : Hid (w.heap.size ≤ R) := hR0
  have hlenH : Hid (Bn.length = d.L.length) := hlen
  have hBne : Hid ((∀ b ∈ Bn, True)) := fun _ _ => trivial
  clear hC0 hR0 hRe hM0 hde0 hL0 hrw0 hBn hlen hDw3 hkw3 hBne
  refine wpList_nil ?_
  go_wp2_with fail
  go_loopw [21] (fun _ wr => ∃ seen : Array Nat, Hid (CrI w D mb R since keep d.L Bn seen wr)) (fun _ wr => (Bn.filter fun b => !(wr.iterSeen R).contains b).length)
  case atStart => exact ⟨#[], hCw4⟩
  case round =>
    obtain ⟨seen, hC⟩ := hrel
    clear hCw4
    obtain ⟨wo, rfl⟩ : ∃ v : World, v = wr := ⟨_, rfl⟩
    obtain ⟨es, L, hm, hb, hL⟩ := hC.out.ex
    have hmH : Hid (MI wo D mb since (-1) false es L) := hm
    have hbH : Hid (es.toList.map (·.born) = Bn) := hb
    have hLH : Hid (L.map (·.1) = (Bn.zip d.L).map fun p => if seen.contains p.1 then DS.crash1 keep p.2 else p.2) := hL
    clear hm hb hL
    go_upto_region 3 with fail
    refine wp_region_lit ?_
    rcases run_next_at (P := Try.prog) wo 0 R mb since since seen es since hC.out.it hmH.out.de.heap hmH.out.de.st.1 (Nat.le_refl _) with ⟨h0, hrun⟩ | ⟨e, he, w1, hw1, hrun⟩
    case inl =>
      have hall : ∀ b ∈ Bn, seen.contains b = true := fun b hb => by
        rw [← hbH.out] at hb
        obtain ⟨x, hx, rfl⟩ := List.mem_map.1 hb
        cases hc : seen.contains x.born with
        | true => rfl
        | false =>
          exfalso
          have hx2 : x ∈ leftOf es seen := by
            unfold leftOf
            rw [Array.mem_filter]
            exact ⟨by simpa using hx, by rw [hc]; rfl⟩
          rw [Array.eq_empty_of_size_eq_zero h0] at hx2
          simp at hx2
      have hF : Hid (DiskI wo D mb (d.crash keep) ∧ KpS (TD D mb) w wo) := And.intro (hC.out.done hlenH.out hfin.out hall) hC.out.kp
      refine sl_run rfl (.tuple #[.bool false]) wo ?he ?_
      case he => exact exec_next _ rfl _ _ (by kernel_rfl) hrun
      simp only [Act.put, fl1, fl2, fl3]
      clear hall h0 hrun hC hmH hbH hLH hlenH hfin hRle
      refine sl_run rfl (.bool false) wo (by kernel_rfl) ?_
      simp only [Act.put, fl1, fl2, fl3]
      refine wpList_nil ?_
      go_wp2_with fail
      refine bodyPost_fall (v := .tuple #[]) (by kernel_rfl) (by kernel_rfl) ?_
      exact ⟨rfl, hF.out.1, hF.out.2⟩
    case inr =>
    obtain ⟨i, f, v, hei, hsn, hBi, hFi, hLi, hkey, hval⟩ := CrI.at (w0 := w) (R := R) hmH.out hbH.out hLH.out hlenH.out he
    have hvf : ∃ A c, v = .slice A f.bs.length c := (hmH.out.rw (f, v) (List.mem_of_getElem? hLi)).form
    obtain ⟨A, c, hv0⟩ := hvf
    subst hv0
    have hfine := hfin.out f (List.mem_of_getElem? hFi)
    have hfineH : Hid (f.sure ≤ f.bs.length ∧ f.bs.length ≤ 1048576) := hfine
    have hRlt : R < wo.heap.size := (Array.getElem?_eq_some_iff.1 hC.out.it).1
    obtain ⟨hkR, hit5⟩ := kp_setBlock hw1 R (.mapIter (some mb) since (seen.push e.born) since) hRlt
    refine sg_run (by kernel_rfl) (.tuple #[.bool true, .string f.nm, .agg #[.slice A f.bs.length c, .int .i64 (f.sure : Int)]]) (Go.ChangeMaps.setBlock w1 R (.mapIter (some mb) since (seen.push e.born) since)) ?he ?_
    case he => exact (exec_next _ rfl _ _ (by kernel_rfl) hrun).trans (by rw [hkey, hval])
    simp only [Act.put, fl1, fl2, fl3]
    have hm5 := hmH.out.kR hC.out.it hkR
    have hk5 : KpS (TD D mb) w (Go.ChangeMaps.setBlock w1 R (.mapIter (some mb) since (seen.push e.born) since)) := kp_join hC.out.kp hkR hRle.out
    have hsz5 := hkR.size
    generalize (Go.ChangeMaps.setBlock w1 R (.mapIter (some mb) since (seen.push e.born) since)) = W5 at hm5 hk5 hit5 hsz5 ⊢
    have hmW5 : Hid (MI W5 D mb since (-1) false es L) := hm5
    have hkW5 : Hid (KpS (TD D mb) w W5) := hk5
    have hiW5 : Hid (W5.heap[R]? = some (.mapIter (some mb) since (seen.push e.born) since)) := hit5
    have hsW5 : Hid (w.heap.size ≤ W5.heap.size) := hk5.size
    have hesH : Hid (e ∈ es.toList) := List.mem_of_getElem? hei
    have hiso : Hid (wo.iterSeen R = seen) := iterSeen_at hC.out.it
    have hidx : Hid (Bn[i]? = some e.born ∧ d.L[i]? = some f ∧ L[i]? = some (f, .slice A f.bs.length c) ∧ seen.contains e.born = false) := And.intro hBi (And.intro hFi (And.intro hLi hsn))
    have hkeyH : Hid (e.key = .string f.nm ∧ e.val = .agg #[.slice A f.bs.length c, .int .i64 (f.sure : Int)]) := And.intro hkey hval
    clear hm5 hk5 hit5 hsz5 hkR hw1 hrun hfine hRlt hmH hC hei hsn hBi hFi hLi hkey hval he
    refine sl_run rfl (.bool true) W5 (by kernel_rfl) ?_
    simp only [Act.put, fl1, fl2, fl3]
    refine wpList_nil ?_
    go_upto_region 4 with fail
    refine wp_region_lit ?_
    refine sl_run rfl (.tuple #[.string f.nm, .agg #[.slice A f.bs.length c, .int .i64 (f.sure : Int)]]) W5 ?he ?_
    case he => exact (exec_entry _ rfl _ _ (by kernel_rfl) (run_entry_at W5 R mb since seen es since e hiW5.out hmW5.out.de.heap hesH.out hmW5.out.de.st.2.1)).trans (by rw [hkeyH.out.1, hkeyH.out.2])
    simp only [Act.put, fl1, fl2, fl3]
    refine sl_run rfl (.string f.nm) W5 (by kernel_rfl) ?_
    simp only [Act.put, fl1, fl2, fl3]
    refine sl_run rfl (.agg #[.slice A f.bs.length c, .int .i64 (f.sure : Int)]) W5 (by kernel_rfl) ?_
    simp only [Act.put, fl1, fl2, fl3]
    refine sg_run (by kernel_rfl) (.pointer (some ⟨W5.heap.size, 0, none⟩)) (W5.alloc (.cells #[.slice none 0 0, .int .i64 0] 77)) (by kernel_rfl) ?_
    simp only [Act.put, fl1, fl2, fl3]
    refine sl_run rfl (.string f.nm) (W5.alloc (.cells #[.slice none 0 0, .int .i64 0] 77)) (by kernel_rfl) ?_
    simp only [Act.put, fl1, fl2, fl3]
    refine sl_skipped (by kernel_rfl) ((W5.alloc (.cells #[.slice none 0 0, .int .i64 0] 77)).setRow W5.heap.size #[.slice A f.bs.length c, .int .i64 (f.sure : Int)]) ?he ?_
    case he => exact exec_store_f _ _ rfl W5.heap.size (by kernel_rfl) (.slice A f.bs.length c) (f.sure : Int) rfl (by kernel_rfl) #[.slice none 0 0, .int .i64 0] (heap_alloc_new _ _) rfl
    simp only [Act.put, fl1, fl2, fl3]
    have hb : Below W5.heap.size W5 ((W5.alloc (.cells #[.slice none 0 0, .int .i64 0] 77)).setRow W5.heap.size #[.slice A f.bs.length c, .int .i64 (f.sure : Int)]) := below_setRow ((Below.refl _ _).alloc (Nat.le_refl _) _) (Nat.le_refl _) _
    have hf0 : ((W5.alloc (.cells #[.slice none 0 0, .int .i64 0] 77)).setRow W5.heap.size #[.slice A f.bs.length c, .int .i64 (f.sure : Int)]).heap[W5.heap.size]? = some (.cells #[.slice A f.bs.length c, .int .i64 (f.sure : Int)] 77 (0, 0)) := setRow_heap _ _ #[.slice none 0 0, .int .i64 0] _ 77 (0, 0) (heap_alloc_new _ _)
    generalize ((W5.alloc (.cells #[.slice none 0 0, .int .i64 0] 77)).setRow W5.heap.size #[.slice A f.bs.length c, .int .i64 (f.sure : Int)]) = W6 at hb hf0 ⊢
    obtain ⟨F, hFe⟩ : ∃ F, F = W5.heap.size := ⟨_, rfl⟩
    rw [← hFe] at hf0 ⊢
    have hFW6 : Hid (W6.heap[F]? = some (.cells #[.slice A f.bs.length c, .int .i64 (f.sure : Int)] 77 (0, 0))) := hf0
    have hmW6 : Hid (MI W6 D mb since (-1) false es L) := hmW5.out.below hb
    have hkW6 : Hid (KpS (TD D mb) w W6) := hkW5.out.trans (KpS.of hb)
    have hiW6 : Hid (W6.heap[R]? = some (.mapIter (some mb) since (seen.push e.born) since)) := heap_kept hiW5.out hb
    clear hb hf0 hFe hmW5 hkW5 hiW5 hsW5 hesH hkeyH
    refine wpList_nil ?_
    obtain ⟨nn, hnn⟩ : ∃ n : Nat, n = f.sure + min (max keep 0).toNat (f.bs.length - f.sure) := ⟨_, rfl⟩
    have hnnH : Hid (nn = f.sure + min (max keep 0).toNat (f.bs.length - f.sure)) := hnn
    have hnl : nn ≤ f.bs.length := by have := hfineH.out.1; omega
    clear hnn
    go_upto_region 5 with fail
    refine wp_region_lit ?_
    refine sl_run rfl (.pointer (some ⟨F, 0, none⟩)) W6 (by kernel_rfl) ?_
    simp only [Act.put, fl1, fl2, fl3]
    refine sl_run rfl (.slice A f.bs.length c) W6 (exec_load_cell 22 W6 _ rfl ⟨F, 0, none⟩ (by kernel_rfl) _ (by rw [cell_of_row _ _ _ _ _ _ hFW6.out]; rfl) (fun _ => by kernel_rfl)) ?_
    simp only [Act.put, fl1, fl2, fl3]
    refine sl_run rfl (.int .i64 (f.bs.length : Int)) W6 (by kernel_rfl) ?_
    simp only [Act.put, fl1, fl2, fl3]
    refine sl_run rfl (.pointer (some ⟨F, 1, none⟩)) W6 (by kernel_rfl) ?_
    simp only [Act.put, fl1, fl2, fl3]
    refine sl_run rfl (.int .i64 (f.sure : Int)) W6 (exec_load_cell 3 W6 _ rfl ⟨F, 1, none⟩ (by kernel_rfl) _ (by rw [cell_of_row _ _ _ _ _ _ hFW6.out]; rfl) (fun _ => by kernel_rfl)) ?_
    simp only [Act.put, fl1, fl2, fl3]
    refine sl_run rfl (.int .i64 ((f.bs.length : Int) - (f.sure : Int))) W6 (exec_subI _ _ rfl (f.bs.length : Int) (f.sure : Int) (by kernel_rfl) (by kernel_rfl) (by have := hfineH.out; omega) (by have := hfineH.out; omega) W6) ?_
    simp only [Act.put, fl1, fl2, fl3]
    refine sl_run rfl (.int .i64 ((f.bs.length : Int) - (f.sure : Int))) W6 (by kernel_rfl) ?_
    simp only [Act.put, fl1, fl2, fl3]
    refine wpList_nil ?_
    go_upto_region 6 with fail
    refine wp_region_lit ?_
    refine sl_run rfl (.pointer (some ⟨F, 1, none⟩)) W6 (by kernel_rfl) ?_
    simp only [Act.put, fl1, fl2, fl3]
    refine sl_run rfl (.int .i64 (f.sure : Int)) W6 (exec_load_cell 3 W6 _ rfl ⟨F, 1, none⟩ (by kernel_rfl) _ (by rw [cell_of_row _ _ _ _ _ _ hFW6.out]; rfl) (fun _ => by kernel_rfl)) ?_
    simp only [Act.put, fl1, fl2, fl3]
    refine sl_run rfl (.int .i64 keep) W6 (by kernel_rfl) ?_
    simp only [Act.put, fl1, fl2, fl3]
    refine sl_run rfl (.int .i64 (max keep 0)) W6 (exec_maxI _ _ 3 rfl keep 0 (by kernel_rfl) (by kernel_rfl) W6) ?_
    simp only [Act.put, fl1, fl2, fl3]
    refine sl_run rfl (.int .i64 ((f.bs.length : Int) - (f.sure : Int))) W6 (by kernel_rfl) ?_
    simp only [Act.put, fl1, fl2, fl3]
    refine sl_run rfl (.int .i64 (min (max keep 0) ((f.bs.length : Int) - (f.sure : Int)))) W6 (exec_minI _ _ rfl (max keep 0) ((f.bs.length : Int) - (f.sure : Int)) (by kernel_rfl) (by kernel_rfl) W6) ?_
    simp only [Act.put, fl1, fl2, fl3]
    refine sl_run rfl (.int .i64 (nn : Int)) W6 ((exec_add2 _ _ rfl (f.sure : Int) (min (max keep 0) ((f.bs.length : Int) - (f.sure : Int))) (by kernel_rfl) (by kernel_rfl) (by have := hfineH.out; omega) (by have := hfineH.out; omega) W6).trans (by rw [show (f.sure : Int) + min (max keep 0) ((f.bs.length : Int) - (f.sure : Int)) = (nn : Int) by have := hnnH.out; have := hfineH.out; omega])) ?_
    simp only [Act.put, fl1, fl2, fl3]
    refine sl_run rfl (.int .i64 (nn : Int)) W6 (by kernel_rfl) ?_
    simp only [Act.put, fl1, fl2, fl3]
    refine wpList_nil ?_
    obtain ⟨A2, hA2⟩ : ∃ A2, A2 = (if nn = 0 then A else A.map (·.add 0)) := ⟨_, rfl⟩
    have hcr := cut_rw (hmW6.out.rw (f, .slice A f.bs.length c) (List.mem_of_getElem? hidx.out.2.2.1)) hnl
    rw [← hA2] at hcr
    have hA2H : Hid (A2 = (if nn = 0 then A else A.map (·.add 0))) := hA2
    have hcrH : Hid (Rw 1 encB W6 (.slice A2 nn nn) (f.bs.take nn)) := hcr.2
    have hmc : nn ≤ c := hcr.1
    clear hA2 hcr
    go_upto_region 7 with fail
    refine wp_normalG ?_
    refine wp_region_held_drew (S := fun w' => KpS (TD D mb) W6 w' ∧ w'.cell? ⟨D, 0, none⟩ = some (.map (some mb)) ∧ w'.heap[F]? = some (.cells #[.slice A f.bs.length c, .int .i64 (f.sure : Int)] 77 (0, 0))) (by kernel_rfl) ?hS0 (fun hS => ?_)
    case hS0 =>
      refine ⟨KpS.of (Below.refl _ _).drew, ?_, heap_kept hFW6.out (Below.refl _ _).drew⟩
      rw [(Below.refl W6.heap.size W6).drew.cell (by exact (Array.getElem?_eq_some_iff.1 hmW6.out.row).1), cell_of_row _ _ _ _ _ _ hmW6.out.row]; rfl
    change wpAnyH _ _ _ _ _ 13 (Array.replicate 13 false) _ _
    have hBy : Below W6.heap.size W6 W6.drew := (Below.refl _ _).drew
    generalize hx : W6.drew = y at hS hBy
    clear hx
    refine held_take 0 rfl (by kernel_rfl) (by kernel_rfl) (by kernel_rfl) (.pointer (some ⟨D, 0, none⟩)) (fun _ _ _ h => nomatch h.1) (by kernel_rfl) (fun w' h => (by kernel_rfl)) hS ?_
    simp only [Act.put, fl1, fl2, fl3, fl4, fl5, fl6]
    refine held_take 1 rfl (by kernel_rfl) (by kernel_rfl) (by kernel_rfl) (.pointer (some ⟨D, 0, none⟩)) (fun _ _ _ h => nomatch h.1) (by kernel_rfl) (fun w' h => (by kernel_rfl)) hS ?_
    simp only [Act.put, fl1, fl2, fl3, fl4, fl5, fl6]
    refine held_take 2 rfl (by kernel_rfl) (by kernel_rfl) (by kernel_rfl) (.pointer (some ⟨D, 0, none⟩)) (fun _ _ _ h => nomatch h.1) (by kernel_rfl) (fun w' h => (by kernel_rfl)) hS ?_
    simp only [Act.put, fl1, fl2, fl3, fl4, fl5, fl6]
    refine held_take 3 rfl (by kernel_rfl) (by kernel_rfl) (by kernel_rfl) (.map (some mb)) (fun _ _ _ h => nomatch h.1) (by kernel_rfl) (fun w' h => (exec_load_cell 64 w' _ rfl ⟨D, 0, none⟩ (by kernel_rfl) _ h.2.1 (fun _ => by kernel_rfl))) hS ?_
    simp only [Act.put, fl1, fl2, fl3, fl4, fl5, fl6]
    refine held_take 4 rfl (by kernel_rfl) (by kernel_rfl) (by kernel_rfl) (.string f.nm) (fun _ _ _ h => nomatch h.1) (by kernel_rfl) (fun w' h => (by kernel_rfl)) hS ?_
    simp only [Act.put, fl1, fl2, fl3, fl4, fl5, fl6]
    refine held_take 5 rfl (by kernel_rfl) (by kernel_rfl) (by kernel_rfl) (.pointer (some ⟨F, 0, none⟩)) (fun _ _ _ h => nomatch h.1) (by kernel_rfl) (fun w' h => (by kernel_rfl)) hS ?_
    simp only [Act.put, fl1, fl2, fl3, fl4, fl5, fl6]
    refine held_take 6 rfl (by kernel_rfl) (by kernel_rfl) (by kernel_rfl) (.slice A f.bs.length c) (fun _ _ _ h => nomatch h.1) (by kernel_rfl) (fun w' h => (exec_load_cell 22 w' _ rfl ⟨F, 0, none⟩ (by kernel_rfl) _ (by rw [cell_of_row _ _ _ _ _ _ h.2.2]; rfl) (fun _ => by kernel_rfl))) hS ?_
    simp only [Act.put, fl1, fl2, fl3, fl4, fl5, fl6]
    refine held_take 7 rfl (by kernel_rfl) (by kernel_rfl) (by kernel_rfl) (.int .i64 (nn : Int)) (fun _ _ _ h => nomatch h.1) (by kernel_rfl) (fun w' h => (by kernel_rfl)) hS ?_
    simp only [Act.put, fl1, fl2, fl3, fl4, fl5, fl6]
    refine held_take 8 rfl (by kernel_rfl) (by kernel_rfl) (by kernel_rfl) (.int .i64 (nn : Int)) (fun _ _ _ h => nomatch h.1) (by kernel_rfl) (fun w' h => (by kernel_rfl)) hS ?_
    simp only [Act.put, fl1, fl2, fl3, fl4, fl5, fl6]
    refine held_take 9 rfl (by kernel_rfl) (by kernel_rfl) (by kernel_rfl) (.slice A2 nn nn) (fun _ _ _ h => nomatch h.1) (by kernel_rfl) (fun w' h => (exec_cutS _ _ _ rfl A f.bs.length c nn (by kernel_rfl) (by kernel_rfl) (by kernel_rfl) hmc w').trans (by rw [hA2H.out])) hS ?_
    simp only [Act.put, fl1, fl2, fl3, fl4, fl5, fl6]
    refine held_take 10 rfl (by kernel_rfl) (by kernel_rfl) (by kernel_rfl) (.int .i64 (nn : Int)) (fun _ _ _ h => nomatch h.1) (by kernel_rfl) (fun w' h => (by kernel_rfl)) hS ?_
    simp only [Act.put, fl1, fl2, fl3, fl4, fl5, fl6]
    refine held_take 11 rfl (by kernel_rfl) (by kernel_rfl) (by kernel_rfl) (.agg #[.slice A2 nn nn, .int .i64 (nn : Int)]) (fun _ _ _ h => nomatch h.1) (by kernel_rfl) (fun w' h => by kernel_rfl) hS ?_
    simp only [Act.put, fl1, fl2, fl3, fl4, fl5, fl6]
    have hmy : MI y D mb since (-1) false es L := hmW6.out.below hBy
    have hlk : lk (L.map vv) f.nm = some (vv (f, .slice A f.bs.length c)).2 := lk_at hmy.de.nodup (j := i) (by rw [List.getElem?_map, hidx.out.2.2.1]; rfl)
    refine held_act 12 rfl (by kernel_rfl) (by kernel_rfl) (R := fun w' => ∃ es', DE w' mb es' since (pt (L.map vv) f.nm (.agg #[.slice A2 nn nn, .int .i64 (nn : Int)])) ∧ es'.toList.map (·.born) = es.toList.map (·.born) ∧ Only mb y w') ?he ?_
    case he => exact exec_putE _ _ _ rfl hmy.de f.nm (.agg #[.slice A2 nn nn, .int .i64 (nn : Int)]) _ hlk (by kernel_rfl) (by kernel_rfl) (by kernel_rfl)
    rintro y2 ⟨es', hde2, hbo2, hon2⟩
    have hKy : KpS (TD D mb) y y2 := KpS.only hon2 (.inr rfl)
    have hDne : D ≠ mb := fun e9 => by have h8 := hmy.row; rw [e9, hmy.de.heap] at h8; cases h8
    have hRne : R ≠ mb := fun e9 => by have h8 := heap_kept hiW6.out hBy; rw [e9, hmy.de.heap] at h8; cases h8
    have hFne : F ≠ mb := fun e9 => by have h8 := heap_kept hFW6.out hBy; rw [e9, hmy.de.heap] at h8; cases h8
    have hrwy : ∀ {v : Value} {l : List Nat}, Rw 1 encB y v l → Rw 1 encB y2 v l := fun hr => hr.kept hKy.size (fun hl q hq => hKy.block q (hr.lt hl q hq) (fun hs => by
      obtain ⟨A', c', rfl⟩ := hr.form
      obtain ⟨g9, o9, rfl, _, _, hel⟩ := hr.elem 0 (List.length_pos_iff.2 hl)
      have hg : g9 = q := by simp [Value.ownBlock] at hq; exact hq
      subst hg
      have hc := hel 0 _ rfl
      rcases hs with rfl | rfl
      · rw [cell_of_row _ _ _ _ _ _ hmy.row] at hc
        simp only [Nat.zero_mul, Nat.add_zero] at hc
        match o9, hc with
        | 0, hc => simp at hc
        | 1, hc => simp at hc
        | 2, hc => simp at hc
        | o + 3, hc => simp at hc
      · simp [World.cell?, hmy.de.heap] at hc))
    have hstep : CrI w D mb R since keep d.L Bn (seen.push e.born) y2 := CrI.step (v' := .slice A2 nn nn) hmy hbH.out hLH.out hidx.out.1 hidx.out.2.1 hidx.out.2.2.1 (by
        show Rw 1 encB y2 (.slice A2 nn nn) (f.bs.take (f.sure + min (max keep 0).toNat (f.bs.length - f.sure)))
        rw [← hnnH.out]; exact hrwy (hcrH.out.below hBy)) (by
        show DE y2 mb es' since (pt (L.map vv) f.nm (.agg #[.slice A2 nn nn, .int .i64 ((f.sure + min (max keep 0).toNat (f.bs.length - f.sure) : Nat) : Int)]))
        rw [← hnnH.out]; exact hde2) hbo2 hKy (hon2.block D hDne) ((hon2.block R hRne).trans (heap_kept hiW6.out hBy)) (hkW6.out.trans (KpS.of hBy)) (fun p hp => hrwy (hmy.rw p hp))
    have hstepH : Hid (CrI w D mb R since keep d.L Bn (seen.push e.born) y2) := hstep
    have hms : Hid ((Bn.filter fun b => !(y2.iterSeen R).contains b).length < (Bn.filter fun b => !(wo.iterSeen R).contains b).length) := by
      show _ < _
      rw [hiso.out, iterSeen_at hstep.it]
      exact filter_lt _ _ (fun x hx => by
        rw [contains_push] at hx
        cases hc : seen.contains x with
        | true => rw [hc] at hx; simp at hx
        | false => rfl) e.born (by rw [hidx.out.2.2.2]; rfl) (by rw [contains_push]; simp) Bn (List.mem_of_getElem? hidx.out.1)
    refine ⟨⟨(KpS.of hBy).trans hKy, ?_, (hon2.block F hFne).trans (heap_kept hFW6.out hBy)⟩, ?_⟩
    · rw [cell_of_row _ _ _ _ _ _ ((hon2.block D hDne).trans hmy.row)]; rfl
    simp only [Act.put, fl1, fl2, fl3, fl4, fl5, fl6]
    clear hS hBy hmy hlk hde2 hbo2 hon2 hKy hDne hRne hFne hrwy hstep hmW6 hkW6 hiW6 hFW6 hcrH hA2H hnnH hidx hiso hbH hLH hfineH
    refine wpAnyH_done (by kernel_rfl) ?_ _
    refine ⟨rfl, ?_⟩
    go_wp2_with fail
    go_roundw
    case rel => exact ⟨seen.push e.born, hstepH⟩
    case measure => exact hms.out
end Go.Proofs.Ytdkaaieenbmihaa
namespace Go.Proofs.Ytdkaaieenbmihaa
open Go.RowKit
open Go.Proofs.Ytdkaaieenbmihaa.Pure (nameB)
def strB (l : List Nat) : ByteArray := (l.map fun (n : Nat) => (n : Int)).foldl (fun r n => r.push (UInt8.ofNat n.toNat)) ByteArray.empty
theorem exec_convB {o : Oper} {a : Act} {w : World} (x : Operand) (ho : o.op = .convert 22 9 x) (v : Value) (l : List Nat) (hx : a.eval x = v) (hy : Rw 1 encB w v l) :
    (execOp a.eval o).run Try.prog w = .ok (.value (.string (strB l))) w := by
  have hr : (convert 22 9 v).run Try.prog w = .ok (.string (strB l)) w := by
    rcases hy with ⟨A, c, rfl, rfl, hA⟩ | ⟨g, o, c, rfl, h1, h2, h3⟩
    · rw [run_convert_bytes_string w 22 9 5 A 0 c Try.underlying22 Try.underlying5 Try.underlying9]
      cases A with
      | none => simp [Conv.bytesToString, strB]
      | some ad =>
        refine run_bytesToString w ad 0 c [] ?_
        simpa using run_loadCells_list (P := Try.prog) (w := w) ad [] (by simp)
    · rw [run_convert_bytes_string w 22 9 5 _ _ c Try.underlying22 Try.underlying5 Try.underlying9]
      refine run_bytesToString w ⟨g, o, none⟩ l.length c (l.map fun (n : Nat) => (n : Int)) ?_
      have := run_loadCells_list (P := Try.prog) (w := w) ⟨g, o, none⟩ ((l.map fun (n : Nat) => (n : Int)).map (Value.int .u8)) (fun j u hu => by
        have hj : j < l.length := by have := (List.getElem?_eq_some_iff.1 hu).1; simpa using this
        have h9 := h3 j hj 0 (.int .u8 ((l.getD j default : Nat) : Int)) rfl
        rw [Nat.mul_one, Nat.add_zero] at h9
        rw [Addr.add_mid, h9]
        simp only [List.getElem?_map, List.getElem?_eq_getElem hj, Option.map_some, Option.some.injEq] at hu
        rw [← hu]
        simp [List.getD_eq_getElem?_getD, hj])
      simpa using this
  unfold execOp
  simp [ho, hx, hr, Result.andThen]
theorem bel_kp {a w w' : World} {D mb : Nat} (h : Below a.heap.size a w) (hk : KpS (TD D mb) w w') (hD : a.heap.size ≤ D) (hm : a.heap.size ≤ mb) : Below a.heap.size a w' :=
  h.trans (hk.bel (fun q hq => by rcases hq with rfl | rfl <;> assumption) h.size)
def nA : ByteArray := ⟨#[97]⟩
def nB : ByteArray := ⟨#[98]⟩
def fS (n : ByteArray) (b : List Nat) (k : Nat) (left : Int) (off : Bool) : DS := ⟨[⟨n, b, k⟩], left, off⟩
end Go.Proofs.Ytdkaaieenbmihaa
namespace Go.Proofs.Ytdkaaieenbmihaa
open Go.RowKit
open Go.Proofs.Ytdkaaieenbmihaa.Pure (nameB)
theorem strB_data (l : List Nat) : ∀ s : ByteArray, ((l.map fun (n : Nat) => (n : Int)).foldl (fun r n => r.push (UInt8.ofNat n.toNat)) s).data.toList = s.data.toList ++ l.map UInt8.ofNat := by
  induction l with
  | nil => intro s; simp
  | cons x l ih =>
    intro s
    rw [List.map_cons, List.foldl_cons, ih]
    simp [ByteArray.push]
theorem strB_list (l : List Nat) : (strB l).data.toList = l.map UInt8.ofNat := by rw [strB, strB_data]; simp
theorem strB_app (l m : List Nat) : strB l ++ strB m = strB (l ++ m) := by
  have h : (strB l ++ strB m).data.toList = (strB (l ++ m)).data.toList := by
    rw [ByteArray.data_append, Array.toList_append, strB_list, strB_list, strB_list, List.map_append]
  have := Array.toList_inj.1 h
  exact ByteArray.ext this
theorem strB_size (l : List Nat) : (strB l).size = l.length := by
  show (strB l).data.size = _
  rw [← Array.length_toList, strB_list, List.length_map]
theorem exec_addS {o : Oper} {a : Act} (x y : Operand) (ho : o.op = .binOp .add 9 x y 9) (S T : ByteArray) (hx : a.eval x = .string S) (hy : a.eval y = .string T) (hl : S.size + T.size ≤ 1000000000) (w : World) :
    (execOp a.eval o).run Try.prog w = .ok (.value (.string (S ++ T))) w := by
  have hm : ¬ (((S.size + T.size : Nat) : Int) > IntKind.i64.max) := by
    have i1 : IntKind.i64.max = 9223372036854775807 := by kernel_rfl
    rw [i1]; omega
  have e : Op.stringOp .add S T = pure (.string (S ++ T)) := by
    unfold Op.stringOp
    exact if_neg hm
  unfold execOp
  simp only [ho, hx, hy, Sem.run_bind]
  have h2 : (binOp .add 9 (.string S) (.string T)).run Try.prog w = .ok (.string (S ++ T)) w := by
    unfold binOp
    simp only [e, Sem.run_pure]
  simp [eqGuard, h2, Result.andThen]
theorem exec_eqlS {o : Oper} {a : Act} (x y : Operand) (ho : o.op = .binOp .eql 9 x y 9) (S : ByteArray) (hx : a.eval x = .string S) (hy : a.eval y = .string S) (w : World) : (execOp a.eval o).run Try.prog w = .ok (.value (.bool true)) w := by
  unfold execOp
  simp [ho, hx, hy, eqGuard, binOp, Op.stringOp]
theorem exec_neqS {o : Oper} {a : Act} (x y : Operand) (ho : o.op = .binOp .neq 9 x y 9) (S : ByteArray) (hx : a.eval x = .string S) (hy : a.eval y = .string S) (w : World) : (execOp a.eval o).run Try.prog w = .ok (.value (.bool false)) w := by
  unfold execOp
  simp [ho, hx, hy, eqGuard, binOp, Op.stringOp]
theorem take_rw {w : World} {l : List Nat} {A : Option Addr} {n c m : Nat} (hy : Rw 1 encB w (.slice A n c) l) (hm : m ≤ l.length) : m ≤ c ∧ Rw 1 encB w (.slice (if c = 0 then A else A.map (·.add 0)) m c) (l.take m) := by
  rcases hy with ⟨A', c', h, rfl, h2⟩ | ⟨g, o, c', h, h2, h3, h4⟩
  · injection h with h5 h6 h7
    have : m = 0 := by simpa using hm
    subst this
    refine ⟨Nat.zero_le _, .inl ⟨_, c, rfl, by simp, fun e => ?_⟩⟩
    split at e
    · subst h5; subst h7; exact h2 e
    · subst h5; subst h7
      cases A with
      | none => exact h2 rfl
      | some _ => cases e
  · injection h with h5 h6 h7
    subst h5 h7
    refine ⟨by omega, .inr ⟨g, o, c, ?_, ?_, h3, fun i hi => ?_⟩⟩
    · have : (l.take m).length = m := by rw [List.length_take]; omega
      rw [this]
      congr 1
      split
      · rfl
      · rw [Option.map_some, Addr.add_mid, Nat.add_zero]
    · rw [List.length_take]; omega
    · have hi2 : i < m := by rw [List.length_take] at hi; omega
      have h8 := h4 i (by omega)
      have e : (l.take m).getD i default = l.getD i default := by simp [List.getD_eq_getElem?_getD, List.getElem?_take, hi2]
      rw [e]; exact h8
def nF : ByteArray := ⟨#[102]⟩
def nG : ByteArray := ⟨#[103]⟩
end Go.Proofs.Ytdkaaieenbmihaa
namespace Go.Proofs.Ytdkaaieenbmihaa.PA
open Go.RowKit Go.Proofs.YtdkaaieenbmihaaW.PrintWords Go.Proofs.YtdkaaieenbmihaaW.PrintLast Go.Proofs.YtdkaaieenbmihaaW.PrintMore
attribute [local go_sem] max2_int min2_int max_two min_two max_three min_three max_four min_four   -- for this text's walks alone

/-! ### wal_put: function 24 -/
def wal_put.l0 : Nat → List Int → Int → Int → Int → Int → Option (List Int)
  | 0, _, _, _, _, _ => none
  | k + 1, x0, x1, x2, x8, x9 => if x9 < x8 then (if 0 ≤ (wrap64 (8 * (wrap64 ((wrap64 (x2 - 1)) - x9)))) then (if x0.length < 140737488355328 then (wal_put.l0 k (x0 ++ [(shr .u64 x1 (wrap64 (8 * (wrap64 ((wrap64 (x2 - 1)) - x9))))) % 256]) x1 x2 x8 (wrap64 (x9 + 1))) else (none)) else (none)) else (some x0)
def wal_put.f (k : Nat) (l0 : List Int) (a1 : Int) (a2 : Int) : Option (List Int) := wal_put.l0 k l0 a1 a2 a2 0
theorem wal_put.mono_l : ∀ k, (∀ y0 y1 y2 y3 y4, LeO (wal_put.l0 k y0 y1 y2 y3 y4) (wal_put.l0 (k + 1) y0 y1 y2 y3 y4))
  | 0 => fun _ _ _ _ _ r h => by simp [wal_put.l0] at h
  | k + 1 => by
    have ih0 := wal_put.mono_l k
    · intro y0 y1 y2 y3 y4
      unfold wal_put.l0
      repeat' first
      | (with_reducible exact ih0 _ _ _ _ _)
      | (with_reducible exact LeO.refl _)
      | (with_reducible exact LeO.none _)
      | (with_reducible refine LeO.ite ?_ ?_)
      | (with_reducible refine LeO.bind ?_ (fun _ => ?_))
      | exact ih0 _ _ _ _ _
      | exact LeO.none _
      | refine LeO.ite ?_ ?_
      | refine LeO.bind ?_ (fun _ => ?_)
theorem wal_put.mono : ∀ a0 a1 a2 k, LeO (wal_put.f k a0 a1 a2) (wal_put.f (k + 1) a0 a1 a2) := by
  intro a0 a1 a2 k
  have ih0 := wal_put.mono_l k
  unfold wal_put.f
  repeat' first
      | (with_reducible exact ih0 _ _ _ _ _)
      | (with_reducible exact LeO.refl _)
      | (with_reducible exact LeO.none _)
      | (with_reducible refine LeO.ite ?_ ?_)
      | (with_reducible refine LeO.bind ?_ (fun _ => ?_))
      | exact ih0 _ _ _ _ _
      | exact LeO.none _
      | refine LeO.ite ?_ ?_
      | refine LeO.bind ?_ (fun _ => ?_)
set_option maxHeartbeats 8000000 in
set_option maxRecDepth 100000 in
theorem wal_put.calls (k : Nat) (P0_ : Nat → Prop) (u9000_ : Value) (l0 : List Int) (a1 : Int) (a2 : Int) (r : List Int) (w0 w : World) (hB : Below w0.heap.size w0 w) (ho0 : Kd.R (Kd.int .u8) 5 w w0.heap.size P0_ u9000_ l0) (h : wal_put.f k l0 a1 a2 = some r) :
    Calls Try.prog 24 #[u9000_, .int .u64 a1, .int .i64 a2] w fun e w' => ∃ v0_ : Value, e = .returned (v0_) ∧ Kd.R (Kd.int .u8) 5 w' w0.heap.size (fun k_ => (P0_ k_ ∨ w.heap.size ≤ k_)) v0_ r ∧ Below w0.heap.size w0 w' ∧ Kept w w' (fun k_ => P0_ k_) := by
  have HO0 := Aside0.mk (show Kd.R (Kd.int .u8) 5 w w0.heap.size (fun k_ => (P0_ k_ ∨ w.heap.size ≤ k_)) u9000_ l0 from Kd.R_mono ho0 (fun k_ hk => (.inl hk)))
  have HK := Aside0.mk (Kept.refl w (fun k_ => P0_ k_))
  have HW0 := Aside0.mk hB.size
  have HB := Aside0.mk hB
  clear hB
  have H : (wal_put.l0 k l0 a1 a2 a2 0) = some r := h
  clear h
  have H' := Aside0.mk H
  clear H
  go_enter Try.func24, Try.ntmps24
  go_wp2
  go_loopg [0, 9] k (fun kq v0 v9 w' => ∃ (x0_1 : List Int) (x9_1 : Int), v9 = .int .i64 x9_1 ∧ Aside0 (wal_put.l0 kq x0_1 a1 a2 a2 x9_1 = some r) ∧ Aside0 (kq ≤ k) ∧ Aside0 (Kd.R (Kd.int .u8) 5 w' w0.heap.size (fun k_ => (P0_ k_ ∨ w.heap.size ≤ k_)) v0 x0_1) ∧ Aside0 (Kept w w' (fun k_ => P0_ k_)) ∧ Aside0 (Below w0.heap.size w0 w'))
  case atStart => exact ⟨(l0), (0), (by first | rfl | (simp; done) | (simp [*]; done)), H', ⟨Nat.le_refl _⟩, ⟨by (with_reducible repeat (first | apply Kd.R_alloc | apply Kd.R_drewN | apply Kd.R_drew)); exact HO0.out⟩, ⟨by repeat (first | (with_reducible first | exact HK.out | apply Kept.alloc | apply Kept.drewN | apply Kept.drew) | exact HK.out)⟩, ⟨by repeat (first | (with_reducible first | exact HB.out | apply below_alloc | apply pw_below_drewN | apply below_drew1) | exact HB.out)⟩⟩
  case round =>
    clear H'
    try clear c2
    try clear p2
    obtain ⟨x0_1, x9_1, rfl, HA, HK1, HO_0, HK, HB⟩ := hrel
    cases gk with
    | zero => exact absurd HA.out (by simp [wal_put.l0])
    | succ k1 =>
      have H := HA.out
      clear HA
      simp only [wal_put.l0] at H
      by_cases c4 : x9_1 < a2
      · rw [if_pos c4] at H
        have c4b0 : decide (x9_1 < a2) = true := decide_eq_true c4
        clear c4
        obtain ⟨ji5, hji5⟩ : ∃ j_ : Int, (wrap64 (8 * (wrap64 ((wrap64 (a2 - 1)) - x9_1)))) = j_ := ⟨_, rfl⟩
        replace H : (if 0 ≤ (ji5) then (if x0_1.length < 140737488355328 then (wal_put.l0 k1 (x0_1 ++ [(shr .u64 a1 (ji5)) % 256]) a1 a2 a2 (wrap64 (x9_1 + 1))) else (none)) else (none)) = some r := by first | (rw [hji5] at H; exact H) | (simp only [hji5] at H ⊢; exact H)
        have hji5w : (IntKind.i64.wrap (8 * (wrap64 ((wrap64 (a2 - 1)) - x9_1)))) = ji5 := (i64_w _).trans hji5
        by_cases c6 : 0 ≤ (ji5)
        · rw [if_pos c6] at H
          have c6b0 := eq_true c6
          have c6b1 : decide (0 ≤ (ji5)) = true := decide_eq_true c6
          clear c6
          obtain ⟨ji7, hji7⟩ : ∃ j_ : Int, (shr .u64 a1 (ji5)) = j_ := ⟨_, rfl⟩
          replace H : (if x0_1.length < 140737488355328 then (wal_put.l0 k1 (x0_1 ++ [(ji7) % 256]) a1 a2 a2 (wrap64 (x9_1 + 1))) else (none)) = some r := by first | (rw [hji7] at H; exact H) | (simp only [hji7] at H ⊢; exact H)
          have hji7_ : (a1 / 2 ^ min (ji5).toNat 64) = ji7 := hji7
          have hji7z : (ji5) ≤ 64 → (a1 / 2 ^ (ji5).toNat) = ji7 := shr_small hji7
          by_cases c8 : x0_1.length < 140737488355328
          · rw [if_pos c8] at H
            have LMc8 := Aside0.mk c8
            clear c8
            obtain ⟨y101, hy101⟩ : ∃ y_ : List Int, y_ = (x0_1 ++ [(ji7) % 256]) := ⟨_, rfl⟩
            replace H : (wal_put.l0 k1 y101 a1 a2 a2 (wrap64 (x9_1 + 1))) = some r := by first | (rw [hy101]; with_reducible exact H) | (have H2_ := (Option.bind_some _ _).symm.trans H; rw [hy101]; with_reducible exact H2_) | (have H2_ := (Option.bind_some _ _).symm.trans H; with_reducible exact H2_) | with_reducible exact H | (rw [hy101]; exact H) | exact H
            have Ny101 := Aside0.mk hy101
            clear hy101
            have H' := Aside0.mk H
            clear H
            go_wp2_with (first | ((with_reducible refine gate_builtin (b := .append) (xs := #[.tmp 12, .tmp 21]) rfl ?_); at_builtin; refine Kd.R_append (Kd.int .u8) (w0 := w0) w0.heap.size rfl (.tmp 12) (.tmp 21) 22 5 (.int .u8 0) 1 rfl Try.underlying22 info5 rfl (by decide) (by omega) u0 x0_1 ((ji7) % 256) [.int .u8 ((ji7) % 256)] (fun k_ => (P0_ k_ ∨ w.heap.size ≤ k_)) (fun _ => False) rfl rfl ?aP (fun _ hk => hk.elim) ?aF ?aO ?aB ?aS ?aL ?_; (case aP => exact rfl); (case aB => exact (by repeat (first | (with_reducible first | exact HB.out | apply below_alloc | apply pw_below_drewN | apply below_drew1) | exact HB.out))); (case aF => exact (fun k_ hk => (.inr (Nat.le_trans (by first | exact HK.out.1 | exact (show Kept w _ (fun k_ => P0_ k_) from by repeat (first | (with_reducible first | exact HK.out | apply Kept.alloc | apply Kept.drewN | apply Kept.drew) | exact HK.out)).1) hk)))); (case aO => exact (by (with_reducible repeat (first | apply Kd.R_alloc | apply Kd.R_drewN | apply Kd.R_drew)); exact HO_0.out)); (case aS => exact (below_size (by repeat (first | (with_reducible first | exact HB.out | apply below_alloc | apply pw_below_drewN | apply below_drew1) | exact HB.out)))); (case aL => have := LMc8.out; omega); intro v102 w9 ho hb hg hat; rw [← Ny101.out] at ho; have n0_ := Aside0.mk (hb); have n1_ := Aside0.mk (Kept.of_grown (S := (fun k_ => P0_ k_)) hg (by repeat (first | (with_reducible first | exact HK.out | apply Kept.alloc | apply Kept.drewN | apply Kept.drew) | exact HK.out)) (fun k_ e_ => (HO_0.out.1 k_ e_))); have n2_ := Aside0.mk (ho); clear HB; clear HK; clear HO_0; have HB := n0_; have HK := n1_; have HO103 := n2_; clear n0_ n1_ n2_; clear ho hb hg hat))
            go_roundg k1
            case measure => have := HK1.out; omega
            case rel => exact ⟨(y101), (wrap64 (x9_1 + 1)), (by first | rfl | (simp; done) | (simp [*]; done)), H', ⟨by have := HK1.out; omega⟩, ⟨by (with_reducible repeat (first | apply Kd.R_alloc | apply Kd.R_drewN | apply Kd.R_drew)); exact HO103.out⟩, ⟨by repeat (first | (with_reducible first | exact HK.out | apply Kept.alloc | apply Kept.drewN | apply Kept.drew) | exact HK.out)⟩, ⟨by repeat (first | (with_reducible first | exact HB.out | apply below_alloc | apply pw_below_drewN | apply below_drew1) | exact HB.out)⟩⟩
          · rw [if_neg c8] at H
            exact absurd H (by simp)
        · rw [if_neg c6] at H
          exact absurd H (by simp)
      · rw [if_neg c4] at H
        have c4b0 : decide (x9_1 < a2) = false := decide_eq_false c4
        clear c4
        obtain rfl := Option.some.inj H
        go_wp2
        go_ret
        exact ⟨_, by first | rfl | (simp [errW_none, errW_some] <;> rfl) | (simp [*, errW_none, errW_some] <;> rfl), by (with_reducible repeat (first | apply Kd.R_alloc | apply Kd.R_drewN | apply Kd.R_drew)); exact HO_0.out, by repeat (first | (with_reducible first | exact HB.out | apply below_alloc | apply pw_below_drewN | apply below_drew1) | exact HB.out), by repeat (first | (with_reducible first | exact HK.out | apply Kept.alloc | apply Kept.drewN | apply Kept.drew) | exact HK.out)⟩

end Go.Proofs.Ytdkaaieenbmihaa.PA
namespace Go.Proofs.Ytdkaaieenbmihaa.PA
open Go.RowKit Go.Proofs.YtdkaaieenbmihaaW.PrintWords Go.Proofs.YtdkaaieenbmihaaW.PrintLast Go.Proofs.YtdkaaieenbmihaaW.PrintMore
attribute [local go_sem] max2_int min2_int max_two min_two max_three min_three max_four min_four   -- for this text's walks alone

/-! ### bytes_Equal: function 30 -/
def bytes_Equal.f (l0 : List Int) (l1 : List Int) : Option (Bool) := some ((strOfNums l0).toList == (strOfNums l1).toList)
set_option maxHeartbeats 8000000 in
set_option maxRecDepth 100000 in
theorem bytes_Equal.calls (A0 : Option Addr) (c0 : Nat) (l0 : List Int) (A1 : Option Addr) (c1 : Nat) (l1 : List Int) (r : Bool) (w : World) (hr0 : Kd.C (Kd.int .u8) w A0 l0.length l0) (hc0 : l0.length ≤ c0) (hr1 : Kd.C (Kd.int .u8) w A1 l1.length l1) (hc1 : l1.length ≤ c1) (h : bytes_Equal.f l0 l1 = some r) :
    Calls Try.prog 30 #[.slice A0 l0.length c0, .slice A1 l1.length c1] w fun e w' => e = .returned (.bool r) ∧ Drawn0 w w' := by
  have HR0 := Aside0.mk hr0
  have HC0 := Aside0.mk hc0
  clear hr0 hc0
  have HR1 := Aside0.mk hr1
  have HC1 := Aside0.mk hc1
  clear hr1 hc1
  have H : (some ((strOfNums l0).toList == (strOfNums l1).toList)) = some r := h
  clear h
  obtain rfl := Option.some.inj H
  have hcv3 := Kd.C_string (P := Try.prog) (A := A0) (c := c0) Try.underlying22 Try.underlying5 Try.underlying9 HR0.out
  have hcv4 := Kd.C_string (P := Try.prog) (A := A1) (c := c1) Try.underlying22 Try.underlying5 Try.underlying9 HR1.out
  go_enter Try.func30, Try.ntmps30
  go_wp2
  go_ret
  exact ⟨by first | rfl | (simp; done) | (simp [*]; done) | (simp only [bne_nil_, beq_nil_]; done) | (simp [bne_nil_, beq_nil_]; done) | (simp_all [bne_nil_, beq_nil_]; done), by repeat (first | exact Drawn0.refl _ | apply Drawn0.step)⟩

-- NOT PRINTED: function 31 (slices_Clone_byte_byte)

-- NOT PRINTED: function 12 (wal_Scan)

end Go.Proofs.Ytdkaaieenbmihaa.PA
namespace Go.Proofs.Ytdkaaieenbmihaa.PA
open Go.RowKit Go.Proofs.YtdkaaieenbmihaaW.PrintWords Go.Proofs.YtdkaaieenbmihaaW.PrintLast Go.Proofs.YtdkaaieenbmihaaW.PrintMore
attribute [local go_sem] max2_int min2_int max_two min_two max_three min_three max_four min_four   -- for this text's walks alone

/-! ### mandateref18_Number: function 27 -/
def mandateref18_Number.l0 : Nat → Int → List Int → Int → Option (List Int)
  | 0, _, _, _ => none
  | k + 1, x0, x5, x6 => if x6 ≥ 0 then (if 0 ≤ (IntKind.u64.wrap (wrap64 (8 * x6))) then (if x5.length < 140737488355328 then (mandateref18_Number.l0 k x0 (x5 ++ [(shr .u64 x0 (IntKind.u64.wrap (wrap64 (8 * x6)))) % 256]) (wrap64 (x6 - 1))) else (none)) else (none)) else (some x5)
def mandateref18_Number.f (k : Nat) (a0 : Int) (a1 : Int) : Option (List Int) := mandateref18_Number.l0 k a0 ([] : List Int) (wrap64 (a1 - 1))
theorem mandateref18_Number.mono_l : ∀ k, (∀ y0 y1 y2, LeO (mandateref18_Number.l0 k y0 y1 y2) (mandateref18_Number.l0 (k + 1) y0 y1 y2))
  | 0 => fun _ _ _ r h => by simp [mandateref18_Number.l0] at h
  | k + 1 => by
    have ih0 := mandateref18_Number.mono_l k
    · intro y0 y1 y2
      unfold mandateref18_Number.l0
      repeat' first
      | (with_reducible exact ih0 _ _ _)
      | (with_reducible exact LeO.refl _)
      | (with_reducible exact LeO.none _)
      | (with_reducible refine LeO.ite ?_ ?_)
      | (with_reducible refine LeO.bind ?_ (fun _ => ?_))
      | exact ih0 _ _ _
      | exact LeO.none _
      | refine LeO.ite ?_ ?_
      | refine LeO.bind ?_ (fun _ => ?_)
theorem mandateref18_Number.mono : ∀ a0 a1 k, LeO (mandateref18_Number.f k a0 a1) (mandateref18_Number.f (k + 1) a0 a1) := by
  intro a0 a1 k
  have ih0 := mandateref18_Number.mono_l k
  unfold mandateref18_Number.f
  repeat' first
      | (with_reducible exact ih0 _ _ _)
      | (with_reducible exact LeO.refl _)
      | (with_reducible exact LeO.none _)
      | (with_reducible refine LeO.ite ?_ ?_)
      | (with_reducible refine LeO.bind ?_ (fun _ => ?_))
      | exact ih0 _ _ _
      | exact LeO.none _
      | refine LeO.ite ?_ ?_
      | refine LeO.bind ?_ (fun _ => ?_)
set_option maxHeartbeats 8000000 in
set_option maxRecDepth 100000 in
theorem mandateref18_Number.calls (k : Nat) (a0 : Int) (a1 : Int) (r : List Int) (w : World) (h : mandateref18_Number.f k a0 a1 = some r) :
    Calls Try.prog 27 #[.int .u64 a0, .int .i64 a1] w fun e w' => ∃ v0_ : Value, e = .returned (v0_) ∧ Kd.R (Kd.int .u8) 5 w' w.heap.size (fun _ => True) v0_ r ∧ Below w.heap.size w w' := by
  have HB := Aside0.mk (Below.refl w.heap.size w)
  have H : (mandateref18_Number.l0 k a0 ([] : List Int) (wrap64 (a1 - 1))) = some r := h
  clear h
  have H' := Aside0.mk H
  clear H
  go_enter Try.func27, Try.ntmps27
  go_wp2
  go_loopg [5, 6] k (fun kq v5 v6 w' => ∃ (x5_1 : List Int) (x6_1 : Int), v6 = .int .i64 x6_1 ∧ Aside0 (mandateref18_Number.l0 kq a0 x5_1 x6_1 = some r) ∧ Aside0 (kq ≤ k) ∧ Aside0 (Kd.R (Kd.int .u8) 5 w' w.heap.size (fun _ => True) v5 x5_1) ∧ Aside0 (Below w.heap.size w w'))
  case atStart => exact ⟨(([] : List Int)), (wrap64 (a1 - 1)), (by first | rfl | (simp; done) | (simp [*]; done)), H', ⟨Nat.le_refl _⟩, ⟨by first | exact Kd.R_nil _ _ _ _ _ | exact Kd.N_nil _ _ _ _ _ | exact Kd.V_nil _ _ _ _ _ | exact Kd.Q_nil _ _ _ _ _ | exact Kd.S_nil _ _ _ _ _⟩, ⟨by repeat (first | (with_reducible first | exact HB.out | apply below_alloc | apply pw_below_drewN | apply below_drew1) | exact HB.out)⟩⟩
  case round =>
    clear H'
    try clear c2
    try clear p2
    obtain ⟨x5_1, x6_1, rfl, HA, HK1, HO_5, HB⟩ := hrel
    cases gk with
    | zero => exact absurd HA.out (by simp [mandateref18_Number.l0])
    | succ k1 =>
      have H := HA.out
      clear HA
      simp only [mandateref18_Number.l0] at H
      by_cases c3 : x6_1 ≥ 0
      · rw [if_pos c3] at H
        have c3b0 : decide (0 ≤ x6_1) = true := decide_eq_true c3
        clear c3
        obtain ⟨ji4, hji4⟩ : ∃ j_ : Int, (IntKind.u64.wrap (wrap64 (8 * x6_1))) = j_ := ⟨_, rfl⟩
        replace H : (if 0 ≤ (ji4) then (if x5_1.length < 140737488355328 then (mandateref18_Number.l0 k1 a0 (x5_1 ++ [(shr .u64 a0 (ji4)) % 256]) (wrap64 (x6_1 - 1))) else (none)) else (none)) = some r := by first | (rw [hji4] at H; exact H) | (simp only [hji4] at H ⊢; exact H)
        by_cases c5 : 0 ≤ (ji4)
        · rw [if_pos c5] at H
          have c5b0 := eq_true c5
          have c5b1 : decide (0 ≤ (ji4)) = true := decide_eq_true c5
          clear c5
          obtain ⟨ji6, hji6⟩ : ∃ j_ : Int, (shr .u64 a0 (ji4)) = j_ := ⟨_, rfl⟩
          replace H : (if x5_1.length < 140737488355328 then (mandateref18_Number.l0 k1 a0 (x5_1 ++ [(ji6) % 256]) (wrap64 (x6_1 - 1))) else (none)) = some r := by first | (rw [hji6] at H; exact H) | (simp only [hji6] at H ⊢; exact H)
          have hji6_ : (a0 / 2 ^ min (ji4).toNat 64) = ji6 := hji6
          have hji6z : (ji4) ≤ 64 → (a0 / 2 ^ (ji4).toNat) = ji6 := shr_small hji6
          by_cases c7 : x5_1.length < 140737488355328
          · rw [if_pos c7] at H
            have LMc7 := Aside0.mk c7
            clear c7
            obtain ⟨y124, hy124⟩ : ∃ y_ : List Int, y_ = (x5_1 ++ [(ji6) % 256]) := ⟨_, rfl⟩
            replace H : (mandateref18_Number.l0 k1 a0 y124 (wrap64 (x6_1 - 1))) = some r := by first | (rw [hy124]; with_reducible exact H) | (have H2_ := (Option.bind_some _ _).symm.trans H; rw [hy124]; with_reducible exact H2_) | (have H2_ := (Option.bind_some _ _).symm.trans H; with_reducible exact H2_) | with_reducible exact H | (rw [hy124]; exact H) | exact H
            have Ny124 := Aside0.mk hy124
            clear hy124
            have H' := Aside0.mk H
            clear H
            go_wp2_with (first | ((with_reducible refine gate_builtin (b := .append) (xs := #[.tmp 13, .tmp 20]) rfl ?_); at_builtin; refine Kd.R_append (Kd.int .u8) (w0 := w) w.heap.size rfl (.tmp 13) (.tmp 20) 22 5 (.int .u8 0) 1 rfl Try.underlying22 info5 rfl (by decide) (by omega) u5 x5_1 ((ji6) % 256) [.int .u8 ((ji6) % 256)] (fun _ => True) (fun _ => False) rfl rfl ?aP (fun _ hk => hk.elim) ?aF ?aO ?aB ?aS ?aL ?_; (case aP => exact rfl); (case aB => exact (by repeat (first | (with_reducible first | exact HB.out | apply below_alloc | apply pw_below_drewN | apply below_drew1) | exact HB.out))); (case aF => exact (fun _ _ => trivial)); (case aO => exact (by (with_reducible repeat (first | apply Kd.R_alloc | apply Kd.R_drewN | apply Kd.R_drew)); exact HO_5.out)); (case aS => exact (below_size (by repeat (first | (with_reducible first | exact HB.out | apply below_alloc | apply pw_below_drewN | apply below_drew1) | exact HB.out)))); (case aL => have := LMc7.out; omega); intro v125 w8 ho hb hg hat; rw [← Ny124.out] at ho; have n0_ := Aside0.mk (hb); have n1_ := Aside0.mk (ho); clear HB; clear HO_5; have HB := n0_; have HO126 := n1_; clear n0_ n1_; clear ho hb hg hat))
            go_roundg k1
            case measure => have := HK1.out; omega
            case rel => exact ⟨(y124), (wrap64 (x6_1 - 1)), (by first | rfl | (simp; done) | (simp [*]; done)), H', ⟨by have := HK1.out; omega⟩, ⟨by (with_reducible repeat (first | apply Kd.R_alloc | apply Kd.R_drewN | apply Kd.R_drew)); exact HO126.out⟩, ⟨by repeat (first | (with_reducible first | exact HB.out | apply below_alloc | apply pw_below_drewN | apply below_drew1) | exact HB.out)⟩⟩
          · rw [if_neg c7] at H
            exact absurd H (by simp)
        · rw [if_neg c5] at H
          exact absurd H (by simp)
      · rw [if_neg c3] at H
        have c3b0 : decide (0 ≤ x6_1) = false := decide_eq_false c3
        clear c3
        obtain rfl := Option.some.inj H
        go_wp2
        go_ret
        exact ⟨_, by first | rfl | (simp [errW_none, errW_some] <;> rfl) | (simp [*, errW_none, errW_some] <;> rfl), by (with_reducible repeat (first | apply Kd.R_alloc | apply Kd.R_drewN | apply Kd.R_drew)); exact HO_5.out, by repeat (first | (with_reducible first | exact HB.out | apply below_alloc | apply pw_below_drewN | apply below_drew1) | exact HB.out)⟩

end Go.Proofs.Ytdkaaieenbmihaa.PA
