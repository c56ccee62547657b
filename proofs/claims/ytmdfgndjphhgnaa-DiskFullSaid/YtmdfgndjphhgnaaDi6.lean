/-
  Rename, Read, Cut of a disk.
-/
import Derived.Test.YtmdfgndjphhgnaaDi5
import Derived.Test.YtmdfgndjphhgnaaDiNames
namespace Go.Proofs.Ytmdfgndjphhgnaa
open Go.RowKit
set_option linter.unusedVariables false
set_option linter.unusedSimpArgs false
open Go.Proofs.Ytmdfgndjphhgnaa.Pure (nameB)
set_option maxRecDepth 100000 in
theorem Rename_calls {w : World} {D mb : Nat} {d : DS} (h : DiskI w D mb d) (s t : ByteArray) : Calls Try.prog 16 #[.pointer (some ⟨D, 0, none⟩), .string s, .string t] w fun e w' => e = .returned (.int .i64 ((d.ren nameB s t).2 : Int)) ∧ DiskI w' D mb (d.ren nameB s t).1 ∧ KpS (TD D mb) w w' := by
  have hDw : Hid (DiskI w D mb d) := h
  obtain ⟨d1, ee, hd1⟩ : ∃ p q, d.ren nameB s t = (p, q) := ⟨_, _, rfl⟩
  rw [hd1]
  have hd1H : Hid (d.ren nameB s t = (d1, ee)) := hd1
  obtain ⟨bs, su, er, hf⟩ : ∃ p q r, d.findS s = (p, q, r) := ⟨_, _, _, rfl⟩
  have hfS : Hid (d.findS s = (bs, su, er)) := hf
  clear h hd1 hf
  go_enter Try.func16, Try.ntmps16
  go_upto_region 1 with fail
  have h0Bd : (((w.alloc (.cells #[.pointer (some ⟨D, 0, none⟩)] 23)).alloc (.cells #[.string s] 9)).alloc (.cells #[.string t] 9)).heap[w.heap.size]? = some (.cells #[.pointer (some ⟨D, 0, none⟩)] 23 (0, 0)) := (heap_kept (heap_kept (heap_at w _ w.heap.size rfl) ((Below.refl _ _).alloc (Nat.le_refl _) _)) ((Below.refl _ _).alloc (Nat.le_refl _) _))
  have h0Bn : (((w.alloc (.cells #[.pointer (some ⟨D, 0, none⟩)] 23)).alloc (.cells #[.string s] 9)).alloc (.cells #[.string t] 9)).heap[(w.heap.size + 1)]? = some (.cells #[.string s] 9 (0, 0)) := (heap_kept (heap_at (w.alloc (.cells #[.pointer (some ⟨D, 0, none⟩)] 23)) _ (w.heap.size + 1) (by rw [size_al])) ((Below.refl _ _).alloc (Nat.le_refl _) _))
  have h0Bt : (((w.alloc (.cells #[.pointer (some ⟨D, 0, none⟩)] 23)).alloc (.cells #[.string s] 9)).alloc (.cells #[.string t] 9)).heap[(w.heap.size + 2)]? = some (.cells #[.string t] 9 (0, 0)) := (heap_at ((w.alloc (.cells #[.pointer (some ⟨D, 0, none⟩)] 23)).alloc (.cells #[.string s] 9)) _ (w.heap.size + 2) (by rw [size_al, size_al]))
  have hB0 : Below w.heap.size w (((w.alloc (.cells #[.pointer (some ⟨D, 0, none⟩)] 23)).alloc (.cells #[.string s] 9)).alloc (.cells #[.string t] 9)) := ((((Below.refl _ _).alloc (by exact Nat.le_refl _) _).alloc (by rw [size_al]; omega) _).alloc (by rw [size_al, size_al]; omega) _)
  generalize (((w.alloc (.cells #[.pointer (some ⟨D, 0, none⟩)] 23)).alloc (.cells #[.string s] 9)).alloc (.cells #[.string t] 9)) = W at hB0 h0Bd h0Bn h0Bt ⊢
  obtain ⟨Bd, hBd⟩ : ∃ B, B = w.heap.size := ⟨_, rfl⟩
  obtain ⟨Bn, hBn⟩ : ∃ B, B = (w.heap.size + 1) := ⟨_, rfl⟩
  obtain ⟨Bt, hBt⟩ : ∃ B, B = (w.heap.size + 2) := ⟨_, rfl⟩
  rw [← hBt] at h0Bt ⊢
  rw [← hBn] at h0Bn ⊢
  rw [← hBd] at h0Bd ⊢
  have hBdW : Hid (W.heap[Bd]? = some (.cells #[.pointer (some ⟨D, 0, none⟩)] 23 (0, 0))) := h0Bd
  have hBnW : Hid (W.heap[Bn]? = some (.cells #[.string s] 9 (0, 0))) := h0Bn
  have hBtW : Hid (W.heap[Bt]? = some (.cells #[.string t] 9 (0, 0))) := h0Bt
  have hBW : Hid (Below w.heap.size w W) := hB0
  clear hB0 h0Bd h0Bn h0Bt hBd hBn hBt
  have hDW : Hid (DiskI W D mb d) := hDw.out.below hBW.out
  clear hDw
  refine wp_region_lit ?_
  refine sl_run rfl (.pointer (some ⟨D, 0, none⟩)) W (exec_load_cell 23 W _ rfl ⟨Bd, 0, none⟩ (by kernel_rfl) _ (by rw [cell_of_row _ _ _ _ _ _ hBdW.out]; rfl) (fun _ => by kernel_rfl)) ?_
  simp only [Act.put, List.setIfInBounds_toArray, List.set_cons_zero, List.set_cons_succ]
  refine sl_run rfl (.string s) W (exec_load_cell 9 W _ rfl ⟨Bn, 0, none⟩ (by kernel_rfl) _ (by rw [cell_of_row _ _ _ _ _ _ hBnW.out]; rfl) (fun _ => by kernel_rfl)) ?_
  simp only [Act.put, List.setIfInBounds_toArray, List.set_cons_zero, List.set_cons_succ]
  refine sg_call (by kernel_rfl) 32 #[.pointer (some ⟨D, 0, none⟩), .string s] (by kernel_rfl) (R := fun u w' => ∃ v, u = .tuple #[.agg #[v, .int .i64 (su : Int)], .int .i64 (er : Int)] ∧ Rw 1 encB w' v bs ∧ Below W.heap.size W w') ((find_calls hDW.out s).mono fun e w' h => by
    obtain ⟨v, h1, h2, h3⟩ := h
    rw [hfS.out] at h1 h2
    exact ⟨_, h1, v, rfl, h2, h3⟩) ?_
  rintro _ W2 ⟨v, rfl, hr, hb⟩
  obtain ⟨A, c, rfl⟩ := hr.form
  have hrW2 : Hid (Rw 1 encB W2 (.slice A bs.length c) bs) := hr
  clear hr
  simp only [Act.put, List.setIfInBounds_toArray, List.set_cons_zero, List.set_cons_succ]
  have hDW2 : Hid (DiskI W2 D mb d) := (hDW.out).below hb
  have hBW2 : Hid (Below w.heap.size w W2) := (hBW.out).trans ((hb).mono (hBW.out).size)
  have hBdW2 : Hid (W2.heap[Bd]? = some (.cells #[.pointer (some ⟨D, 0, none⟩)] 23 (0, 0))) := heap_kept hBdW.out hb
  have hBnW2 : Hid (W2.heap[Bn]? = some (.cells #[.string s] 9 (0, 0))) := heap_kept hBnW.out hb
  have hBtW2 : Hid (W2.heap[Bt]? = some (.cells #[.string t] 9 (0, 0))) := heap_kept hBtW.out hb
  clear hDW hBW hBdW hBnW hBtW
  clear hb
  refine sl_run rfl (.tuple #[.agg #[.slice A bs.length c, .int .i64 (su : Int)], .int .i64 (er : Int)]) W2 (by kernel_rfl) ?_
  simp only [Act.put, List.setIfInBounds_toArray, List.set_cons_zero, List.set_cons_succ]
  refine sl_run rfl (.agg #[.slice A bs.length c, .int .i64 (su : Int)]) W2 (by kernel_rfl) ?_
  simp only [Act.put, List.setIfInBounds_toArray, List.set_cons_zero, List.set_cons_succ]
  refine sl_run rfl (.int .i64 (er : Int)) W2 (by kernel_rfl) ?_
  simp only [Act.put, List.setIfInBounds_toArray, List.set_cons_zero, List.set_cons_succ]
  refine sg_run (by kernel_rfl) (.pointer (some ⟨W2.heap.size, 0, none⟩)) (W2.alloc (.cells #[.slice none 0 0, .int .i64 0] 65)) (by kernel_rfl) ?_
  simp only [Act.put, List.setIfInBounds_toArray, List.set_cons_zero, List.set_cons_succ]
  refine sl_skipped (by kernel_rfl) ((W2.alloc (.cells #[.slice none 0 0, .int .i64 0] 65)).setRow W2.heap.size #[.slice A bs.length c, .int .i64 (su : Int)]) ?he ?_
  case he => exact exec_store_f _ _ rfl W2.heap.size (by kernel_rfl) (.slice A bs.length c) (su : Int) rfl (by kernel_rfl) #[.slice none 0 0, .int .i64 0] (heap_alloc_new _ _) rfl
  simp only [Act.put, List.setIfInBounds_toArray, List.set_cons_zero, List.set_cons_succ]
  have hb : Below W2.heap.size W2 ((W2.alloc (.cells #[.slice none 0 0, .int .i64 0] 65)).setRow W2.heap.size #[.slice A bs.length c, .int .i64 (su : Int)]) := below_setRow ((Below.refl _ _).alloc (Nat.le_refl _) _) (Nat.le_refl _) _
  have hf0 : ((W2.alloc (.cells #[.slice none 0 0, .int .i64 0] 65)).setRow W2.heap.size #[.slice A bs.length c, .int .i64 (su : Int)]).heap[W2.heap.size]? = some (.cells #[.slice A bs.length c, .int .i64 (su : Int)] 65 (0, 0)) := setRow_heap _ _ #[.slice none 0 0, .int .i64 0] _ 65 (0, 0) (heap_alloc_new _ _)
  generalize ((W2.alloc (.cells #[.slice none 0 0, .int .i64 0] 65)).setRow W2.heap.size #[.slice A bs.length c, .int .i64 (su : Int)]) = W3 at hb hf0 ⊢
  have hle0 : w.heap.size ≤ W2.heap.size := hBW2.out.size
  obtain ⟨F, hFe⟩ : ∃ F, F = W2.heap.size := ⟨_, rfl⟩
  have hDW3 : Hid (DiskI W3 D mb d) := (hDW2.out).below hb
  have hBW3 : Hid (Below w.heap.size w W3) := (hBW2.out).trans ((hb).mono (hBW2.out).size)
  have hBdW3 : Hid (W3.heap[Bd]? = some (.cells #[.pointer (some ⟨D, 0, none⟩)] 23 (0, 0))) := heap_kept hBdW2.out hb
  have hBnW3 : Hid (W3.heap[Bn]? = some (.cells #[.string s] 9 (0, 0))) := heap_kept hBnW2.out hb
  have hBtW3 : Hid (W3.heap[Bt]? = some (.cells #[.string t] 9 (0, 0))) := heap_kept hBtW2.out hb
  have hrW3 : Hid (Rw 1 encB W3 (.slice A bs.length c) bs) := (hrW2.out).below hb
  clear hDW2 hBW2 hBdW2 hBnW2 hBtW2 hrW2
  rw [← hFe] at hf0 hle0 ⊢
  have hFW3 : Hid (W3.heap[F]? = some (.cells #[.slice A bs.length c, .int .i64 (su : Int)] 65 (0, 0))) := hf0
  have hFle : Hid (w.heap.size ≤ F) := hle0
  clear hb hf0 hle0 hFe
  refine sl_run rfl (.int .i64 (er : Int)) W3 (by kernel_rfl) ?_
  simp only [Act.put, List.setIfInBounds_toArray, List.set_cons_zero, List.set_cons_succ]
  refine wpList_nil ?_
  by_cases he : er = 0
  case neg =>
    have hI : ((er : Int) != 0) = true := err_ne he
    have hI2 : ¬ (er : Int) = 0 := by omega
    have hF : Hid (d1 = d ∧ ee = er) := by
      obtain ⟨_, _, hb⟩ := findS_bad hfS.out he
      have h8 := hd1H.out
      unfold DS.ren at h8
      rcases hb with ⟨h9, e9⟩ | ⟨h9, h7, e9⟩
      · rw [if_pos h9] at h8
        injection h8 with h8 h7
        exact And.intro h8.symm (h7.symm.trans e9.symm)
      · rw [if_neg (by rw [h9]; decide), h7] at h8
        injection h8 with h8 h7
        exact And.intro h8.symm (h7.symm.trans e9.symm)
    obtain ⟨rfl, rfl⟩ := hF.out
    have hE : Hid (DiskI W3 D mb d1 ∧ KpS (TD D mb) w W3) := And.intro hDW3.out (KpS.of hBW3.out)
    clear hF hfS hd1H he
    clear hDW3 hBW3 hBdW3 hBnW3 hBtW3 hrW3 hFW3
    go_wp2_with fail
    go_ret
    exact ⟨rfl, hE.out.1, hE.out.2⟩
  case pos =>
  subst he
  obtain ⟨hoff, f0, hget, hfb, hfs, hmem, hfn⟩ := findS_ok hfS.out
  have hgetH : Hid (d.get s = some f0) := hget
  have hoffH : Hid (d.off = false) := hoff
  have hfineH : Hid (f0.sure ≤ f0.bs.length ∧ f0.bs.length ≤ 1048576) := hDW3.out.fine f0 hmem
  have hfnH : Hid (f0.nm = s) := hfn
  have hsuH : Hid (f0.sure = su) := hfs
  subst hfb
  have hspec := hd1H.out
  unfold DS.ren at hspec
  rw [if_neg (by rw [hoff]; decide), hget] at hspec
  dsimp only at hspec
  clear hd1H hfS hget hoff hfn hfs hmem
  obtain ⟨nb, hnb⟩ : ∃ b, b = nameB t := ⟨_, rfl⟩
  have hnbH : Hid (nb = nameB t) := hnb
  rw [← hnb] at hspec
  clear hnb
  go_upto_region 4 with fail
  refine wp_region_lit ?_
  refine sl_run rfl (.string t) W3 (exec_load_cell 9 W3 _ rfl ⟨Bt, 0, none⟩ (by kernel_rfl) _ (by rw [cell_of_row _ _ _ _ _ _ hBtW3.out]; rfl) (fun _ => by kernel_rfl)) ?_
  simp only [Act.put, List.setIfInBounds_toArray, List.set_cons_zero, List.set_cons_succ]
  refine sg_call (by kernel_rfl) 33 #[.string t] (by kernel_rfl) (R := fun v w' => v = .bool nb ∧ Below W3.heap.size W3 w') ((hnbH.out ▸ name_calls t W3).mono fun e w' h => ⟨_, h.1, rfl, h.2⟩) ?_
  rintro _ W5 ⟨rfl, hb⟩
  simp only [Act.put, List.setIfInBounds_toArray, List.set_cons_zero, List.set_cons_succ]
  have hDW5 : Hid (DiskI W5 D mb d) := (hDW3.out).below hb
  have hBW5 : Hid (Below w.heap.size w W5) := (hBW3.out).trans ((hb).mono (hBW3.out).size)
  have hBdW5 : Hid (W5.heap[Bd]? = some (.cells #[.pointer (some ⟨D, 0, none⟩)] 23 (0, 0))) := heap_kept hBdW3.out hb
  have hBnW5 : Hid (W5.heap[Bn]? = some (.cells #[.string s] 9 (0, 0))) := heap_kept hBnW3.out hb
  have hBtW5 : Hid (W5.heap[Bt]? = some (.cells #[.string t] 9 (0, 0))) := heap_kept hBtW3.out hb
  have hrW5 : Hid (Rw 1 encB W5 (.slice A f0.bs.length c) f0.bs) := (hrW3.out).below hb
  have hFW5 : Hid (W5.heap[F]? = some (.cells #[.slice A f0.bs.length c, .int .i64 (su : Int)] 65 (0, 0))) := heap_kept hFW3.out hb
  clear hDW3 hBW3 hBdW3 hBnW3 hBtW3 hrW3 hFW3
  clear hb
  cases nb with
  | false =>
    refine sl_run rfl (.bool true) W5 (by kernel_rfl) ?_
    simp only [Act.put, List.setIfInBounds_toArray, List.set_cons_zero, List.set_cons_succ]
    refine wpList_nil ?_
    rw [if_pos rfl] at hspec
    injection hspec with e1 e2
    subst e1 e2
    have hE : Hid (DiskI W5 D mb d ∧ KpS (TD D mb) w W5) := And.intro hDW5.out (KpS.of hBW5.out)
    clear hgetH hoffH hfineH hfnH hsuH hnbH
    clear hDW5 hBW5 hBdW5 hBnW5 hBtW5 hrW5 hFW5
    go_wp2_with fail
    go_ret
    exact ⟨rfl, hE.out.1, hE.out.2⟩
  | true =>
    refine sl_run rfl (.bool false) W5 (by kernel_rfl) ?_
    simp only [Act.put, List.setIfInBounds_toArray, List.set_cons_zero, List.set_cons_succ]
    refine wpList_nil ?_
    rw [if_neg (by decide)] at hspec
    go_upto_region 6 with fail
    refine wp_region_lit ?_
    have hfW5 : W5.heap[F]? = some (.cells #[.slice A f0.bs.length c, .int .i64 (f0.sure : Int)] 65 (0, 0)) := by rw [hsuH.out]; exact hFW5.out
    refine sl_run rfl (.pointer (some ⟨D, 0, none⟩)) W5 (exec_load_cell 23 W5 _ rfl ⟨Bd, 0, none⟩ (by kernel_rfl) _ (by rw [cell_of_row _ _ _ _ _ _ hBdW5.out]; rfl) (fun _ => by kernel_rfl)) ?_
    simp only [Act.put, List.setIfInBounds_toArray, List.set_cons_zero, List.set_cons_succ]
    refine sl_run rfl (.func (.func 45) #[] #[.pointer (some ⟨Bd, 0, none⟩), .pointer (some ⟨Bn, 0, none⟩), .pointer (some ⟨F, 0, none⟩), .pointer (some ⟨Bt, 0, none⟩)]) W5 (by kernel_rfl) ?_
    simp only [Act.put, List.setIfInBounds_toArray, List.set_cons_zero, List.set_cons_succ]
    refine sg_call (by kernel_rfl) 41 #[.pointer (some ⟨D, 0, none⟩), .func (.func 45) #[] #[.pointer (some ⟨Bd, 0, none⟩), .pointer (some ⟨Bn, 0, none⟩), .pointer (some ⟨F, 0, none⟩), .pointer (some ⟨Bt, 0, none⟩)]] (by kernel_rfl) (R := fun u w' => u = .int .i64 (ee : Int) ∧ DiskI w' D mb d1 ∧ KpS (TD D mb) W5 w') ?hc ?_
    case hc =>
      refine (one_calls hDW5.out 45 #[.pointer (some ⟨Bd, 0, none⟩), .pointer (some ⟨Bn, 0, none⟩), .pointer (some ⟨F, 0, none⟩), .pointer (some ⟨Bt, 0, none⟩)] (fun w => by kernel_rfl) (fun L => DS.putL (DS.del L s) ⟨t, f0.bs, f0.sure⟩) fun w' hk hD => ren1_calls hD Bd Bn F Bt s ⟨t, f0.bs, f0.sure⟩ (.slice A f0.bs.length c) (rw_kpS hDW5.out hrW5.out hk) hfineH.out (hk.box hDW5.out hfW5 (by decide)) (hk.box hDW5.out hBdW5.out (by decide)) (hk.box hDW5.out hBnW5.out (by decide)) (hk.box hDW5.out hBtW5.out (by decide))).mono fun e w' h => ?_
      rw [hspec] at h
      exact ⟨_, h.1, rfl, h.2⟩
    rintro _ W4 ⟨rfl, hD4, hK4⟩
    simp only [Act.put, List.setIfInBounds_toArray, List.set_cons_zero, List.set_cons_succ]
    have hE : Hid (DiskI W4 D mb d1 ∧ KpS (TD D mb) w W4) := And.intro hD4 ((KpS.of hBW5.out).trans hK4)
    clear hD4 hK4
    clear hDW5 hBW5 hBdW5 hBnW5 hBtW5 hrW5 hFW5
    refine sl_run rfl (.int .i64 (ee : Int)) W4 (by kernel_rfl) ?_
    simp only [Act.put, List.setIfInBounds_toArray, List.set_cons_zero, List.set_cons_succ]
    refine wpList_nil ?_
    clear hnbH hfW5
    clear hspec hgetH hoffH hfineH hfnH hsuH
    go_wp2_with fail
    go_ret
    exact ⟨rfl, hE.out.1, hE.out.2⟩
theorem read_of (d : DS) (s : ByteArray) : d.read s = ((d.findS s).1, (d.findS s).2.2) := by
  unfold DS.read DS.findS
  split
  · rfl
  · cases d.get s <;> rfl
set_option maxRecDepth 100000 in
theorem Read_calls {w : World} {D mb : Nat} {d : DS} (h : DiskI w D mb d) (s : ByteArray) : Calls Try.prog 22 #[.pointer (some ⟨D, 0, none⟩), .string s] w fun e w' => ∃ v, e = .returned (.tuple #[v, .int .i64 ((d.read s).2 : Int)]) ∧ Rw 1 encB w' v (d.read s).1 ∧ Below w.heap.size w w' := by
  have hDw : Hid (DiskI w D mb d) := h
  obtain ⟨bs, su, er, hf⟩ : ∃ p q r, d.findS s = (p, q, r) := ⟨_, _, _, rfl⟩
  have hfS : Hid (d.findS s = (bs, su, er)) := hf
  rw [read_of, hf]
  have hlen : Hid (er = 0 → bs.length ≤ 1048576) := fun he => by
    subst he
    obtain ⟨_, f0, _, h1, _, h2, _⟩ := findS_ok hf
    rw [← h1]; exact (h.fine f0 h2).2
  have hbad : Hid (er ≠ 0 → bs = []) := fun he => (findS_bad hf he).1
  have hBw : Hid (Below w.heap.size w w) := Below.refl _ _
  clear h hf
  go_enter Try.func22, Try.ntmps22
  go_upto_region 1 with fail
  refine wp_region_lit ?_
  refine sl_run rfl (.pointer (some ⟨D, 0, none⟩)) w (by kernel_rfl) ?_
  simp only [Act.put, List.setIfInBounds_toArray, List.set_cons_zero, List.set_cons_succ]
  refine sl_run rfl (.string s) w (by kernel_rfl) ?_
  simp only [Act.put, List.setIfInBounds_toArray, List.set_cons_zero, List.set_cons_succ]
  refine sg_call (by kernel_rfl) 32 #[.pointer (some ⟨D, 0, none⟩), .string s] (by kernel_rfl) (R := fun u w' => ∃ v, u = .tuple #[.agg #[v, .int .i64 (su : Int)], .int .i64 (er : Int)] ∧ Rw 1 encB w' v bs ∧ Below w.heap.size w w') ((find_calls hDw.out s).mono fun e w' h => by
    obtain ⟨v, h1, h2, h3⟩ := h
    rw [hfS.out] at h1 h2
    exact ⟨_, h1, v, rfl, h2, h3⟩) ?_
  rintro _ W2 ⟨v, rfl, hr, hb⟩
  obtain ⟨A, c, rfl⟩ := hr.form
  have hrW2 : Hid (Rw 1 encB W2 (.slice A bs.length c) bs) := hr
  clear hr
  simp only [Act.put, List.setIfInBounds_toArray, List.set_cons_zero, List.set_cons_succ]
  have hDW2 : Hid (DiskI W2 D mb d) := (hDw.out).below hb
  have hBW2 : Hid (Below w.heap.size w W2) := (hBw.out).trans ((hb).mono (hBw.out).size)
  clear hDw hBw
  clear hb
  refine sl_run rfl (.tuple #[.agg #[.slice A bs.length c, .int .i64 (su : Int)], .int .i64 (er : Int)]) W2 (by kernel_rfl) ?_
  simp only [Act.put, List.setIfInBounds_toArray, List.set_cons_zero, List.set_cons_succ]
  refine sl_run rfl (.agg #[.slice A bs.length c, .int .i64 (su : Int)]) W2 (by kernel_rfl) ?_
  simp only [Act.put, List.setIfInBounds_toArray, List.set_cons_zero, List.set_cons_succ]
  refine sl_run rfl (.int .i64 (er : Int)) W2 (by kernel_rfl) ?_
  simp only [Act.put, List.setIfInBounds_toArray, List.set_cons_zero, List.set_cons_succ]
  refine sg_run (by kernel_rfl) (.pointer (some ⟨W2.heap.size, 0, none⟩)) (W2.alloc (.cells #[.slice none 0 0, .int .i64 0] 65)) (by kernel_rfl) ?_
  simp only [Act.put, List.setIfInBounds_toArray, List.set_cons_zero, List.set_cons_succ]
  refine sl_skipped (by kernel_rfl) ((W2.alloc (.cells #[.slice none 0 0, .int .i64 0] 65)).setRow W2.heap.size #[.slice A bs.length c, .int .i64 (su : Int)]) ?he ?_
  case he => exact exec_store_f _ _ rfl W2.heap.size (by kernel_rfl) (.slice A bs.length c) (su : Int) rfl (by kernel_rfl) #[.slice none 0 0, .int .i64 0] (heap_alloc_new _ _) rfl
  simp only [Act.put, List.setIfInBounds_toArray, List.set_cons_zero, List.set_cons_succ]
  have hb : Below W2.heap.size W2 ((W2.alloc (.cells #[.slice none 0 0, .int .i64 0] 65)).setRow W2.heap.size #[.slice A bs.length c, .int .i64 (su : Int)]) := below_setRow ((Below.refl _ _).alloc (Nat.le_refl _) _) (Nat.le_refl _) _
  have hf0 : ((W2.alloc (.cells #[.slice none 0 0, .int .i64 0] 65)).setRow W2.heap.size #[.slice A bs.length c, .int .i64 (su : Int)]).heap[W2.heap.size]? = some (.cells #[.slice A bs.length c, .int .i64 (su : Int)] 65 (0, 0)) := setRow_heap _ _ #[.slice none 0 0, .int .i64 0] _ 65 (0, 0) (heap_alloc_new _ _)
  generalize ((W2.alloc (.cells #[.slice none 0 0, .int .i64 0] 65)).setRow W2.heap.size #[.slice A bs.length c, .int .i64 (su : Int)]) = W3 at hb hf0 ⊢
  have hle0 : w.heap.size ≤ W2.heap.size := hBW2.out.size
  obtain ⟨F, hFe⟩ : ∃ F, F = W2.heap.size := ⟨_, rfl⟩
  have hDW3 : Hid (DiskI W3 D mb d) := (hDW2.out).below hb
  have hBW3 : Hid (Below w.heap.size w W3) := (hBW2.out).trans ((hb).mono (hBW2.out).size)
  have hrW3 : Hid (Rw 1 encB W3 (.slice A bs.length c) bs) := (hrW2.out).below hb
  clear hDW2 hBW2 hrW2
  rw [← hFe] at hf0 hle0 ⊢
  have hFW3 : Hid (W3.heap[F]? = some (.cells #[.slice A bs.length c, .int .i64 (su : Int)] 65 (0, 0))) := hf0
  have hFle : Hid (w.heap.size ≤ F) := hle0
  clear hb hf0 hle0 hFe
  refine sl_run rfl (.int .i64 (er : Int)) W3 (by kernel_rfl) ?_
  simp only [Act.put, List.setIfInBounds_toArray, List.set_cons_zero, List.set_cons_succ]
  refine wpList_nil ?_
  by_cases he : er = 0
  case neg =>
    have hI : ((er : Int) != 0) = true := err_ne he
    have hI2 : ¬ (er : Int) = 0 := by omega
    have hbs := hbad.out he
    subst hbs
    have hF2 := hBW3
    clear hlen hbad hfS he
    clear hDW3 hrW3 hFW3
    go_wp2_with fail
    go_ret2
    exact ⟨_, rfl, Rw.nil, hF2.out⟩
  case pos =>
  subst he
  have hl9 := hlen.out rfl
  clear hlen hbad hfS
  go_upto_region 4 with fail
  refine wp_region_lit ?_
  refine sl_run rfl (.pointer (some ⟨F, 0, none⟩)) W3 (by kernel_rfl) ?_
  simp only [Act.put, List.setIfInBounds_toArray, List.set_cons_zero, List.set_cons_succ]
  refine sl_run rfl (.slice A bs.length c) W3 (exec_load_cell 30 W3 _ rfl ⟨F, 0, none⟩ (by kernel_rfl) _ (by rw [cell_of_row _ _ _ _ _ _ hFW3.out]; rfl) (fun _ => by kernel_rfl)) ?_
  simp only [Act.put, List.setIfInBounds_toArray, List.set_cons_zero, List.set_cons_succ]
  refine sg_call (by kernel_rfl) 49 #[.slice A bs.length c] (by kernel_rfl) (R := fun u w' => w'.ownsRow W3.heap.size 5 1 u bs.length (flat encB bs) ∧ Below W3.heap.size W3 w') ((clone_calls bs A bs.length c W3 rfl (by omega) hrW3.out).mono fun e w' h => by
    obtain ⟨v, h1, h2, h3⟩ := h
    exact ⟨_, h1, h2, h3⟩) ?_
  rintro v4 W4 ⟨hown, hb⟩
  simp only [Act.put, List.setIfInBounds_toArray, List.set_cons_zero, List.set_cons_succ]
  have hDW4 : Hid (DiskI W4 D mb d) := (hDW3.out).below hb
  have hBW4 : Hid (Below w.heap.size w W4) := (hBW3.out).trans ((hb).mono (hBW3.out).size)
  have hrW4 : Hid (Rw 1 encB W4 (.slice A bs.length c) bs) := (hrW3.out).below hb
  have hFW4 : Hid (W4.heap[F]? = some (.cells #[.slice A bs.length c, .int .i64 (su : Int)] 65 (0, 0))) := heap_kept hFW3.out hb
  clear hDW3 hBW3 hrW3 hFW3
  have hqW4 : Hid (Rw 1 encB W4 v4 bs) := Rw.own encB_size (by decide) hown
  clear hb hown
  refine sg_call (by kernel_rfl) 35 #[v4] (by kernel_rfl) (R := fun u w' => Rw 1 encB w' u bs ∧ Below W4.heap.size W4 w') ((clip_calls bs v4 W4 (by omega) hqW4.out).mono fun e w' h => by
    obtain ⟨v, h1, h2, h3⟩ := h
    exact ⟨_, h1, h2, h3⟩) ?_
  rintro v5 W5 ⟨hq5, hb⟩
  simp only [Act.put, List.setIfInBounds_toArray, List.set_cons_zero, List.set_cons_succ]
  have hDW5 : Hid (DiskI W5 D mb d) := (hDW4.out).below hb
  have hBW5 : Hid (Below w.heap.size w W5) := (hBW4.out).trans ((hb).mono (hBW4.out).size)
  have hrW5 : Hid (Rw 1 encB W5 (.slice A bs.length c) bs) := (hrW4.out).below hb
  have hFW5 : Hid (W5.heap[F]? = some (.cells #[.slice A bs.length c, .int .i64 (su : Int)] 65 (0, 0))) := heap_kept hFW4.out hb
  have hqW5 : Hid (Rw 1 encB W5 v4 bs) := (hqW4.out).below hb
  clear hDW4 hBW4 hrW4 hFW4 hqW4
  have hpW5 : Hid (Rw 1 encB W5 v5 bs) := hq5
  clear hb hq5
  refine sl_run rfl (v5) W5 (by kernel_rfl) ?_
  simp only [Act.put, List.setIfInBounds_toArray, List.set_cons_zero, List.set_cons_succ]
  refine sl_run rfl (.int .i64 0) W5 (by kernel_rfl) ?_
  simp only [Act.put, List.setIfInBounds_toArray, List.set_cons_zero, List.set_cons_succ]
  refine wpList_nil ?_
  have hF2 := hBW5
  clear hDW5 hrW5 hFW5 hqW5
  go_wp2_with fail
  go_ret2
  exact ⟨_, rfl, hpW5.out, hF2.out⟩
end Go.Proofs.Ytmdfgndjphhgnaa
