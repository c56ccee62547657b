/-
  Cut of a disk.
-/
import Derived.Test.YtmdfgndjphhgnaaDi6
namespace Go.Proofs.Ytmdfgndjphhgnaa
open Go.RowKit
set_option linter.unusedVariables false
set_option linter.unusedSimpArgs false
theorem rw_kpF {w w' : World} {F n c : Nat} {A : Option Addr} {m : Int} (hF : w.heap[F]? = some (.cells #[.slice A n c, .int .i64 m] 65 (0, 0))) (hk : KpS (fun q => q = F) w w') {v : Value} {l : List Nat} (hr : Rw 1 encB w v l) : Rw 1 encB w' v l := by
  refine hr.kept hk.size (fun hl q hq => hk.block q (hr.lt hl q hq) (fun e => ?_))
  obtain ⟨A', c', rfl⟩ := hr.form
  obtain ⟨g, o, rfl, _, _, hel⟩ := hr.elem 0 (List.length_pos_iff.2 hl)
  have hg : g = q := by
    simp [Value.ownBlock] at hq; exact hq
  subst hg
  have hc := hel 0 (.int .u8 ((l.getD 0 default : Nat) : Int)) rfl
  subst e
  rw [cell_of_row _ _ _ _ _ _ hF] at hc
  simp only [Nat.zero_mul, Nat.add_zero] at hc
  match o, hc with
  | 0, hc => simp at hc
  | 1, hc => simp at hc
  | o + 2, hc => simp at hc
theorem DiskI.kpF {w w' : World} {D mb : Nat} {d : DS} (h : DiskI w D mb d) {F n c : Nat} {A : Option Addr} {m : Int} (hF : w.heap[F]? = some (.cells #[.slice A n c, .int .i64 m] 65 (0, 0))) (hk : KpS (fun q => q = F) w w') : DiskI w' D mb d := by
  obtain ⟨h1, ⟨L, h2, h3, h4⟩, h5, h6, h7⟩ := h
  refine ⟨hk.heap h1 (fun e => ?_), ⟨L, h2.kept (hk.block mb h2.lt (fun e => ?_)), h3, fun p hp => rw_kpF hF hk (h4 p hp)⟩, h5, h6, h7⟩
  · rw [e, hF] at h1; simp at h1
  · obtain ⟨es, clock, hm⟩ := h2
    have := hm.heap
    rw [e, hF] at this; cases this
theorem box_kpF {w w' : World} {F B : Nat} {cs cs' : Array Value} {t : TypeId} (hF : w.heap[F]? = some (.cells cs 65 (0, 0))) (hk : KpS (fun q => q = F) w w') (hB : w.heap[B]? = some (.cells cs' t (0, 0))) (ht : t ≠ 65) : w'.heap[B]? = some (.cells cs' t (0, 0)) :=
  hk.heap hB (fun e => by rw [e, hF] at hB; simp at hB; exact ht hB.2.symm)
theorem below_kpF {B F : Nat} {a w w' : World} (h : Below B a w) (hk : KpS (fun q => q = F) w w') (hg : B ≤ F) (hB : B ≤ w.heap.size) : Below B a w' :=
  h.trans (hk.bel (fun q hq => by rw [hq]; exact hg) hB)
theorem exec_cutS {o : Oper} {a : Act} (x hi mx : Operand) (ho : o.op = .slice 30 x none (some hi) (some mx)) (A : Option Addr) (n c m : Nat) (hx : a.eval x = .slice A n c)
    (hh : a.eval hi = .int .i64 (m : Int)) (hm : a.eval mx = .int .i64 (m : Int)) (hc : m ≤ c) (w : World) : (execOp a.eval o).run Try.prog w = .ok (.value (.slice (if m = 0 then A else A.map (·.add 0)) m m)) w := by
  unfold execOp
  simp only [ho, Option.map_some, Option.map_none, hx, hh, hm, Sem.run_bind, run_sliceAt_slice w 30 _ _ _ _ un30, run_slice_hm w 30 _ n c un30 .i64 .i64 (m : Int) (m : Int) (by omega) (by omega) (by omega), sz30, Result.andThen_ok, Sem.run_pure, sliced, Int.toNat_natCast, Nat.zero_mul, Nat.sub_zero]
theorem cut_rw {w : World} {l : List Nat} {A : Option Addr} {n c m : Nat} (hy : Rw 1 encB w (.slice A n c) l) (hm : m ≤ l.length) : m ≤ c ∧ Rw 1 encB w (.slice (if m = 0 then A else A.map (·.add 0)) m m) (l.take m) := by
  rcases hy with ⟨A', c', h, rfl, h2⟩ | ⟨g, o, c', h, h2, h3, h4⟩
  · injection h with h5 h6 h7
    have : m = 0 := by simpa using hm
    subst this
    rw [if_pos rfl]
    exact ⟨Nat.zero_le _, .inl ⟨A, 0, rfl, by simp, fun _ => rfl⟩⟩
  · injection h with h5 h6 h7
    subst h5 h7
    refine ⟨by omega, .inr ⟨g, o, m, ?_, ?_, h3, fun i hi => ?_⟩⟩
    · have : (l.take m).length = m := by rw [List.length_take]; omega
      rw [this]
      congr 1
      split
      · rfl
      · rw [Option.map_some, Addr.add_mid, Nat.add_zero]
    · rw [List.length_take]; omega
    · have hi2 : i < m := by rw [List.length_take] at hi; omega
      have h8 := h4 i (by omega)
      have e : (l.take m).getD i default = l.getD i default := by simp [List.getD_eq_getElem?_getD, List.getElem?_take, hi2]
      rw [e]; exact h8
set_option maxRecDepth 100000 in
theorem Cut_calls {w : World} {D mb : Nat} {d : DS} (h : DiskI w D mb d) (s : ByteArray) (n : Int) : Calls Try.prog 18 #[.pointer (some ⟨D, 0, none⟩), .string s, .int .i64 n] w fun e w' => e = .returned (.int .i64 ((d.cut s n).2 : Int)) ∧ DiskI w' D mb (d.cut s n).1 ∧ KpS (TD D mb) w w' := by
  have hDw : Hid (DiskI w D mb d) := h
  obtain ⟨d1, ee, hd1⟩ : ∃ p q, d.cut s n = (p, q) := ⟨_, _, rfl⟩
  rw [hd1]
  have hd1H : Hid (d.cut s n = (d1, ee)) := hd1
  obtain ⟨bs, su, er, hf⟩ : ∃ p q r, d.findS s = (p, q, r) := ⟨_, _, _, rfl⟩
  have hfS : Hid (d.findS s = (bs, su, er)) := hf
  clear h hd1 hf
  go_enter Try.func18, Try.ntmps18
  go_upto_region 1 with fail
  have h0Bd : ((w.alloc (.cells #[.pointer (some ⟨D, 0, none⟩)] 23)).alloc (.cells #[.string s] 9)).heap[w.heap.size]? = some (.cells #[.pointer (some ⟨D, 0, none⟩)] 23 (0, 0)) := (heap_kept (heap_at w _ w.heap.size rfl) ((Below.refl _ _).alloc (Nat.le_refl _) _))
  have h0Bn : ((w.alloc (.cells #[.pointer (some ⟨D, 0, none⟩)] 23)).alloc (.cells #[.string s] 9)).heap[(w.heap.size + 1)]? = some (.cells #[.string s] 9 (0, 0)) := (heap_at (w.alloc (.cells #[.pointer (some ⟨D, 0, none⟩)] 23)) _ (w.heap.size + 1) (by rw [size_al]))
  have hB0 : Below w.heap.size w ((w.alloc (.cells #[.pointer (some ⟨D, 0, none⟩)] 23)).alloc (.cells #[.string s] 9)) := (((Below.refl _ _).alloc (by exact Nat.le_refl _) _).alloc (by rw [size_al]; omega) _)
  generalize ((w.alloc (.cells #[.pointer (some ⟨D, 0, none⟩)] 23)).alloc (.cells #[.string s] 9)) = W at hB0 h0Bd h0Bn ⊢
  obtain ⟨Bd, hBd⟩ : ∃ B, B = w.heap.size := ⟨_, rfl⟩
  obtain ⟨Bn, hBn⟩ : ∃ B, B = (w.heap.size + 1) := ⟨_, rfl⟩
  rw [← hBn] at h0Bn ⊢
  rw [← hBd] at h0Bd ⊢
  have hBdW : Hid (W.heap[Bd]? = some (.cells #[.pointer (some ⟨D, 0, none⟩)] 23 (0, 0))) := h0Bd
  have hBnW : Hid (W.heap[Bn]? = some (.cells #[.string s] 9 (0, 0))) := h0Bn
  have hBW : Hid (Below w.heap.size w W) := hB0
  clear hB0 h0Bd h0Bn hBd hBn
  have hDW : Hid (DiskI W D mb d) := hDw.out.below hBW.out
  clear hDw
  refine wp_region_lit ?_
  refine sl_run rfl (.pointer (some ⟨D, 0, none⟩)) W (exec_load_cell 23 W _ rfl ⟨Bd, 0, none⟩ (by kernel_rfl) _ (by rw [cell_of_row _ _ _ _ _ _ hBdW.out]; rfl) (fun _ => by kernel_rfl)) ?_
  simp only [Act.put, List.setIfInBounds_toArray, List.set_cons_zero, List.set_cons_succ]
  refine sl_run rfl (.string s) W (exec_load_cell 9 W _ rfl ⟨Bn, 0, none⟩ (by kernel_rfl) _ (by rw [cell_of_row _ _ _ _ _ _ hBnW.out]; rfl) (fun _ => by kernel_rfl)) ?_
  simp only [Act.put, List.setIfInBounds_toArray, List.set_cons_zero, List.set_cons_succ]
  refine sg_call (by kernel_rfl) 32 #[.pointer (some ⟨D, 0, none⟩), .string s] (by kernel_rfl) (R := fun u w' => ∃ v, u = .tuple #[.agg #[v, .int .i64 (su : Int)], .int .i64 (er : Int)] ∧ Rw 1 encB w' v bs ∧ Below W.heap.size W w') ((find_calls hDW.out s).mono fun e w' h => by
    obtain ⟨v, h1, h2, h3⟩ := h
    rw [hfS.out] at h1 h2
    exact ⟨_, h1, v, rfl, h2, h3⟩) ?_
  rintro _ W2 ⟨v, rfl, hr, hb⟩
  obtain ⟨A, c, rfl⟩ := hr.form
  have hrW2 : Hid (Rw 1 encB W2 (.slice A bs.length c) bs) := hr
  clear hr
  simp only [Act.put, List.setIfInBounds_toArray, List.set_cons_zero, List.set_cons_succ]
  have hDW2 : Hid (DiskI W2 D mb d) := (hDW.out).below hb
  have hBW2 : Hid (Below w.heap.size w W2) := (hBW.out).trans ((hb).mono (hBW.out).size)
  have hBdW2 : Hid (W2.heap[Bd]? = some (.cells #[.pointer (some ⟨D, 0, none⟩)] 23 (0, 0))) := heap_kept hBdW.out hb
  have hBnW2 : Hid (W2.heap[Bn]? = some (.cells #[.string s] 9 (0, 0))) := heap_kept hBnW.out hb
  clear hDW hBW hBdW hBnW
  clear hb
  refine sl_run rfl (.tuple #[.agg #[.slice A bs.length c, .int .i64 (su : Int)], .int .i64 (er : Int)]) W2 (by kernel_rfl) ?_
  simp only [Act.put, List.setIfInBounds_toArray, List.set_cons_zero, List.set_cons_succ]
  refine sl_run rfl (.agg #[.slice A bs.length c, .int .i64 (su : Int)]) W2 (by kernel_rfl) ?_
  simp only [Act.put, List.setIfInBounds_toArray, List.set_cons_zero, List.set_cons_succ]
  refine sl_run rfl (.int .i64 (er : Int)) W2 (by kernel_rfl) ?_
  simp only [Act.put, List.setIfInBounds_toArray, List.set_cons_zero, List.set_cons_succ]
  refine sg_run (by kernel_rfl) (.pointer (some ⟨W2.heap.size, 0, none⟩)) (W2.alloc (.cells #[.slice none 0 0, .int .i64 0] 65)) (by kernel_rfl) ?_
  simp only [Act.put, List.setIfInBounds_toArray, List.set_cons_zero, List.set_cons_succ]
  refine sl_skipped (by kernel_rfl) ((W2.alloc (.cells #[.slice none 0 0, .int .i64 0] 65)).setRow W2.heap.size #[.slice A bs.length c, .int .i64 (su : Int)]) ?he ?_
  case he => exact exec_store_f _ _ rfl W2.heap.size (by kernel_rfl) (.slice A bs.length c) (su : Int) rfl (by kernel_rfl) #[.slice none 0 0, .int .i64 0] (heap_alloc_new _ _) rfl
  simp only [Act.put, List.setIfInBounds_toArray, List.set_cons_zero, List.set_cons_succ]
  have hb : Below W2.heap.size W2 ((W2.alloc (.cells #[.slice none 0 0, .int .i64 0] 65)).setRow W2.heap.size #[.slice A bs.length c, .int .i64 (su : Int)]) := below_setRow ((Below.refl _ _).alloc (Nat.le_refl _) _) (Nat.le_refl _) _
  have hf0 : ((W2.alloc (.cells #[.slice none 0 0, .int .i64 0] 65)).setRow W2.heap.size #[.slice A bs.length c, .int .i64 (su : Int)]).heap[W2.heap.size]? = some (.cells #[.slice A bs.length c, .int .i64 (su : Int)] 65 (0, 0)) := setRow_heap _ _ #[.slice none 0 0, .int .i64 0] _ 65 (0, 0) (heap_alloc_new _ _)
  generalize ((W2.alloc (.cells #[.slice none 0 0, .int .i64 0] 65)).setRow W2.heap.size #[.slice A bs.length c, .int .i64 (su : Int)]) = W3 at hb hf0 ⊢
  have hle0 : w.heap.size ≤ W2.heap.size := hBW2.out.size
  obtain ⟨F, hFe⟩ : ∃ F, F = W2.heap.size := ⟨_, rfl⟩
  have hDW3 : Hid (DiskI W3 D mb d) := (hDW2.out).below hb
  have hBW3 : Hid (Below w.heap.size w W3) := (hBW2.out).trans ((hb).mono (hBW2.out).size)
  have hBdW3 : Hid (W3.heap[Bd]? = some (.cells #[.pointer (some ⟨D, 0, none⟩)] 23 (0, 0))) := heap_kept hBdW2.out hb
  have hBnW3 : Hid (W3.heap[Bn]? = some (.cells #[.string s] 9 (0, 0))) := heap_kept hBnW2.out hb
  have hrW3 : Hid (Rw 1 encB W3 (.slice A bs.length c) bs) := (hrW2.out).below hb
  clear hDW2 hBW2 hBdW2 hBnW2 hrW2
  rw [← hFe] at hf0 hle0 ⊢
  have hFW3 : Hid (W3.heap[F]? = some (.cells #[.slice A bs.length c, .int .i64 (su : Int)] 65 (0, 0))) := hf0
  have hFle : Hid (w.heap.size ≤ F) := hle0
  clear hb hf0 hle0 hFe
  refine sl_run rfl (.int .i64 (er : Int)) W3 (by kernel_rfl) ?_
  simp only [Act.put, List.setIfInBounds_toArray, List.set_cons_zero, List.set_cons_succ]
  refine wpList_nil ?_
  by_cases he : er = 0
  case neg =>
    have hI : ((er : Int) != 0) = true := err_ne he
    have hI2 : ¬ (er : Int) = 0 := by omega
    have hF : Hid (d1 = d ∧ ee = er) := by
      obtain ⟨_, _, hb⟩ := findS_bad hfS.out he
      have h8 := hd1H.out
      unfold DS.cut at h8
      rcases hb with ⟨h9, e9⟩ | ⟨h9, h7, e9⟩
      · rw [if_pos h9] at h8
        injection h8 with h8 h7
        exact And.intro h8.symm (h7.symm.trans e9.symm)
      · rw [if_neg (by rw [h9]; decide), h7] at h8
        injection h8 with h8 h7
        exact And.intro h8.symm (h7.symm.trans e9.symm)
    obtain ⟨rfl, rfl⟩ := hF.out
    have hE : Hid (DiskI W3 D mb d1 ∧ KpS (TD D mb) w W3) := And.intro hDW3.out (KpS.of hBW3.out)
    clear hF hfS hd1H he
    clear hDW3 hBW3 hBdW3 hBnW3 hrW3 hFW3
    go_wp2_with fail
    go_ret
    exact ⟨rfl, hE.out.1, hE.out.2⟩
  case pos =>
  subst he
  obtain ⟨hoff, f0, hget, hfb, hfs, hmem, hfn⟩ := findS_ok hfS.out
  have hgetH : Hid (d.get s = some f0) := hget
  have hoffH : Hid (d.off = false) := hoff
  have hfineH : Hid (f0.sure ≤ f0.bs.length ∧ f0.bs.length ≤ 1048576) := hDW3.out.fine f0 hmem
  have hfnH : Hid (f0.nm = s) := hfn
  have hsuH : Hid (f0.sure = su) := hfs
  subst hfb
  have hspec := hd1H.out
  unfold DS.cut at hspec
  rw [if_neg (by rw [hoff]; decide), hget] at hspec
  dsimp only at hspec
  clear hd1H hfS hget hoff hfn hfs hmem
  by_cases p1 : n < 0
  case pos =>
    rw [if_pos (.inl p1)] at hspec
    injection hspec with e1 e2
    subst e1 e2
    have hE : Hid (DiskI W3 D mb d ∧ KpS (TD D mb) w W3) := And.intro hDW3.out (KpS.of hBW3.out)
    have hc0 : W3.cell? ⟨F, 0, none⟩ = some (.slice A f0.bs.length c) := by rw [cell_of_row _ _ _ _ _ _ hFW3.out]; rfl
    clear hgetH hoffH hfineH hfnH hsuH
    clear hDW3 hBW3 hBdW3 hBnW3 hrW3 hFW3
    go_wp2_with fail
    go_ret
    exact ⟨rfl, hE.out.1, hE.out.2⟩
  case neg =>
  by_cases p2 : n > (f0.bs.length : Int)
  case pos =>
    rw [if_pos (.inr p2)] at hspec
    injection hspec with e1 e2
    subst e1 e2
    have hE : Hid (DiskI W3 D mb d ∧ KpS (TD D mb) w W3) := And.intro hDW3.out (KpS.of hBW3.out)
    have hc0 : W3.cell? ⟨F, 0, none⟩ = some (.slice A f0.bs.length c) := by rw [cell_of_row _ _ _ _ _ _ hFW3.out]; rfl
    clear hgetH hoffH hfineH hfnH hsuH
    clear hDW3 hBW3 hBdW3 hBnW3 hrW3 hFW3
    go_wp2_with fail
    go_ret
    exact ⟨rfl, hE.out.1, hE.out.2⟩
  case neg =>
  rw [if_neg (by rintro (h8 | h8) <;> omega)] at hspec
  obtain ⟨m, rfl⟩ : ∃ m : Nat, n = (m : Int) := ⟨n.toNat, by omega⟩
  have hml : m ≤ f0.bs.length := by omega
  rw [Int.toNat_natCast] at hspec
  have hc0 : W3.cell? ⟨F, 0, none⟩ = some (.slice A f0.bs.length c) := by rw [cell_of_row _ _ _ _ _ _ hFW3.out]; rfl
  go_upto_region 6 with fail
  clear hc0
  obtain ⟨A2, hA2⟩ : ∃ A2, A2 = (if m = 0 then A else A.map (·.add 0)) := ⟨_, rfl⟩
  have hcr := cut_rw hrW3.out hml
  rw [← hA2] at hcr
  have hA2H : Hid (A2 = (if m = 0 then A else A.map (·.add 0))) := hA2
  have hcrH : Hid (Rw 1 encB W3 (.slice A2 m m) (f0.bs.take m)) := hcr.2
  have hmc : m ≤ c := hcr.1
  clear hA2 hcr
  refine wp_normalG ?_
  refine wp_leaves (α := Unit) (fun _ a => (((((((((((a.put (some 27) (.pointer (some ⟨F, 0, none⟩))).put (some 28) (.slice A f0.bs.length c)).put (some 29) (.int .i64 (m : Int))).put (some 30) (.int .i64 (m : Int))).put (some 31) (.slice A2 m m)).put (some 32) (.pointer (some ⟨F, 1, none⟩))).put (some 33) (.int .i64 (su : Int))).put (some 34) (.int .i64 (m : Int))).put (some 35) (.int .i64 ((min f0.sure m : Nat) : Int))).put (some 36) (.pointer (some ⟨F, 0, none⟩))).put (some 37) (.pointer (some ⟨F, 1, none⟩)))) (fun _ w' => KpS (fun q => q = F) W3 w' ∧ w'.heap[F]? = some (.cells #[.slice A2 m m, .int .i64 ((min f0.sure m : Nat) : Int)] 65 (0, 0))) ?_ ?_
  · refine wp_region_held_drew (S := fun w' => KpS (fun q => q = F) W3 w') (by kernel_rfl) (KpS.of (Below.refl _ _).drew) (fun hS => ?_)
    change wpAnyH _ _ _ _ _ 13 (Array.replicate 13 false) _ _
    have hFy : W3.drew.heap[F]? = some (.cells #[.slice A f0.bs.length c, .int .i64 (su : Int)] 65 (0, 0)) := heap_kept hFW3.out (Below.refl _ _).drew
    generalize hx : W3.drew = y at hS hFy
    clear hx
    refine held_take 0 rfl (by kernel_rfl) (by kernel_rfl) (by kernel_rfl) (.pointer (some ⟨F, 0, none⟩)) (fun _ _ _ h => nomatch h.1) (by kernel_rfl) (fun w' h => by kernel_rfl) hS ?_
    simp only [Act.put, List.setIfInBounds_toArray, List.set_cons_zero, List.set_cons_succ, List.getElem_toArray, List.getElem_cons_succ, List.getElem_cons_zero]
    refine held_take 2 rfl (by kernel_rfl) (by kernel_rfl) (by kernel_rfl) (.int .i64 (m : Int)) (fun _ _ _ h => nomatch h.1) (by kernel_rfl) (fun w' h => by kernel_rfl) hS ?_
    simp only [Act.put, List.setIfInBounds_toArray, List.set_cons_zero, List.set_cons_succ, List.getElem_toArray, List.getElem_cons_succ, List.getElem_cons_zero]
    refine held_take 3 rfl (by kernel_rfl) (by kernel_rfl) (by kernel_rfl) (.int .i64 (m : Int)) (fun _ _ _ h => nomatch h.1) (by kernel_rfl) (fun w' h => by kernel_rfl) hS ?_
    simp only [Act.put, List.setIfInBounds_toArray, List.set_cons_zero, List.set_cons_succ, List.getElem_toArray, List.getElem_cons_succ, List.getElem_cons_zero]
    refine held_take 5 rfl (by kernel_rfl) (by kernel_rfl) (by kernel_rfl) (.pointer (some ⟨F, 1, none⟩)) (fun _ _ _ h => nomatch h.1) (by kernel_rfl) (fun w' h => by kernel_rfl) hS ?_
    simp only [Act.put, List.setIfInBounds_toArray, List.set_cons_zero, List.set_cons_succ, List.getElem_toArray, List.getElem_cons_succ, List.getElem_cons_zero]
    refine held_take 7 rfl (by kernel_rfl) (by kernel_rfl) (by kernel_rfl) (.int .i64 (m : Int)) (fun _ _ _ h => nomatch h.1) (by kernel_rfl) (fun w' h => by kernel_rfl) hS ?_
    simp only [Act.put, List.setIfInBounds_toArray, List.set_cons_zero, List.set_cons_succ, List.getElem_toArray, List.getElem_cons_succ, List.getElem_cons_zero]
    refine held_two 1 6 rfl rfl (by kernel_rfl) (by kernel_rfl) (by kernel_rfl) (.slice A f0.bs.length c) y ?he1 hS (.int .i64 (su : Int)) y ?he2 hS ?_ ?_
    case he1 => exact exec_load_cell 30 y _ rfl ⟨F, 0, none⟩ (by kernel_rfl) _ (by rw [cell_of_row _ _ _ _ _ _ hFy]; rfl) (fun _ => by kernel_rfl)
    case he2 => exact exec_load_cell 3 y _ rfl ⟨F, 1, none⟩ (by kernel_rfl) _ (by rw [cell_of_row _ _ _ _ _ _ hFy]; rfl) (fun _ => by kernel_rfl)
    · simp only [Act.put, List.setIfInBounds_toArray, List.set_cons_zero, List.set_cons_succ, List.getElem_toArray, List.getElem_cons_succ, List.getElem_cons_zero]
      refine held_take 4 rfl (by kernel_rfl) (by kernel_rfl) (by kernel_rfl) (.slice A2 m m) (fun _ _ _ h => nomatch h.1) (by kernel_rfl) (fun w' h => (exec_cutS _ _ _ rfl A f0.bs.length c m (by kernel_rfl) (by kernel_rfl) (by kernel_rfl) hmc w').trans (by rw [hA2H.out])) hS ?_
      simp only [Act.put, List.setIfInBounds_toArray, List.set_cons_zero, List.set_cons_succ, List.getElem_toArray, List.getElem_cons_succ, List.getElem_cons_zero]
      refine held_run 6 rfl (by kernel_rfl) (by kernel_rfl) (.int .i64 (su : Int)) y ?he hS ?_
      case he => exact exec_load_cell 3 y _ rfl ⟨F, 1, none⟩ (by kernel_rfl) _ (by rw [cell_of_row _ _ _ _ _ _ hFy]; rfl) (fun _ => by kernel_rfl)
      simp only [Act.put, List.setIfInBounds_toArray, List.set_cons_zero, List.set_cons_succ, List.getElem_toArray, List.getElem_cons_succ, List.getElem_cons_zero]
      refine held_take 8 rfl (by kernel_rfl) (by kernel_rfl) (by kernel_rfl) (.int .i64 ((min f0.sure m : Nat) : Int)) (fun _ _ _ h => nomatch h.1) (by kernel_rfl) (fun w' h => (exec_minI _ _ rfl (su : Int) (m : Int) (by kernel_rfl) (by kernel_rfl) w').trans (by rw [← hsuH.out, show min (f0.sure : Int) (m : Int) = ((min f0.sure m : Nat) : Int) by omega])) hS ?_
      simp only [Act.put, List.setIfInBounds_toArray, List.set_cons_zero, List.set_cons_succ, List.getElem_toArray, List.getElem_cons_succ, List.getElem_cons_zero]
      refine held_take 9 rfl (by kernel_rfl) (by kernel_rfl) (by kernel_rfl) (.pointer (some ⟨F, 0, none⟩)) (fun _ _ _ h => nomatch h.1) (by kernel_rfl) (fun w' h => by kernel_rfl) hS ?_
      simp only [Act.put, List.setIfInBounds_toArray, List.set_cons_zero, List.set_cons_succ, List.getElem_toArray, List.getElem_cons_succ, List.getElem_cons_zero]
      refine held_did 10 rfl (by kernel_rfl) (by kernel_rfl) (y.setCell ⟨F, 0, none⟩ (.slice A2 m m)) ?he ?hS2 ?_
      case he => exact exec_store_cell 30 _ _ rfl F 0 (by kernel_rfl) (.slice A2 m m) (by kernel_rfl) (.slice A f0.bs.length c) (by rw [cell_of_row _ _ _ _ _ _ hFy]; rfl) (frozen_of_row _ _ _ _ _ hFy) (fun w => by kernel_rfl) rfl rfl
      case hS2 => exact hS.set F 0 _ (.inl rfl)
      simp only [Act.put, List.setIfInBounds_toArray, List.set_cons_zero, List.set_cons_succ, List.getElem_toArray, List.getElem_cons_succ, List.getElem_cons_zero]
      have hS2 := hS.set F 0 (.slice A2 m m) (.inl rfl)
      have hFy2 : (y.setCell ⟨F, 0, none⟩ (.slice A2 m m)).heap[F]? = some (.cells #[.slice A2 m m, .int .i64 (su : Int)] 65 (0, 0)) := heap_setCell_same _ _ _ _ _ _ hFy
      generalize (y.setCell ⟨F, 0, none⟩ (.slice A2 m m)) = y2 at hS2 hFy2
      refine held_take 11 rfl (by kernel_rfl) (by kernel_rfl) (by kernel_rfl) (.pointer (some ⟨F, 1, none⟩)) (fun _ _ _ h => nomatch h.1) (by kernel_rfl) (fun w' h => by kernel_rfl) hS2 ?_
      simp only [Act.put, List.setIfInBounds_toArray, List.set_cons_zero, List.set_cons_succ, List.getElem_toArray, List.getElem_cons_succ, List.getElem_cons_zero]
      have hS3 := hS2.set F 1 (.int .i64 ((min f0.sure m : Nat) : Int)) (.inl rfl)
      have hFy3 : (y2.setCell ⟨F, 1, none⟩ (.int .i64 ((min f0.sure m : Nat) : Int))).heap[F]? = some (.cells #[.slice A2 m m, .int .i64 ((min f0.sure m : Nat) : Int)] 65 (0, 0)) := heap_setCell_same _ _ _ _ _ _ hFy2
      refine held_did 12 rfl (by kernel_rfl) (by kernel_rfl) (y2.setCell ⟨F, 1, none⟩ (.int .i64 ((min f0.sure m : Nat) : Int))) ?he ?hS4 ?_
      case he => exact exec_store_cell 3 _ _ rfl F 1 (by kernel_rfl) (.int .i64 ((min f0.sure m : Nat) : Int)) (by kernel_rfl) (.int .i64 (su : Int)) (by rw [cell_of_row _ _ _ _ _ _ hFy2]; rfl) (frozen_of_row _ _ _ _ _ hFy2) (fun w => by kernel_rfl) rfl rfl
      case hS4 => exact hS3
      simp only [Act.put, List.setIfInBounds_toArray, List.set_cons_zero, List.set_cons_succ, List.getElem_toArray, List.getElem_cons_succ, List.getElem_cons_zero]
      refine wpAnyH_done (by kernel_rfl) ?_ _
      exact ⟨rfl, (), by kernel_rfl, hS3, hFy3⟩
    · simp only [Act.put, List.setIfInBounds_toArray, List.set_cons_zero, List.set_cons_succ, List.getElem_toArray, List.getElem_cons_succ, List.getElem_cons_zero]
      refine held_take 8 rfl (by kernel_rfl) (by kernel_rfl) (by kernel_rfl) (.int .i64 ((min f0.sure m : Nat) : Int)) (fun _ _ _ h => nomatch h.1) (by kernel_rfl) (fun w' h => (exec_minI _ _ rfl (su : Int) (m : Int) (by kernel_rfl) (by kernel_rfl) w').trans (by rw [← hsuH.out, show min (f0.sure : Int) (m : Int) = ((min f0.sure m : Nat) : Int) by omega])) hS ?_
      simp only [Act.put, List.setIfInBounds_toArray, List.set_cons_zero, List.set_cons_succ, List.getElem_toArray, List.getElem_cons_succ, List.getElem_cons_zero]
      refine held_run 1 rfl (by kernel_rfl) (by kernel_rfl) (.slice A f0.bs.length c) y ?he hS ?_
      case he => exact exec_load_cell 30 y _ rfl ⟨F, 0, none⟩ (by kernel_rfl) _ (by rw [cell_of_row _ _ _ _ _ _ hFy]; rfl) (fun _ => by kernel_rfl)
      simp only [Act.put, List.setIfInBounds_toArray, List.set_cons_zero, List.set_cons_succ, List.getElem_toArray, List.getElem_cons_succ, List.getElem_cons_zero]
      refine held_take 4 rfl (by kernel_rfl) (by kernel_rfl) (by kernel_rfl) (.slice A2 m m) (fun _ _ _ h => nomatch h.1) (by kernel_rfl) (fun w' h => (exec_cutS _ _ _ rfl A f0.bs.length c m (by kernel_rfl) (by kernel_rfl) (by kernel_rfl) hmc w').trans (by rw [hA2H.out])) hS ?_
      simp only [Act.put, List.setIfInBounds_toArray, List.set_cons_zero, List.set_cons_succ, List.getElem_toArray, List.getElem_cons_succ, List.getElem_cons_zero]
      refine held_take 9 rfl (by kernel_rfl) (by kernel_rfl) (by kernel_rfl) (.pointer (some ⟨F, 0, none⟩)) (fun _ _ _ h => nomatch h.1) (by kernel_rfl) (fun w' h => by kernel_rfl) hS ?_
      simp only [Act.put, List.setIfInBounds_toArray, List.set_cons_zero, List.set_cons_succ, List.getElem_toArray, List.getElem_cons_succ, List.getElem_cons_zero]
      refine held_did 10 rfl (by kernel_rfl) (by kernel_rfl) (y.setCell ⟨F, 0, none⟩ (.slice A2 m m)) ?he ?hS2 ?_
      case he => exact exec_store_cell 30 _ _ rfl F 0 (by kernel_rfl) (.slice A2 m m) (by kernel_rfl) (.slice A f0.bs.length c) (by rw [cell_of_row _ _ _ _ _ _ hFy]; rfl) (frozen_of_row _ _ _ _ _ hFy) (fun w => by kernel_rfl) rfl rfl
      case hS2 => exact hS.set F 0 _ (.inl rfl)
      simp only [Act.put, List.setIfInBounds_toArray, List.set_cons_zero, List.set_cons_succ, List.getElem_toArray, List.getElem_cons_succ, List.getElem_cons_zero]
      have hS2 := hS.set F 0 (.slice A2 m m) (.inl rfl)
      have hFy2 : (y.setCell ⟨F, 0, none⟩ (.slice A2 m m)).heap[F]? = some (.cells #[.slice A2 m m, .int .i64 (su : Int)] 65 (0, 0)) := heap_setCell_same _ _ _ _ _ _ hFy
      generalize (y.setCell ⟨F, 0, none⟩ (.slice A2 m m)) = y2 at hS2 hFy2
      refine held_take 11 rfl (by kernel_rfl) (by kernel_rfl) (by kernel_rfl) (.pointer (some ⟨F, 1, none⟩)) (fun _ _ _ h => nomatch h.1) (by kernel_rfl) (fun w' h => by kernel_rfl) hS2 ?_
      simp only [Act.put, List.setIfInBounds_toArray, List.set_cons_zero, List.set_cons_succ, List.getElem_toArray, List.getElem_cons_succ, List.getElem_cons_zero]
      have hS3 := hS2.set F 1 (.int .i64 ((min f0.sure m : Nat) : Int)) (.inl rfl)
      have hFy3 : (y2.setCell ⟨F, 1, none⟩ (.int .i64 ((min f0.sure m : Nat) : Int))).heap[F]? = some (.cells #[.slice A2 m m, .int .i64 ((min f0.sure m : Nat) : Int)] 65 (0, 0)) := heap_setCell_same _ _ _ _ _ _ hFy2
      refine held_did 12 rfl (by kernel_rfl) (by kernel_rfl) (y2.setCell ⟨F, 1, none⟩ (.int .i64 ((min f0.sure m : Nat) : Int))) ?he ?hS4 ?_
      case he => exact exec_store_cell 3 _ _ rfl F 1 (by kernel_rfl) (.int .i64 ((min f0.sure m : Nat) : Int)) (by kernel_rfl) (.int .i64 (su : Int)) (by rw [cell_of_row _ _ _ _ _ _ hFy2]; rfl) (frozen_of_row _ _ _ _ _ hFy2) (fun w => by kernel_rfl) rfl rfl
      case hS4 => exact hS3
      simp only [Act.put, List.setIfInBounds_toArray, List.set_cons_zero, List.set_cons_succ, List.getElem_toArray, List.getElem_cons_succ, List.getElem_cons_zero]
      refine wpAnyH_done (by kernel_rfl) ?_ _
      exact ⟨rfl, (), by kernel_rfl, hS3, hFy3⟩
  rintro ⟨⟩ W5 ⟨hk5, hF5⟩
  refine ⟨rfl, ?_⟩
  rename_i hK
  refine hK _ _ ?_
  clear hK
  simp only [Act.put, List.setIfInBounds_toArray, List.set_cons_zero, List.set_cons_succ]
  have hDW5 : Hid (DiskI W5 D mb d) := hDW3.out.kpF hFW3.out hk5
  have hBW5 : Hid (Below w.heap.size w W5) := below_kpF hBW3.out hk5 hFle.out hBW3.out.size
  have hBdW5 : Hid (W5.heap[Bd]? = some (.cells #[.pointer (some ⟨D, 0, none⟩)] 23 (0, 0))) := box_kpF hFW3.out hk5 hBdW3.out (by decide)
  have hBnW5 : Hid (W5.heap[Bn]? = some (.cells #[.string s] 9 (0, 0))) := box_kpF hFW3.out hk5 hBnW3.out (by decide)
  have hFW5 : Hid (W5.heap[F]? = some (.cells #[.slice A2 m m, .int .i64 ((min f0.sure m : Nat) : Int)] 65 (0, 0))) := hF5
  have hcW5 : Hid (Rw 1 encB W5 (.slice A2 m m) (f0.bs.take m)) := rw_kpF hFW3.out hk5 hcrH.out
  clear hk5 hF5 hcrH hA2H
  clear hDW3 hBW3 hBdW3 hBnW3 hrW3 hFW3
  have hlt2 : (f0.bs.take m).length = m := by rw [List.length_take]; omega
  go_upto_region 7 with fail
  refine wp_region_lit ?_
  refine sl_run rfl (.pointer (some ⟨D, 0, none⟩)) W5 (exec_load_cell 23 W5 _ rfl ⟨Bd, 0, none⟩ (by kernel_rfl) _ (by rw [cell_of_row _ _ _ _ _ _ hBdW5.out]; rfl) (fun _ => by kernel_rfl)) ?_
  simp only [Act.put, List.setIfInBounds_toArray, List.set_cons_zero, List.set_cons_succ]
  refine sl_run rfl (.func (.func 47) #[] #[.pointer (some ⟨F, 0, none⟩), .pointer (some ⟨Bd, 0, none⟩), .pointer (some ⟨Bn, 0, none⟩)]) W5 (by kernel_rfl) ?_
  simp only [Act.put, List.setIfInBounds_toArray, List.set_cons_zero, List.set_cons_succ]
  refine sg_call (by kernel_rfl) 41 #[.pointer (some ⟨D, 0, none⟩), .func (.func 47) #[] #[.pointer (some ⟨F, 0, none⟩), .pointer (some ⟨Bd, 0, none⟩), .pointer (some ⟨Bn, 0, none⟩)]] (by kernel_rfl) (R := fun u w' => u = .int .i64 (ee : Int) ∧ DiskI w' D mb d1 ∧ KpS (TD D mb) W5 w') ?hc ?_
  case hc =>
    refine (one_calls hDW5.out 47 #[.pointer (some ⟨F, 0, none⟩), .pointer (some ⟨Bd, 0, none⟩), .pointer (some ⟨Bn, 0, none⟩)] (fun w => by kernel_rfl) (fun L => DS.putL L ⟨s, f0.bs.take m, min f0.sure m⟩) fun w' hk hD => cut1_calls hD F Bd Bn ⟨s, f0.bs.take m, min f0.sure m⟩ (.slice A2 m m) (rw_kpS hDW5.out hcW5.out hk) ⟨by show min f0.sure m ≤ (f0.bs.take m).length; rw [hlt2]; exact Nat.min_le_right _ _, by show (f0.bs.take m).length ≤ _; rw [hlt2]; have := hfineH.out.2; omega⟩ (hk.box hDW5.out hFW5.out (by decide)) (hk.box hDW5.out hBdW5.out (by decide)) (hk.box hDW5.out hBnW5.out (by decide))).mono fun e w' h => ?_
    rw [hspec] at h
    exact ⟨_, h.1, rfl, h.2⟩
  rintro _ W4 ⟨rfl, hD4, hK4⟩
  simp only [Act.put, List.setIfInBounds_toArray, List.set_cons_zero, List.set_cons_succ]
  have hE : Hid (DiskI W4 D mb d1 ∧ KpS (TD D mb) w W4) := And.intro hD4 ((KpS.of hBW5.out).trans hK4)
  clear hD4 hK4
  clear hDW5 hBW5 hBdW5 hBnW5 hFW5 hcW5
  refine sl_run rfl (.int .i64 (ee : Int)) W4 (by kernel_rfl) ?_
  simp only [Act.put, List.setIfInBounds_toArray, List.set_cons_zero, List.set_cons_succ]
  refine wpList_nil ?_
  clear hlt2
  clear hspec hgetH hoffH hfineH hfnH hsuH
  go_wp2_with fail
  go_ret
  exact ⟨rfl, hE.out.1, hE.out.2⟩
end Go.Proofs.Ytmdfgndjphhgnaa
