/-
  Remove, Sync, Cut, Rename, Read of a disk.
-/
import Derived.Test.YtmdfgndjphhgnaaDi4
namespace Go.Proofs.Ytmdfgndjphhgnaa
open Go.RowKit
set_option linter.unusedVariables false
set_option linter.unusedSimpArgs false
/-- What a method keeps at hand: the disk, and what of the world at the call. -/
theorem size_al (w : World) (o : Obj) : (w.alloc o).heap.size = w.heap.size + 1 := by
  show (w.heap.push o).size = _
  exact Array.size_push ..
theorem heap_at (w : World) (o : Obj) (n : Nat) (h : n = w.heap.size) : (w.alloc o).heap[n]? = some o := by subst h; exact heap_alloc_new _ _
theorem err_ne {er : Nat} (h : er ≠ 0) : ((er : Int) != 0) = true := by rw [bne_iff_ne]; omega
theorem findS_ok {d : DS} {s : ByteArray} {bs : List Nat} {su : Nat} (h : d.findS s = (bs, su, 0)) : d.off = false ∧ ∃ f, d.get s = some f ∧ f.bs = bs ∧ f.sure = su ∧ f ∈ d.L ∧ f.nm = s := by
  unfold DS.findS at h
  cases ho : d.off with
  | true => rw [if_pos ho] at h; injection h with h h2; injection h2 with h2 h3; cases h3
  | false =>
    rw [if_neg (by rw [ho]; decide)] at h
    refine ⟨rfl, ?_⟩
    cases hg : d.get s with
    | none => rw [hg] at h; injection h with h h2; injection h2 with h2 h3; cases h3
    | some f =>
      rw [hg] at h
      injection h with h h2
      injection h2 with h2 h3
      have hm := List.mem_of_find?_eq_some hg
      have hn := List.find?_some hg
      simp at hn
      exact ⟨f, rfl, h, h2, hm, hn⟩
theorem findS_bad {d : DS} {s : ByteArray} {bs : List Nat} {su er : Nat} (h : d.findS s = (bs, su, er)) (he : er ≠ 0) : bs = [] ∧ su = 0 ∧ (d.off = true ∧ er = 20 ∨ d.off = false ∧ d.get s = none ∧ er = 4) := by
  unfold DS.findS at h
  cases ho : d.off with
  | true => rw [if_pos ho] at h; injection h with h h2; injection h2 with h2 h3; exact ⟨h.symm, h2.symm, .inl ⟨rfl, h3.symm⟩⟩
  | false =>
    rw [if_neg (by rw [ho]; decide)] at h
    cases hg : d.get s with
    | none => rw [hg] at h; injection h with h h2; injection h2 with h2 h3; exact ⟨h.symm, h2.symm, .inr ⟨rfl, rfl, h3.symm⟩⟩
    | some f => rw [hg] at h; injection h with h h2; injection h2 with h2 h3; exact absurd h3.symm he
set_option maxRecDepth 100000 in
theorem Remove_calls {w : World} {D mb : Nat} {d : DS} (h : DiskI w D mb d) (s : ByteArray) : Calls Try.prog 20 #[.pointer (some ⟨D, 0, none⟩), .string s] w fun e w' => e = .returned (.int .i64 ((d.rem s).2 : Int)) ∧ DiskI w' D mb (d.rem s).1 ∧ KpS (TD D mb) w w' := by
  have hDw : Hid (DiskI w D mb d) := h
  obtain ⟨d1, ee, hd1⟩ : ∃ p q, d.rem s = (p, q) := ⟨_, _, rfl⟩
  rw [hd1]
  have hd1H : Hid (d.rem s = (d1, ee)) := hd1
  obtain ⟨bs, su, er, hf⟩ : ∃ p q r, d.findS s = (p, q, r) := ⟨_, _, _, rfl⟩
  have hfS : Hid (d.findS s = (bs, su, er)) := hf
  clear h hd1 hf
  go_enter Try.func20, Try.ntmps20
  go_upto_region 1 with fail
  have h0Bd : ((w.alloc (.cells #[.pointer (some ⟨D, 0, none⟩)] 23)).alloc (.cells #[.string s] 9)).heap[w.heap.size]? = some (.cells #[.pointer (some ⟨D, 0, none⟩)] 23 (0, 0)) := (heap_kept (heap_at w _ w.heap.size rfl) ((Below.refl _ _).alloc (Nat.le_refl _) _))
  have h0Bn : ((w.alloc (.cells #[.pointer (some ⟨D, 0, none⟩)] 23)).alloc (.cells #[.string s] 9)).heap[(w.heap.size + 1)]? = some (.cells #[.string s] 9 (0, 0)) := (heap_at (w.alloc (.cells #[.pointer (some ⟨D, 0, none⟩)] 23)) _ (w.heap.size + 1) (by rw [size_al]))
  have hB0 : Below w.heap.size w ((w.alloc (.cells #[.pointer (some ⟨D, 0, none⟩)] 23)).alloc (.cells #[.string s] 9)) := (((Below.refl _ _).alloc (by exact Nat.le_refl _) _).alloc (by rw [size_al]; omega) _)
  generalize ((w.alloc (.cells #[.pointer (some ⟨D, 0, none⟩)] 23)).alloc (.cells #[.string s] 9)) = W at hB0 h0Bd h0Bn ⊢
  obtain ⟨Bd, hBd⟩ : ∃ B, B = w.heap.size := ⟨_, rfl⟩
  obtain ⟨Bn, hBn⟩ : ∃ B, B = (w.heap.size + 1) := ⟨_, rfl⟩
  rw [← hBn] at h0Bn ⊢
  rw [← hBd] at h0Bd ⊢
  have hBdW : Hid (W.heap[Bd]? = some (.cells #[.pointer (some ⟨D, 0, none⟩)] 23 (0, 0))) := h0Bd
  have hBnW : Hid (W.heap[Bn]? = some (.cells #[.string s] 9 (0, 0))) := h0Bn
  have hBW : Hid (Below w.heap.size w W) := hB0
  clear hB0 h0Bd h0Bn hBd hBn
  have hDW : Hid (DiskI W D mb d) := hDw.out.below hBW.out
  clear hDw
  refine wp_region_lit ?_
  refine sl_run rfl (.pointer (some ⟨D, 0, none⟩)) W (exec_load_cell 23 W _ rfl ⟨Bd, 0, none⟩ (by kernel_rfl) _ (by rw [cell_of_row _ _ _ _ _ _ hBdW.out]; rfl) (fun _ => by kernel_rfl)) ?_
  simp only [Act.put, List.setIfInBounds_toArray, List.set_cons_zero, List.set_cons_succ]
  refine sl_run rfl (.string s) W (exec_load_cell 9 W _ rfl ⟨Bn, 0, none⟩ (by kernel_rfl) _ (by rw [cell_of_row _ _ _ _ _ _ hBnW.out]; rfl) (fun _ => by kernel_rfl)) ?_
  simp only [Act.put, List.setIfInBounds_toArray, List.set_cons_zero, List.set_cons_succ]
  refine sg_call (by kernel_rfl) 32 #[.pointer (some ⟨D, 0, none⟩), .string s] (by kernel_rfl) (R := fun u w' => ∃ v, u = .tuple #[.agg #[v, .int .i64 (su : Int)], .int .i64 (er : Int)] ∧ Rw 1 encB w' v bs ∧ Below W.heap.size W w') ((find_calls hDW.out s).mono fun e w' h => by
    obtain ⟨v, h1, h2, h3⟩ := h
    rw [hfS.out] at h1 h2
    exact ⟨_, h1, v, rfl, h2, h3⟩) ?_
  rintro _ W2 ⟨v, rfl, hr, hb⟩
  obtain ⟨A, c, rfl⟩ := hr.form
  have hrW2 : Hid (Rw 1 encB W2 (.slice A bs.length c) bs) := hr
  clear hr
  simp only [Act.put, List.setIfInBounds_toArray, List.set_cons_zero, List.set_cons_succ]
  have hDW2 : Hid (DiskI W2 D mb d) := (hDW.out).below hb
  have hBW2 : Hid (Below w.heap.size w W2) := (hBW.out).trans ((hb).mono (hBW.out).size)
  have hBdW2 : Hid (W2.heap[Bd]? = some (.cells #[.pointer (some ⟨D, 0, none⟩)] 23 (0, 0))) := heap_kept hBdW.out hb
  have hBnW2 : Hid (W2.heap[Bn]? = some (.cells #[.string s] 9 (0, 0))) := heap_kept hBnW.out hb
  clear hDW hBW hBdW hBnW
  clear hb
  refine sl_run rfl (.tuple #[.agg #[.slice A bs.length c, .int .i64 (su : Int)], .int .i64 (er : Int)]) W2 (by kernel_rfl) ?_
  simp only [Act.put, List.setIfInBounds_toArray, List.set_cons_zero, List.set_cons_succ]
  refine sl_run rfl (.agg #[.slice A bs.length c, .int .i64 (su : Int)]) W2 (by kernel_rfl) ?_
  simp only [Act.put, List.setIfInBounds_toArray, List.set_cons_zero, List.set_cons_succ]
  refine sl_run rfl (.int .i64 (er : Int)) W2 (by kernel_rfl) ?_
  simp only [Act.put, List.setIfInBounds_toArray, List.set_cons_zero, List.set_cons_succ]
  refine sg_run (by kernel_rfl) (.pointer (some ⟨W2.heap.size, 0, none⟩)) (W2.alloc (.cells #[.slice none 0 0, .int .i64 0] 65)) (by kernel_rfl) ?_
  simp only [Act.put, List.setIfInBounds_toArray, List.set_cons_zero, List.set_cons_succ]
  refine sl_skipped (by kernel_rfl) ((W2.alloc (.cells #[.slice none 0 0, .int .i64 0] 65)).setRow W2.heap.size #[.slice A bs.length c, .int .i64 (su : Int)]) ?he ?_
  case he => exact exec_store_f _ _ rfl W2.heap.size (by kernel_rfl) (.slice A bs.length c) (su : Int) rfl (by kernel_rfl) #[.slice none 0 0, .int .i64 0] (heap_alloc_new _ _) rfl
  simp only [Act.put, List.setIfInBounds_toArray, List.set_cons_zero, List.set_cons_succ]
  have hb : Below W2.heap.size W2 ((W2.alloc (.cells #[.slice none 0 0, .int .i64 0] 65)).setRow W2.heap.size #[.slice A bs.length c, .int .i64 (su : Int)]) := below_setRow ((Below.refl _ _).alloc (Nat.le_refl _) _) (Nat.le_refl _) _
  have hf0 : ((W2.alloc (.cells #[.slice none 0 0, .int .i64 0] 65)).setRow W2.heap.size #[.slice A bs.length c, .int .i64 (su : Int)]).heap[W2.heap.size]? = some (.cells #[.slice A bs.length c, .int .i64 (su : Int)] 65 (0, 0)) := setRow_heap _ _ #[.slice none 0 0, .int .i64 0] _ 65 (0, 0) (heap_alloc_new _ _)
  generalize ((W2.alloc (.cells #[.slice none 0 0, .int .i64 0] 65)).setRow W2.heap.size #[.slice A bs.length c, .int .i64 (su : Int)]) = W3 at hb hf0 ⊢
  have hle0 : w.heap.size ≤ W2.heap.size := hBW2.out.size
  obtain ⟨F, hFe⟩ : ∃ F, F = W2.heap.size := ⟨_, rfl⟩
  have hDW3 : Hid (DiskI W3 D mb d) := (hDW2.out).below hb
  have hBW3 : Hid (Below w.heap.size w W3) := (hBW2.out).trans ((hb).mono (hBW2.out).size)
  have hBdW3 : Hid (W3.heap[Bd]? = some (.cells #[.pointer (some ⟨D, 0, none⟩)] 23 (0, 0))) := heap_kept hBdW2.out hb
  have hBnW3 : Hid (W3.heap[Bn]? = some (.cells #[.string s] 9 (0, 0))) := heap_kept hBnW2.out hb
  have hrW3 : Hid (Rw 1 encB W3 (.slice A bs.length c) bs) := (hrW2.out).below hb
  clear hDW2 hBW2 hBdW2 hBnW2 hrW2
  rw [← hFe] at hf0 hle0 ⊢
  have hFW3 : Hid (W3.heap[F]? = some (.cells #[.slice A bs.length c, .int .i64 (su : Int)] 65 (0, 0))) := hf0
  have hFle : Hid (w.heap.size ≤ F) := hle0
  clear hb hf0 hle0 hFe
  refine sl_run rfl (.int .i64 (er : Int)) W3 (by kernel_rfl) ?_
  simp only [Act.put, List.setIfInBounds_toArray, List.set_cons_zero, List.set_cons_succ]
  refine wpList_nil ?_
  by_cases he : er = 0
  case neg =>
    have hI : ((er : Int) != 0) = true := err_ne he
    have hI2 : ¬ (er : Int) = 0 := by omega
    have hF : Hid (d1 = d ∧ ee = er) := by
      obtain ⟨_, _, hb⟩ := findS_bad hfS.out he
      have h8 := hd1H.out
      unfold DS.rem at h8
      rcases hb with ⟨h9, e9⟩ | ⟨h9, h7, e9⟩
      · rw [if_pos h9] at h8
        injection h8 with h8 h7
        exact And.intro h8.symm (h7.symm.trans e9.symm)
      · rw [if_neg (by rw [h9]; decide), h7] at h8
        injection h8 with h8 h7
        exact And.intro h8.symm (h7.symm.trans e9.symm)
    obtain ⟨rfl, rfl⟩ := hF.out
    have hE : Hid (DiskI W3 D mb d1 ∧ KpS (TD D mb) w W3) := And.intro hDW3.out (KpS.of hBW3.out)
    clear hF hfS hd1H he
    clear hDW3 hBW3 hBdW3 hBnW3 hrW3 hFW3
    go_wp2_with fail
    go_ret
    exact ⟨rfl, hE.out.1, hE.out.2⟩
  case pos =>
  subst he
  obtain ⟨hoff, f0, hget, hfb, hfs, hmem, hfn⟩ := findS_ok hfS.out
  have hgetH : Hid (d.get s = some f0) := hget
  have hoffH : Hid (d.off = false) := hoff
  have hfineH : Hid (f0.sure ≤ f0.bs.length ∧ f0.bs.length ≤ 1048576) := hDW3.out.fine f0 hmem
  have hfnH : Hid (f0.nm = s) := hfn
  have hsuH : Hid (f0.sure = su) := hfs
  subst hfb
  have hspec := hd1H.out
  unfold DS.rem at hspec
  rw [if_neg (by rw [hoff]; decide), hget] at hspec
  dsimp only at hspec
  clear hd1H hfS hget hoff hfn hfs hmem
  go_upto_region 4 with fail
  refine wp_region_lit ?_
  refine sl_run rfl (.pointer (some ⟨D, 0, none⟩)) W3 (exec_load_cell 23 W3 _ rfl ⟨Bd, 0, none⟩ (by kernel_rfl) _ (by rw [cell_of_row _ _ _ _ _ _ hBdW3.out]; rfl) (fun _ => by kernel_rfl)) ?_
  simp only [Act.put, List.setIfInBounds_toArray, List.set_cons_zero, List.set_cons_succ]
  refine sl_run rfl (.func (.func 48) #[] #[.pointer (some ⟨Bd, 0, none⟩), .pointer (some ⟨Bn, 0, none⟩)]) W3 (by kernel_rfl) ?_
  simp only [Act.put, List.setIfInBounds_toArray, List.set_cons_zero, List.set_cons_succ]
  refine sg_call (by kernel_rfl) 41 #[.pointer (some ⟨D, 0, none⟩), .func (.func 48) #[] #[.pointer (some ⟨Bd, 0, none⟩), .pointer (some ⟨Bn, 0, none⟩)]] (by kernel_rfl) (R := fun u w' => u = .int .i64 (ee : Int) ∧ DiskI w' D mb d1 ∧ KpS (TD D mb) W3 w') ?hc ?_
  case hc =>
    refine (one_calls hDW3.out 48 #[.pointer (some ⟨Bd, 0, none⟩), .pointer (some ⟨Bn, 0, none⟩)] (fun w => by kernel_rfl) (fun L => DS.del L s) fun w' hk hD => rem1_calls hD Bd Bn s (hk.box hDW3.out hBdW3.out (by decide)) (hk.box hDW3.out hBnW3.out (by decide))).mono fun e w' h => ?_
    rw [hspec] at h
    exact ⟨_, h.1, rfl, h.2⟩
  rintro _ W4 ⟨rfl, hD4, hK4⟩
  simp only [Act.put, List.setIfInBounds_toArray, List.set_cons_zero, List.set_cons_succ]
  have hE : Hid (DiskI W4 D mb d1 ∧ KpS (TD D mb) w W4) := And.intro hD4 ((KpS.of hBW3.out).trans hK4)
  clear hD4 hK4
  clear hDW3 hBW3 hBdW3 hBnW3 hrW3 hFW3
  refine sl_run rfl (.int .i64 (ee : Int)) W4 (by kernel_rfl) ?_
  simp only [Act.put, List.setIfInBounds_toArray, List.set_cons_zero, List.set_cons_succ]
  refine wpList_nil ?_
  clear hspec hgetH hoffH hfineH hfnH hsuH
  go_wp2_with fail
  go_ret
  exact ⟨rfl, hE.out.1, hE.out.2⟩
theorem rw_setF {w : World} {F n c : Nat} {A : Option Addr} {m : Int} (hF : w.heap[F]? = some (.cells #[.slice A n c, .int .i64 m] 65 (0, 0))) {v : Value} {l : List Nat} (hr : Rw 1 encB w v l) (k : Nat) (u : Value) : Rw 1 encB (w.setCell ⟨F, k, none⟩ u) v l := by
  refine hr.kept (by simp [World.setCell]) (fun hl q hq => Below.heap_setCell w ⟨F, k, none⟩ u q (fun e => ?_))
  obtain ⟨A', c', rfl⟩ := hr.form
  obtain ⟨g, o, rfl, _, _, hel⟩ := hr.elem 0 (List.length_pos_iff.2 hl)
  have hg : g = q := by
    simp [Value.ownBlock] at hq; exact hq
  subst hg
  have hc := hel 0 (.int .u8 ((l.getD 0 default : Nat) : Int)) rfl
  have e : g = F := e
  subst e
  rw [cell_of_row _ _ _ _ _ _ hF] at hc
  simp only [Nat.zero_mul, Nat.add_zero] at hc
  match o, hc with
  | 0, hc => simp at hc
  | 1, hc => simp at hc
  | o + 2, hc => simp at hc
theorem DiskI.setF {w : World} {D mb : Nat} {d : DS} (h : DiskI w D mb d) {F n c : Nat} {A : Option Addr} {m : Int} (hF : w.heap[F]? = some (.cells #[.slice A n c, .int .i64 m] 65 (0, 0))) (k : Nat) (u : Value) : DiskI (w.setCell ⟨F, k, none⟩ u) D mb d := by
  obtain ⟨h1, ⟨L, h2, h3, h4⟩, h5, h6, h7⟩ := h
  refine ⟨(Below.heap_setCell w ⟨F, k, none⟩ u D (fun e => ?_)).trans h1, ⟨L, h2.kept (Below.heap_setCell w ⟨F, k, none⟩ u mb (fun e => ?_)), h3, fun p hp => rw_setF hF (h4 p hp) k u⟩, h5, h6, h7⟩
  · have e : D = F := e
    rw [e, hF] at h1; simp at h1
  · have e : mb = F := e
    obtain ⟨es, clock, hm⟩ := h2
    have := hm.heap
    rw [e, hF] at this; cases this
theorem below_setC {B : Nat} {a w : World} (h : Below B a w) {g : Nat} (hg : B ≤ g) (k : Nat) (u : Value) : Below B a (w.setCell ⟨g, k, none⟩ u) :=
  ⟨h.os, h.tape, h.output, by simpa [World.setCell] using h.size, fun j hj => (Below.heap_setCell w ⟨g, k, none⟩ u j (fun e => by
    have e : j = g := e
    omega)).trans (h.block j hj)⟩
theorem box_setF {w : World} {F B : Nat} {cs cs' : Array Value} {t : TypeId} (hF : w.heap[F]? = some (.cells cs 65 (0, 0))) (hB : w.heap[B]? = some (.cells cs' t (0, 0))) (ht : t ≠ 65) (k : Nat) (u : Value) : (w.setCell ⟨F, k, none⟩ u).heap[B]? = some (.cells cs' t (0, 0)) :=
  (Below.heap_setCell w ⟨F, k, none⟩ u B (fun e => by
    have e : B = F := e
    subst e
    rw [hF] at hB; simp at hB; exact ht hB.2.symm)).trans hB
set_option maxRecDepth 100000 in
theorem Sync_calls {w : World} {D mb : Nat} {d : DS} (h : DiskI w D mb d) (s : ByteArray) : Calls Try.prog 14 #[.pointer (some ⟨D, 0, none⟩), .string s] w fun e w' => e = .returned (.int .i64 ((d.sync s).2 : Int)) ∧ DiskI w' D mb (d.sync s).1 ∧ KpS (TD D mb) w w' := by
  have hDw : Hid (DiskI w D mb d) := h
  obtain ⟨d1, ee, hd1⟩ : ∃ p q, d.sync s = (p, q) := ⟨_, _, rfl⟩
  rw [hd1]
  have hd1H : Hid (d.sync s = (d1, ee)) := hd1
  obtain ⟨bs, su, er, hf⟩ : ∃ p q r, d.findS s = (p, q, r) := ⟨_, _, _, rfl⟩
  have hfS : Hid (d.findS s = (bs, su, er)) := hf
  clear h hd1 hf
  go_enter Try.func14, Try.ntmps14
  go_upto_region 1 with fail
  have h0Bd : ((w.alloc (.cells #[.pointer (some ⟨D, 0, none⟩)] 23)).alloc (.cells #[.string s] 9)).heap[w.heap.size]? = some (.cells #[.pointer (some ⟨D, 0, none⟩)] 23 (0, 0)) := (heap_kept (heap_at w _ w.heap.size rfl) ((Below.refl _ _).alloc (Nat.le_refl _) _))
  have h0Bn : ((w.alloc (.cells #[.pointer (some ⟨D, 0, none⟩)] 23)).alloc (.cells #[.string s] 9)).heap[(w.heap.size + 1)]? = some (.cells #[.string s] 9 (0, 0)) := (heap_at (w.alloc (.cells #[.pointer (some ⟨D, 0, none⟩)] 23)) _ (w.heap.size + 1) (by rw [size_al]))
  have hB0 : Below w.heap.size w ((w.alloc (.cells #[.pointer (some ⟨D, 0, none⟩)] 23)).alloc (.cells #[.string s] 9)) := (((Below.refl _ _).alloc (by exact Nat.le_refl _) _).alloc (by rw [size_al]; omega) _)
  generalize ((w.alloc (.cells #[.pointer (some ⟨D, 0, none⟩)] 23)).alloc (.cells #[.string s] 9)) = W at hB0 h0Bd h0Bn ⊢
  obtain ⟨Bd, hBd⟩ : ∃ B, B = w.heap.size := ⟨_, rfl⟩
  obtain ⟨Bn, hBn⟩ : ∃ B, B = (w.heap.size + 1) := ⟨_, rfl⟩
  rw [← hBn] at h0Bn ⊢
  rw [← hBd] at h0Bd ⊢
  have hBdW : Hid (W.heap[Bd]? = some (.cells #[.pointer (some ⟨D, 0, none⟩)] 23 (0, 0))) := h0Bd
  have hBnW : Hid (W.heap[Bn]? = some (.cells #[.string s] 9 (0, 0))) := h0Bn
  have hBW : Hid (Below w.heap.size w W) := hB0
  clear hB0 h0Bd h0Bn hBd hBn
  have hDW : Hid (DiskI W D mb d) := hDw.out.below hBW.out
  clear hDw
  refine wp_region_lit ?_
  refine sl_run rfl (.pointer (some ⟨D, 0, none⟩)) W (exec_load_cell 23 W _ rfl ⟨Bd, 0, none⟩ (by kernel_rfl) _ (by rw [cell_of_row _ _ _ _ _ _ hBdW.out]; rfl) (fun _ => by kernel_rfl)) ?_
  simp only [Act.put, List.setIfInBounds_toArray, List.set_cons_zero, List.set_cons_succ]
  refine sl_run rfl (.string s) W (exec_load_cell 9 W _ rfl ⟨Bn, 0, none⟩ (by kernel_rfl) _ (by rw [cell_of_row _ _ _ _ _ _ hBnW.out]; rfl) (fun _ => by kernel_rfl)) ?_
  simp only [Act.put, List.setIfInBounds_toArray, List.set_cons_zero, List.set_cons_succ]
  refine sg_call (by kernel_rfl) 32 #[.pointer (some ⟨D, 0, none⟩), .string s] (by kernel_rfl) (R := fun u w' => ∃ v, u = .tuple #[.agg #[v, .int .i64 (su : Int)], .int .i64 (er : Int)] ∧ Rw 1 encB w' v bs ∧ Below W.heap.size W w') ((find_calls hDW.out s).mono fun e w' h => by
    obtain ⟨v, h1, h2, h3⟩ := h
    rw [hfS.out] at h1 h2
    exact ⟨_, h1, v, rfl, h2, h3⟩) ?_
  rintro _ W2 ⟨v, rfl, hr, hb⟩
  obtain ⟨A, c, rfl⟩ := hr.form
  have hrW2 : Hid (Rw 1 encB W2 (.slice A bs.length c) bs) := hr
  clear hr
  simp only [Act.put, List.setIfInBounds_toArray, List.set_cons_zero, List.set_cons_succ]
  have hDW2 : Hid (DiskI W2 D mb d) := (hDW.out).below hb
  have hBW2 : Hid (Below w.heap.size w W2) := (hBW.out).trans ((hb).mono (hBW.out).size)
  have hBdW2 : Hid (W2.heap[Bd]? = some (.cells #[.pointer (some ⟨D, 0, none⟩)] 23 (0, 0))) := heap_kept hBdW.out hb
  have hBnW2 : Hid (W2.heap[Bn]? = some (.cells #[.string s] 9 (0, 0))) := heap_kept hBnW.out hb
  clear hDW hBW hBdW hBnW
  clear hb
  refine sl_run rfl (.tuple #[.agg #[.slice A bs.length c, .int .i64 (su : Int)], .int .i64 (er : Int)]) W2 (by kernel_rfl) ?_
  simp only [Act.put, List.setIfInBounds_toArray, List.set_cons_zero, List.set_cons_succ]
  refine sl_run rfl (.agg #[.slice A bs.length c, .int .i64 (su : Int)]) W2 (by kernel_rfl) ?_
  simp only [Act.put, List.setIfInBounds_toArray, List.set_cons_zero, List.set_cons_succ]
  refine sl_run rfl (.int .i64 (er : Int)) W2 (by kernel_rfl) ?_
  simp only [Act.put, List.setIfInBounds_toArray, List.set_cons_zero, List.set_cons_succ]
  refine sg_run (by kernel_rfl) (.pointer (some ⟨W2.heap.size, 0, none⟩)) (W2.alloc (.cells #[.slice none 0 0, .int .i64 0] 65)) (by kernel_rfl) ?_
  simp only [Act.put, List.setIfInBounds_toArray, List.set_cons_zero, List.set_cons_succ]
  refine sl_skipped (by kernel_rfl) ((W2.alloc (.cells #[.slice none 0 0, .int .i64 0] 65)).setRow W2.heap.size #[.slice A bs.length c, .int .i64 (su : Int)]) ?he ?_
  case he => exact exec_store_f _ _ rfl W2.heap.size (by kernel_rfl) (.slice A bs.length c) (su : Int) rfl (by kernel_rfl) #[.slice none 0 0, .int .i64 0] (heap_alloc_new _ _) rfl
  simp only [Act.put, List.setIfInBounds_toArray, List.set_cons_zero, List.set_cons_succ]
  have hb : Below W2.heap.size W2 ((W2.alloc (.cells #[.slice none 0 0, .int .i64 0] 65)).setRow W2.heap.size #[.slice A bs.length c, .int .i64 (su : Int)]) := below_setRow ((Below.refl _ _).alloc (Nat.le_refl _) _) (Nat.le_refl _) _
  have hf0 : ((W2.alloc (.cells #[.slice none 0 0, .int .i64 0] 65)).setRow W2.heap.size #[.slice A bs.length c, .int .i64 (su : Int)]).heap[W2.heap.size]? = some (.cells #[.slice A bs.length c, .int .i64 (su : Int)] 65 (0, 0)) := setRow_heap _ _ #[.slice none 0 0, .int .i64 0] _ 65 (0, 0) (heap_alloc_new _ _)
  generalize ((W2.alloc (.cells #[.slice none 0 0, .int .i64 0] 65)).setRow W2.heap.size #[.slice A bs.length c, .int .i64 (su : Int)]) = W3 at hb hf0 ⊢
  have hle0 : w.heap.size ≤ W2.heap.size := hBW2.out.size
  obtain ⟨F, hFe⟩ : ∃ F, F = W2.heap.size := ⟨_, rfl⟩
  have hDW3 : Hid (DiskI W3 D mb d) := (hDW2.out).below hb
  have hBW3 : Hid (Below w.heap.size w W3) := (hBW2.out).trans ((hb).mono (hBW2.out).size)
  have hBdW3 : Hid (W3.heap[Bd]? = some (.cells #[.pointer (some ⟨D, 0, none⟩)] 23 (0, 0))) := heap_kept hBdW2.out hb
  have hBnW3 : Hid (W3.heap[Bn]? = some (.cells #[.string s] 9 (0, 0))) := heap_kept hBnW2.out hb
  have hrW3 : Hid (Rw 1 encB W3 (.slice A bs.length c) bs) := (hrW2.out).below hb
  clear hDW2 hBW2 hBdW2 hBnW2 hrW2
  rw [← hFe] at hf0 hle0 ⊢
  have hFW3 : Hid (W3.heap[F]? = some (.cells #[.slice A bs.length c, .int .i64 (su : Int)] 65 (0, 0))) := hf0
  have hFle : Hid (w.heap.size ≤ F) := hle0
  clear hb hf0 hle0 hFe
  refine sl_run rfl (.int .i64 (er : Int)) W3 (by kernel_rfl) ?_
  simp only [Act.put, List.setIfInBounds_toArray, List.set_cons_zero, List.set_cons_succ]
  refine wpList_nil ?_
  by_cases he : er = 0
  case neg =>
    have hI : ((er : Int) != 0) = true := err_ne he
    have hI2 : ¬ (er : Int) = 0 := by omega
    have hF : Hid (d1 = d ∧ ee = er) := by
      obtain ⟨_, _, hb⟩ := findS_bad hfS.out he
      have h8 := hd1H.out
      unfold DS.sync at h8
      rcases hb with ⟨h9, e9⟩ | ⟨h9, h7, e9⟩
      · rw [if_pos h9] at h8
        injection h8 with h8 h7
        exact And.intro h8.symm (h7.symm.trans e9.symm)
      · rw [if_neg (by rw [h9]; decide), h7] at h8
        injection h8 with h8 h7
        exact And.intro h8.symm (h7.symm.trans e9.symm)
    obtain ⟨rfl, rfl⟩ := hF.out
    have hE : Hid (DiskI W3 D mb d1 ∧ KpS (TD D mb) w W3) := And.intro hDW3.out (KpS.of hBW3.out)
    clear hF hfS hd1H he
    clear hDW3 hBW3 hBdW3 hBnW3 hrW3 hFW3
    go_wp2_with fail
    go_ret
    exact ⟨rfl, hE.out.1, hE.out.2⟩
  case pos =>
  subst he
  obtain ⟨hoff, f0, hget, hfb, hfs, hmem, hfn⟩ := findS_ok hfS.out
  have hgetH : Hid (d.get s = some f0) := hget
  have hoffH : Hid (d.off = false) := hoff
  have hfineH : Hid (f0.sure ≤ f0.bs.length ∧ f0.bs.length ≤ 1048576) := hDW3.out.fine f0 hmem
  have hfnH : Hid (f0.nm = s) := hfn
  have hsuH : Hid (f0.sure = su) := hfs
  subst hfb
  have hspec := hd1H.out
  unfold DS.sync at hspec
  rw [if_neg (by rw [hoff]; decide), hget] at hspec
  dsimp only at hspec
  clear hd1H hfS hget hoff hfn hfs hmem
  go_upto_region 4 with fail
  refine wp_region_lit ?_
  refine sl_run rfl (.pointer (some ⟨F, 0, none⟩)) W3 (by kernel_rfl) ?_
  simp only [Act.put, List.setIfInBounds_toArray, List.set_cons_zero, List.set_cons_succ]
  refine sl_run rfl (.slice A f0.bs.length c) W3 (exec_load_cell 30 W3 _ rfl ⟨F, 0, none⟩ (by kernel_rfl) _ (by rw [cell_of_row _ _ _ _ _ _ hFW3.out]; rfl) (fun _ => by kernel_rfl)) ?_
  simp only [Act.put, List.setIfInBounds_toArray, List.set_cons_zero, List.set_cons_succ]
  refine sl_run rfl (.int .i64 (f0.bs.length : Int)) W3 (by kernel_rfl) ?_
  simp only [Act.put, List.setIfInBounds_toArray, List.set_cons_zero, List.set_cons_succ]
  refine sl_run rfl (.pointer (some ⟨F, 1, none⟩)) W3 (by kernel_rfl) ?_
  simp only [Act.put, List.setIfInBounds_toArray, List.set_cons_zero, List.set_cons_succ]
  refine sl_skipped (by kernel_rfl) (W3.setCell ⟨F, 1, none⟩ (.int .i64 (f0.bs.length : Int))) ?he ?_
  case he => exact exec_store_cell 3 _ _ rfl F 1 (by kernel_rfl) (.int .i64 (f0.bs.length : Int)) (by kernel_rfl) (.int .i64 (su : Int)) (by rw [cell_of_row _ _ _ _ _ _ hFW3.out]; rfl) (frozen_of_row _ _ _ _ _ hFW3.out) (fun w => by kernel_rfl) rfl rfl
  simp only [Act.put, List.setIfInBounds_toArray, List.set_cons_zero, List.set_cons_succ]
  have hDW5 : Hid (DiskI (W3.setCell ⟨F, 1, none⟩ (.int .i64 (f0.bs.length : Int))) D mb d) := hDW3.out.setF hFW3.out 1 _
  have hBW5 : Hid (Below w.heap.size w (W3.setCell ⟨F, 1, none⟩ (.int .i64 (f0.bs.length : Int)))) := below_setC hBW3.out hFle.out 1 _
  have hrW5 : Hid (Rw 1 encB (W3.setCell ⟨F, 1, none⟩ (.int .i64 (f0.bs.length : Int))) (.slice A f0.bs.length c) f0.bs) := rw_setF hFW3.out hrW3.out 1 _
  have hFW5 : Hid ((W3.setCell ⟨F, 1, none⟩ (.int .i64 (f0.bs.length : Int))).heap[F]? = some (.cells #[.slice A f0.bs.length c, .int .i64 (f0.bs.length : Int)] 65 (0, 0))) := heap_setCell_same _ _ _ _ _ _ hFW3.out
  have hBdW5 : Hid ((W3.setCell ⟨F, 1, none⟩ (.int .i64 (f0.bs.length : Int))).heap[Bd]? = some (.cells #[.pointer (some ⟨D, 0, none⟩)] 23 (0, 0))) := box_setF hFW3.out hBdW3.out (by decide) 1 _
  have hBnW5 : Hid ((W3.setCell ⟨F, 1, none⟩ (.int .i64 (f0.bs.length : Int))).heap[Bn]? = some (.cells #[.string s] 9 (0, 0))) := box_setF hFW3.out hBnW3.out (by decide) 1 _
  generalize (W3.setCell ⟨F, 1, none⟩ (.int .i64 (f0.bs.length : Int))) = W5 at hDW5 hBW5 hrW5 hFW5 hBdW5 hBnW5 ⊢
  clear hDW3 hBW3 hBdW3 hBnW3 hrW3 hFW3
  refine wpList_nil ?_
  go_upto_region 5 with fail
  refine wp_region_lit ?_
  refine sl_run rfl (.pointer (some ⟨D, 0, none⟩)) W5 (exec_load_cell 23 W5 _ rfl ⟨Bd, 0, none⟩ (by kernel_rfl) _ (by rw [cell_of_row _ _ _ _ _ _ hBdW5.out]; rfl) (fun _ => by kernel_rfl)) ?_
  simp only [Act.put, List.setIfInBounds_toArray, List.set_cons_zero, List.set_cons_succ]
  refine sl_run rfl (.func (.func 42) #[] #[.pointer (some ⟨F, 0, none⟩), .pointer (some ⟨Bd, 0, none⟩), .pointer (some ⟨Bn, 0, none⟩)]) W5 (by kernel_rfl) ?_
  simp only [Act.put, List.setIfInBounds_toArray, List.set_cons_zero, List.set_cons_succ]
  refine sg_call (by kernel_rfl) 41 #[.pointer (some ⟨D, 0, none⟩), .func (.func 42) #[] #[.pointer (some ⟨F, 0, none⟩), .pointer (some ⟨Bd, 0, none⟩), .pointer (some ⟨Bn, 0, none⟩)]] (by kernel_rfl) (R := fun u w' => u = .int .i64 (ee : Int) ∧ DiskI w' D mb d1 ∧ KpS (TD D mb) W5 w') ?hc ?_
  case hc =>
    refine (one_calls hDW5.out 42 #[.pointer (some ⟨F, 0, none⟩), .pointer (some ⟨Bd, 0, none⟩), .pointer (some ⟨Bn, 0, none⟩)] (fun w => by kernel_rfl) (fun L => DS.putL L ⟨s, f0.bs, f0.bs.length⟩) fun w' hk hD => sync1_calls hD F Bd Bn ⟨s, f0.bs, f0.bs.length⟩ (.slice A f0.bs.length c) (rw_kpS hDW5.out hrW5.out hk) ⟨Nat.le_refl _, hfineH.out.2⟩ (hk.box hDW5.out hFW5.out (by decide)) (hk.box hDW5.out hBdW5.out (by decide)) (hk.box hDW5.out hBnW5.out (by decide))).mono fun e w' h => ?_
    rw [hspec] at h
    exact ⟨_, h.1, rfl, h.2⟩
  rintro _ W4 ⟨rfl, hD4, hK4⟩
  simp only [Act.put, List.setIfInBounds_toArray, List.set_cons_zero, List.set_cons_succ]
  have hE : Hid (DiskI W4 D mb d1 ∧ KpS (TD D mb) w W4) := And.intro hD4 ((KpS.of hBW5.out).trans hK4)
  clear hD4 hK4
  clear hDW5 hBW5 hBdW5 hBnW5 hrW5 hFW5
  refine sl_run rfl (.int .i64 (ee : Int)) W4 (by kernel_rfl) ?_
  simp only [Act.put, List.setIfInBounds_toArray, List.set_cons_zero, List.set_cons_succ]
  refine wpList_nil ?_
  clear hspec hgetH hoffH hfineH hfnH hsuH
  go_wp2_with fail
  go_ret
  exact ⟨rfl, hE.out.1, hE.out.2⟩
end Go.Proofs.Ytmdfgndjphhgnaa
