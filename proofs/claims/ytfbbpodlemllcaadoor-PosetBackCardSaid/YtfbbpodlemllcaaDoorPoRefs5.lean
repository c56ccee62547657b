/-
  Orders, the reference: Build.
-/
import Derived.Test.YtfbbpodlemllcaaDoorPoRefs2
namespace Go.Proofs.YtfbbpodlemllcaaDoor
open Go.RowKit Go.Shelf
set_option linter.unusedVariables false
set_option linter.unusedSimpArgs false
set_option pp.maxSteps 50000
/-- The masks lie at the head of a block. -/
def RowC (g : Nat) (l : List Nat) (w : World) : Prop := ∃ cur : Array Value, w.heap[g]? = some (.cells cur 36 (0, 0)) ∧ l.length ≤ cur.size ∧ cur.toList.take l.length = flat encM l
theorem flatM (l : List Nat) : flat encM l = l.map fun (m : Nat) => Value.int .u64 (m : Int) := by
  induction l with
  | nil => rfl
  | cons x xs ih => simp [flat, encM] at ih ⊢; exact ih
theorem RowC.cell {g : Nat} {l : List Nat} {w : World} (h : RowC g l w) {i : Nat} (hi : i < l.length) : w.cell? ⟨g, i, none⟩ = some (.int .u64 ((l.getD i 0 : Nat) : Int)) := by
  obtain ⟨cur, h1, h2, h3⟩ := h
  rw [cell_of_row _ _ _ _ _ _ h1]
  have h4 : (cur.toList.take l.length)[i]? = (flat encM l)[i]? := by rw [h3]
  rw [List.getElem?_take, if_pos hi, flatM, Array.getElem?_toList] at h4
  rw [h4]; simp [hi]
theorem RowC.below {g : Nat} {l : List Nat} {w w' : World} (h : RowC g l w) (hb : Below w.heap.size w w') : RowC g l w' := by
  obtain ⟨cur, h1, h2⟩ := h
  exact ⟨cur, heap_kept h1 hb, h2⟩
theorem RowC.frozen {g i : Nat} {l : List Nat} {w : World} (h : RowC g l w) : w.frozen? ⟨g, i, none⟩ = false := by
  obtain ⟨cur, h1, h2⟩ := h
  exact frozen_of_row _ _ _ _ _ h1
theorem RowC.set {g : Nat} {l : List Nat} {w : World} (h : RowC g l w) (i m : Nat) (hi : i < l.length) : RowC g (l.set i m) (w.setCell ⟨g, i, none⟩ (.int .u64 (m : Int))) := by
  obtain ⟨cur, h1, h2, h3⟩ := h
  refine ⟨_, heap_setCell_same w g i _ _ (.int .u64 (m : Int)) h1, by simpa using h2, ?_⟩
  rw [List.length_set, Array.toList_setIfInBounds, List.take_set, h3, flatM, flatM, List.map_set]
theorem RowC.ms {g n c : Nat} {l : List Nat} {w : World} (h : RowC g l w) (hn : n = l.length) (hc : n ≤ c) : Ms w (.slice (some ⟨g, 0, none⟩) n c) l := by
  have h0 := h
  obtain ⟨cur, h1, h2, h3⟩ := h
  refine .inr ⟨g, 0, c, by rw [hn], by omega, (Array.getElem?_eq_some_iff.1 h1).1, fun i hi j u hu => ?_⟩
  have : j = 0 := by
    have := (List.getElem?_eq_some_iff.1 hu).1
    simp [encM] at this; omega
  subst this
  rw [Nat.zero_add, Nat.mul_one, Nat.add_zero, h0.cell hi, ← hu]
  rfl
theorem RowC.uniq {g : Nat} {l l' : List Nat} {w : World} (h : RowC g l w) (h' : RowC g l' w) (hl : l.length = l'.length) : l = l' := by
  refine List.ext_getElem hl fun i h1 h2 => ?_
  have e1 := h.cell h1
  have e2 := h'.cell h2
  rw [e1] at e2
  have := Option.some.inj e2
  injection this with _ h3
  have h4 : l.getD i 0 = l'.getD i 0 := by omega
  simpa [h1, h2] using h4
open Classical in
noncomputable def gapW (g n : Nat) (w : World) : Nat := if h : ∃ l : List Nat, l.length = n ∧ RowC g l w then gap (Classical.choose h) else 0
theorem gapW_eq {g n : Nat} {w : World} {l : List Nat} (hl : l.length = n) (h : RowC g l w) : gapW g n w = gap l := by
  have hex : ∃ l : List Nat, l.length = n ∧ RowC g l w := ⟨l, hl, h⟩
  unfold gapW
  rw [dif_pos hex]
  obtain ⟨h1, h2⟩ := Classical.choose_spec hex
  rw [h2.uniq h (h1.trans hl.symm)]
/-- The three loops: how far they have come, and what is left to be said. -/
structure JInv (n : Nat) (pairs : List P2) (up0 up : List Nat) (z : Bool) (a b c : Nat) : Prop where
  grows : Grows n pairs up
  based : Based n pairs up
  hz : z = true → gap up < gap up0
  hn : z = false → up = up0 ∧ ∀ x y t, x < n → y < n → t < n → (x < a ∨ x = a ∧ (y < b ∨ y = b ∧ t < c)) → bt up x y = true → bt up y t = true → bt up x t = true
section
variable {n : Nat} {pairs : List P2} {up0 up : List Nat} {z : Bool} {a b c : Nat}
theorem JInv.start (h : Grows n pairs up) (hb : Based n pairs up) : JInv n pairs up up false 0 0 0 := ⟨h, hb, fun h => (by cases h), fun _ => ⟨rfl, fun x y t _ _ _ h => by omega⟩⟩
theorem JInv.keep (h : JInv n pairs up0 up z a b c) (hok : bt up a b = true → bt up b c = true → bt up a c = true) : JInv n pairs up0 up z a b (c + 1) :=
  ⟨h.grows, h.based, h.hz, fun hf => ⟨(h.hn hf).1, fun x y t hx hy ht hl h1 h2 => by
    by_cases he : x = a ∧ y = b ∧ t = c
    · obtain ⟨rfl, rfl, rfl⟩ := he; exact hok h1 h2
    · exact (h.hn hf).2 x y t hx hy ht (by omega) h1 h2⟩⟩
theorem JInv.put (h : JInv n pairs up0 up z a b c) (hn : n ≤ 64) (h1 : bt up a b = true) (h2 : bt up b c = true) (h3 : bt up a c = false) : JInv n pairs up0 (up.set a (up.getD a 0 ||| 2 ^ c)) true a b (c + 1) := by
  have ha : a < up.length := by rw [h.grows.len]; exact (h.grows.lt _ _ h1).1
  have hc := (h.grows.lt _ _ h2).2
  refine ⟨setB_grows h.grows hn h1 h2, fun i hi => ⟨setB_keeps ha (h.based i hi).1, fun j he => setB_keeps ha ((h.based i hi).2 j he)⟩, fun _ => ?_, fun hf => (by cases hf)⟩
  have hg := gap_set up a (up.getD a 0 ||| 2 ^ c) ha (or_gt h3) (or_lt (small_get h.grows.small _) (pow_lt64 (by omega)))
  cases z with
  | true => exact Nat.lt_trans hg (h.hz rfl)
  | false => rw [← (h.hn rfl).1]; exact hg
theorem JInv.rowB (h : JInv n pairs up0 up z a b n) : JInv n pairs up0 up z a (b + 1) 0 :=
  ⟨h.grows, h.based, h.hz, fun hf => ⟨(h.hn hf).1, fun x y t hx hy ht hl h1 h2 => (h.hn hf).2 x y t hx hy ht (by omega) h1 h2⟩⟩
theorem JInv.rowA (h : JInv n pairs up0 up z a n 0) : JInv n pairs up0 up z (a + 1) 0 0 :=
  ⟨h.grows, h.based, h.hz, fun hf => ⟨(h.hn hf).1, fun x y t hx hy ht hl h1 h2 => (h.hn hf).2 x y t hx hy ht (by omega) h1 h2⟩⟩
theorem JInv.fin (h : JInv n pairs up0 up false n 0 0) : up = closS n pairs :=
  grows_clos h.grows h.based (closed_of h.grows fun i k j hi hk hj h1 h2 => (h.hn rfl).2 i k j hi hk hj (.inl hi) h1 h2)
end
def preI (i : Nat) : List Nat := (List.range i).map (2 ^ ·)
theorem preI_succ {i : Nat} : preI (i + 1) = preI i ++ [2 ^ i] := by simp [preI, List.range_succ]
theorem preI_all {n : Nat} : preI n = baseI n n := by
  refine List.ext_getElem (by simp [preI, baseI]) fun i h1 h2 => ?_
  simp [preI, baseI] at h2 ⊢
  omega
theorem preI_len {i : Nat} : (preI i).length = i := by simp [preI]
set_option maxRecDepth 100000 in
set_option maxHeartbeats 4000000 in
theorem rbuild_calls (n : Int) (pairs : List P2) (A : Option Addr) (k c0 : Nat) (hk : k = pairs.length) (hkb : k ≤ 1000000) (w : World) (hy : Rw 2 encP w (.slice A k c0) pairs) :
    Calls Tryd.prog 13 #[.int .i64 n, .slice A k c0] w fun e w' => ∃ v, e = .returned (.tuple #[v, .int .i64 ((buildS n pairs).2 : Int)]) ∧ Ms w' v (buildS n pairs).1 ∧ Below w.heap.size w w' := by
  obtain ⟨R, hR⟩ : ∃ R, R = buildS n pairs := ⟨_, rfl⟩
  rw [← hR]
  have hRH : Hid (R = buildS n pairs) := hR
  have hk' : Hid (k = pairs.length) := hk
  have hyH : Hid (Rw 2 encP w (.slice A k c0) pairs) := hy
  clear hk hy hR
  go_enter Tryd.func13, Tryd.ntmps13
  by_cases hlo : n < 1
  · have hR0 : Hid (R = ([], 1)) := by
      show _ = _
      rw [hRH.out]; unfold buildS
      rw [if_neg (fun h => by have := (tr_iff.1 h).1; omega)]
    clear hRH hk' hyH
    go_wp2_with fail
    go_ret2
    rw [hR0.out]
    exact ⟨_, rfl, Rw.nil, Below.refl _ _⟩
  by_cases hhi : 64 < n
  · have hR0 : Hid (R = ([], 1)) := by
      show _ = _
      rw [hRH.out]; unfold buildS
      rw [if_neg (fun h => by have := (tr_iff.1 h).2.1; omega)]
    clear hRH hk' hyH
    go_wp2_with fail
    go_ret2
    rw [hR0.out]
    exact ⟨_, rfl, Rw.nil, Below.refl _ _⟩
  obtain ⟨m, rfl⟩ : ∃ m : Nat, n = (m : Int) := ⟨n.toNat, by omega⟩
  have hm1 : 1 ≤ m := by omega
  have hm64 : m ≤ 64 := by omega
  go_wp2_with fail
  clear hlo hhi
  go_loopw [6, 7] (fun v u wr => ∃ i : Nat, i ≤ m ∧ u = .int .i64 (i : Int) ∧ Hid (wr.ownsRow w.heap.size 36 1 v (preI i).length (flat encM (preI i))) ∧ Hid (Below w.heap.size w wr)) (fun _ u _ => m - (intOf u).toNat)
  case atStart => exact ⟨0, by omega, rfl, World.ownsRow_nil _ _ _ _, Below.refl _ _⟩
  case round =>
    obtain ⟨i, hi, rfl, hrow, hbw⟩ := hrel
    by_cases hlt : i < m
    · have hI : (i : Int) < (m : Int) := by omega
      go_upto_region 7 with fail
      refine wp_region_lit ?_
      refine sl_run rfl u6 wr (by kernel_rfl) ?_
      simp only [Act.put, List.setIfInBounds_toArray, List.set_cons_zero, List.set_cons_succ]
      refine sl_run rfl (.int .i64 (i : Int)) wr (by kernel_rfl) ?_
      simp only [Act.put, List.setIfInBounds_toArray, List.set_cons_zero, List.set_cons_succ]
      have hset : Calls Tryd.prog 30 #[.int .u64 0, .int .i64 (i : Int)] wr fun e w' => e = .returned (.int .u64 ((2 ^ i : Nat) : Int)) ∧ w' = wr := by
        have := set_calls 0 i (by decide) (by omega) wr
        rw [Nat.zero_or] at this; exact this
      obtain ⟨pw, hpw⟩ : ∃ x, x = 2 ^ i := ⟨_, rfl⟩
      rw [← hpw] at hset
      have hpwH : Hid (pw = 2 ^ i) := hpw
      clear hpw
      refine sl_call rfl 30 #[.int .u64 0, .int .i64 (i : Int)] (by kernel_rfl) (R := fun v w' => v = .int .u64 (pw : Int) ∧ w' = wr) (hset.mono fun e w' h => ⟨_, h.1, rfl, h.2⟩) ?_
      rintro _ w2 ⟨rfl, hw2⟩
      subst hw2
      simp only [Act.put, List.setIfInBounds_toArray, List.set_cons_zero, List.set_cons_succ]
      clear hset
      refine sl_run rfl (.slice (some ⟨w2.heap.size, 0, none⟩) 1 1) (w2.alloc (.cells #[.int .u64 (pw : Int)] 36)) (by kernel_rfl) ?_
      simp only [Act.put, List.setIfInBounds_toArray, List.set_cons_zero, List.set_cons_succ]
      obtain ⟨i36, hi36, hz0, hz1, hz2⟩ := info_parts inf36
      have hnew : (w2.alloc (.cells #[.int .u64 (pw : Int)] 36)).heap[w2.heap.size]? = some (.cells #[.int .u64 (pw : Int)] 36 (0, 0)) := heap_alloc_new _ _
      have hbn : Below w2.heap.size w2 (w2.alloc (.cells #[.int .u64 (pw : Int)] 36)) := (Below.refl _ _).alloc (Nat.le_refl _) _
      have hrow1 : (w2.alloc (.cells #[.int .u64 (pw : Int)] 36)).ownsRow w.heap.size 36 1 u6 (preI i).length (flat encM (preI i)) := hrow.out.kept (row := none) (World.grownBy_alloc _ _ none) (by cases hv : u6.ownBlock <;> simp)
      refine appendRw 24 36 8 i36 (.int .u64 0) Tryd.underlying24 hi36 hz0 hz1 hz2 rfl (by decide) encM_size encM_ones rfl _ _ rfl w.heap.size u6 (preI i) [pw] (by kernel_rfl) hrow1 (.slice (some ⟨w2.heap.size, 0, none⟩) 1 1) (by kernel_rfl) (rw_one (enc := encM) pw hnew) (by rw [preI_len]; simp; omega) (by rw [preI_len]; simp; omega) (by have := hbw.out.size; simp; omega) ?_
      intro v' w3 hown' hgrow
      simp only [Act.put, List.setIfInBounds_toArray, List.set_cons_zero, List.set_cons_succ]
      have hown2 : Hid (w3.ownsRow w.heap.size 36 1 v' (preI (i + 1)).length (flat encM (preI (i + 1)))) := by rw [preI_succ, ← hpwH.out]; exact hown'
      have hb3 : Hid (Below w.heap.size w w3) := (hbw.out.trans (hbn.mono hbw.out.size)).grown hgrow (by have := hbw.out.size; simp; omega) (fun q hq => by
        rcases hrow.out.2 with ⟨h1, _⟩ | ⟨g9, cap, cur, h1, h2, _⟩
        · rw [h1] at hq; simp [Value.ownBlock] at hq
        · rw [h1] at hq; simp [Value.ownBlock] at hq; omega)
      clear hown' hgrow hnew hbn hrow1 hrow hi36 hz0 hz1 hz2
      refine sl_run rfl v' w3 (by kernel_rfl) ?_
      simp only [Act.put, List.setIfInBounds_toArray, List.set_cons_zero, List.set_cons_succ]
      refine wpList_nil ?_
      go_wp2_with fail
      go_roundw
      case rel => exact ⟨i + 1, by omega, by go_num, hown2, hb3⟩
      case measure => simp [intOf]; omega
    · have hI : ¬ (i : Int) < (m : Int) := by omega
      have him : i = m := by omega
      have hrow2 : wr.ownsRow w.heap.size 36 1 u6 m (flat encM (baseI m m)) := by
        have := hrow.out; rw [him, preI_all, baseI_len] at this; exact this
      have h2 := hrow2.2
      rcases h2 with ⟨_, h2⟩ | ⟨g, cap, cur, hu, hgb, hgh, hcap, hcm, hcs, htk⟩
      · omega
      have hRowB : Hid (RowC g (baseI m m) wr) := ⟨cur, hgh, by rw [baseI_len]; omega, by rw [baseI_len]; rw [Nat.mul_one] at htk; exact htk⟩
      have hcapH : Hid (m ≤ cap) := hcap
      have hgH : Hid (w.heap.size ≤ g) := hgb
      subst hu
      clear hrow hrow2 hgh hcs htk hcm him hgb hcap
      go_wp2_with fail
      go_loopw [8] (fun u wr => ∃ i : Nat, i ≤ k ∧ u = .int .i64 (i : Int) ∧ Hid (∀ p ∈ pairs.take i, inRange m p) ∧ Hid (RowC g (baseI m m) wr) ∧ Hid (Below w.heap.size w wr)) (fun u _ => k - (intOf u).toNat)
      case atStart => exact ⟨0, by omega, rfl, fun p h => by simp at h, hRowB, hbw⟩
      case round =>
        obtain ⟨i, hi, rfl, hall, hrow, hbw⟩ := hrel
        clear hRowB
        by_cases hlt : i < k
        · have hI : (i : Int) < (k : Int) := by omega
          obtain ⟨g2, o2, rfl, hkc, hg2, hel⟩ := hyH.out.elem i (by rw [← hk'.out]; exact hlt)
          obtain ⟨pr, hpr⟩ : ∃ p, p = pairs.getD i default := ⟨_, rfl⟩
          have htk : Hid (pairs.take (i + 1) = pairs.take i ++ [pr]) := by
            have h : i < pairs.length := by rw [← hk'.out]; exact hlt
            show _ = _
            rw [List.take_add_one, hpr]; simp [h]
          have hmem : Hid (pr ∈ pairs) := by
            have h : i < pairs.length := by rw [← hk'.out]; exact hlt
            show _ ∈ _
            rw [hpr]; simp [h]
          rw [← hpr] at hel
          have hel2 : wr.rangeAt g2 (o2 + i * 2) (encP pr).toList := range_below hel hbw.out hg2
          clear hpr hel
          obtain ⟨p1, p2⟩ := pr
          have c1 : wr.cell? ⟨g2, o2 + i * 2, none⟩ = some (.int .i64 p1) := hel2 0 _ rfl
          have c2 : wr.cell? ⟨g2, o2 + i * 2 + 1, none⟩ = some (.int .i64 p2) := hel2 1 _ rfl
          clear hel2
          by_cases hin : inRange m (p1, p2)
          · obtain ⟨hp1, hp2, hp3, hp4⟩ := id hin
            have e1 : ¬ p1 < 0 := by simp only at hp1; omega
            have e2 : ¬ (m : Int) ≤ p1 := by simp only at hp2; omega
            have e3 : ¬ p2 < 0 := by simp only at hp3; omega
            have e4 : ¬ (m : Int) ≤ p2 := by simp only at hp4; omega
            have hin' : Hid (inRange m (p1, p2)) := hin
            have hall2 : Hid (∀ p ∈ pairs.take (i + 1), inRange m p) := fun p hp => by
              rw [htk.out] at hp
              rcases List.mem_append.1 hp with hp | hp
              · exact hall.out p hp
              · rw [List.mem_singleton.1 hp]; exact hin'.out
            clear hp1 hp2 hp3 hp4 hin
            go_wp2_with fail
            go_roundw
            case rel => exact ⟨i + 1, by omega, by go_num, hall2, hrow, hbw⟩
            case measure => simp [intOf]; omega
          · have hR0 : Hid (R = ([], 1)) := by
              show _ = _
              rw [hRH.out]; unfold buildS
              rw [if_neg (fun h => hin ((tr_iff.1 h).2.2 _ hmem.out))]
            have hcase : p1 < 0 ∨ ¬ p1 < 0 ∧ ((m : Int) ≤ p1 ∨ ¬ (m : Int) ≤ p1 ∧ (p2 < 0 ∨ ¬ p2 < 0 ∧ (m : Int) ≤ p2)) := by
              refine Decidable.byContradiction fun h => hin ⟨?_, ?_, ?_, ?_⟩ <;> simp only <;> omega
            clear hRH hin htk hmem hall hrow
            rcases hcase with h1 | ⟨h1, h2 | ⟨h2, h3 | ⟨h3, h4⟩⟩⟩ <;>
              (go_wp2_with fail
               go_ret2
               rw [hR0.out]
               exact ⟨_, rfl, Rw.nil, hbw.out⟩)
        · have hI : ¬ (i : Int) < (k : Int) := by omega
          have hik : i = k := by omega
          have hfit : Hid (∀ p ∈ pairs, inRange m p) := fun p hp => hall.out p (by rw [hik, hk'.out, List.take_length]; exact hp)
          have hrow3 : Hid (RowC g (addAll m (pairs.take 0)) wr) := hrow.out
          clear hrow hall hik
          go_wp2_with fail
          go_loopw [9] (fun u wr => ∃ i : Nat, i ≤ k ∧ u = .int .i64 (i : Int) ∧ Hid (RowC g (addAll m (pairs.take i)) wr) ∧ Hid (Below w.heap.size w wr)) (fun u _ => k - (intOf u).toNat)
          case atStart => exact ⟨0, by omega, rfl, hrow3, hbw⟩
          case round =>
            obtain ⟨i, hi, rfl, hrow, hbw⟩ := hrel
            clear hrow3
            by_cases hlt : i < k
            · have hI : (i : Int) < (k : Int) := by omega
              obtain ⟨g2, o2, rfl, hkc, hg2, hel⟩ := hyH.out.elem i (by rw [← hk'.out]; exact hlt)
              obtain ⟨pr, hpr⟩ : ∃ p, p = pairs.getD i default := ⟨_, rfl⟩
              have htk : Hid (pairs.take (i + 1) = pairs.take i ++ [pr]) := by
                have h : i < pairs.length := by rw [← hk'.out]; exact hlt
                show _ = _
                rw [List.take_add_one, hpr]; simp [h]
              have hmem : Hid (pr ∈ pairs) := by
                have h : i < pairs.length := by rw [← hk'.out]; exact hlt
                show _ ∈ _
                rw [hpr]; simp [h]
              rw [← hpr] at hel
              clear hpr
              obtain ⟨p1, p2⟩ := pr
              obtain ⟨hp1, hp2, hp3, hp4⟩ := hfit.out _ hmem.out
              obtain ⟨a, rfl⟩ : ∃ a : Nat, p1 = (a : Int) := ⟨p1.toNat, by simp only at hp1; omega⟩
              obtain ⟨b, rfl⟩ : ∃ b : Nat, p2 = (b : Int) := ⟨p2.toNat, by simp only at hp3; omega⟩
              have ha : a < m := by simp only at hp2; omega
              have hb : b < m := by simp only at hp4; omega
              clear hp1 hp2 hp3 hp4
              have cA : Hid (∀ w', Below wr.heap.size wr w' → w'.cell? ⟨g2, o2 + i * 2, none⟩ = some (.int .i64 (a : Int))) := fun w' h => range_below hel (hbw.out.trans (h.mono hbw.out.size)) hg2 0 _ rfl
              have cB : Hid (∀ w', Below wr.heap.size wr w' → w'.cell? ⟨g2, o2 + i * 2 + 1, none⟩ = some (.int .i64 (b : Int))) := fun w' h => range_below hel (hbw.out.trans (h.mono hbw.out.size)) hg2 1 _ rfl
              clear hel
              obtain ⟨upm, hupm⟩ : ∃ u, u = addAll m (pairs.take i) := ⟨_, rfl⟩
              have hrow4 : Hid (RowC g upm wr) := by show RowC g upm wr; rw [hupm]; exact hrow.out
              have hupl : Hid (upm.length = m) := by show _ = _; rw [hupm, addAll_len]
              have hups : Hid (Small upm) := by show Small _; rw [hupm]; exact addAll_small hm64 (fun p hp => hfit.out p (List.mem_of_mem_take hp))
              have hupH : Hid (upm = addAll m (pairs.take i)) := hupm
              clear hupm hrow
              obtain ⟨ma, hma⟩ : ∃ x, x = upm.getD a 0 := ⟨_, rfl⟩
              have hma9 : ma < 18446744073709551616 := by rw [hma]; exact small_get hups.out _
              have hmaH : Hid (ma = upm.getD a 0) := hma
              clear hma
              have hset := fun w' => set_calls ma b hma9 (by omega) w'
              obtain ⟨mb, hmb⟩ : ∃ x, x = ma ||| 2 ^ b := ⟨_, rfl⟩
              rw [← hmb] at hset
              have hmbH : Hid (mb = ma ||| 2 ^ b) := hmb
              clear hmb
              go_upto_region 16 with fail
              refine wp_region_quiet_tail 21 (Below wr.heap.size wr) (by kernel_rfl) (by kernel_rfl) (Below.refl _ _).drew ?_
              simp only [List.take_succ_cons, List.take_zero, List.drop_succ_cons, List.drop_zero]
              refine quiet_run rfl (.slice (some ⟨g, 0, none⟩) m cap) (fun w' h => (by kernel_rfl)) ?_
              simp only [Act.put, List.setIfInBounds_toArray, List.set_cons_zero, List.set_cons_succ]
              refine quiet_run rfl (.slice (some ⟨g2, o2, none⟩) k c0) (fun w' h => (by kernel_rfl)) ?_
              simp only [Act.put, List.setIfInBounds_toArray, List.set_cons_zero, List.set_cons_succ]
              refine quiet_run rfl (.int .i64 (i : Int)) (fun w' h => (by kernel_rfl)) ?_
              simp only [Act.put, List.setIfInBounds_toArray, List.set_cons_zero, List.set_cons_succ]
              refine quiet_run rfl (.pointer (some ⟨g2, o2 + i * 2, none⟩)) (fun w' h => exec_index un22 sz22 _ _ rfl g2 o2 k c0 i (by kernel_rfl) (by kernel_rfl) hlt w') ?_
              simp only [Act.put, List.setIfInBounds_toArray, List.set_cons_zero, List.set_cons_succ]
              refine quiet_run rfl (.pointer (some ⟨g2, o2 + i * 2, none⟩)) (fun w' h => (by kernel_rfl)) ?_
              simp only [Act.put, List.setIfInBounds_toArray, List.set_cons_zero, List.set_cons_succ]
              refine quiet_run rfl (.int .i64 (a : Int)) (fun w' h => exec_load_cell 3 w' _ rfl ⟨g2, o2 + i * 2, none⟩ (by kernel_rfl) _ (cA.out w' h) (fun _ => by kernel_rfl)) ?_
              simp only [Act.put, List.setIfInBounds_toArray, List.set_cons_zero, List.set_cons_succ]
              refine quiet_run rfl (.slice (some ⟨g, 0, none⟩) m cap) (fun w' h => (by kernel_rfl)) ?_
              simp only [Act.put, List.setIfInBounds_toArray, List.set_cons_zero, List.set_cons_succ]
              refine quiet_run rfl (.slice (some ⟨g2, o2, none⟩) k c0) (fun w' h => (by kernel_rfl)) ?_
              simp only [Act.put, List.setIfInBounds_toArray, List.set_cons_zero, List.set_cons_succ]
              refine quiet_run rfl (.int .i64 (i : Int)) (fun w' h => (by kernel_rfl)) ?_
              simp only [Act.put, List.setIfInBounds_toArray, List.set_cons_zero, List.set_cons_succ]
              refine quiet_run rfl (.pointer (some ⟨g2, o2 + i * 2, none⟩)) (fun w' h => exec_index un22 sz22 _ _ rfl g2 o2 k c0 i (by kernel_rfl) (by kernel_rfl) hlt w') ?_
              simp only [Act.put, List.setIfInBounds_toArray, List.set_cons_zero, List.set_cons_succ]
              refine quiet_run rfl (.pointer (some ⟨g2, o2 + i * 2, none⟩)) (fun w' h => (by kernel_rfl)) ?_
              simp only [Act.put, List.setIfInBounds_toArray, List.set_cons_zero, List.set_cons_succ]
              refine quiet_run rfl (.int .i64 (a : Int)) (fun w' h => exec_load_cell 3 w' _ rfl ⟨g2, o2 + i * 2, none⟩ (by kernel_rfl) _ (cA.out w' h) (fun _ => by kernel_rfl)) ?_
              simp only [Act.put, List.setIfInBounds_toArray, List.set_cons_zero, List.set_cons_succ]
              refine quiet_run rfl (.pointer (some ⟨g, 0 + a, none⟩)) (fun w' h => exec_ixM _ _ rfl g 0 m cap a (by kernel_rfl) (by kernel_rfl) ha) ?_
              simp only [Act.put, List.setIfInBounds_toArray, List.set_cons_zero, List.set_cons_succ]
              rw [Nat.zero_add]
              refine quiet_run rfl (.int .u64 (ma : Int)) (fun w' h => exec_load_cell 36 w' _ rfl ⟨g, a, none⟩ (by kernel_rfl) _ (by rw [hmaH.out]; exact (hrow4.out.below h).cell (by rw [hupl.out]; exact ha)) (fun _ => by kernel_rfl)) ?_
              simp only [Act.put, List.setIfInBounds_toArray, List.set_cons_zero, List.set_cons_succ]
              refine quiet_run rfl (.slice (some ⟨g2, o2, none⟩) k c0) (fun w' h => (by kernel_rfl)) ?_
              simp only [Act.put, List.setIfInBounds_toArray, List.set_cons_zero, List.set_cons_succ]
              refine quiet_run rfl (.int .i64 (i : Int)) (fun w' h => (by kernel_rfl)) ?_
              simp only [Act.put, List.setIfInBounds_toArray, List.set_cons_zero, List.set_cons_succ]
              refine quiet_run rfl (.pointer (some ⟨g2, o2 + i * 2, none⟩)) (fun w' h => exec_index un22 sz22 _ _ rfl g2 o2 k c0 i (by kernel_rfl) (by kernel_rfl) hlt w') ?_
              simp only [Act.put, List.setIfInBounds_toArray, List.set_cons_zero, List.set_cons_succ]
              refine quiet_run rfl (.pointer (some ⟨g2, o2 + i * 2 + 1, none⟩)) (fun w' h => (by kernel_rfl)) ?_
              simp only [Act.put, List.setIfInBounds_toArray, List.set_cons_zero, List.set_cons_succ]
              refine quiet_run rfl (.int .i64 (b : Int)) (fun w' h => exec_load_cell 3 w' _ rfl ⟨g2, o2 + i * 2 + 1, none⟩ (by kernel_rfl) _ (cB.out w' h) (fun _ => by kernel_rfl)) ?_
              simp only [Act.put, List.setIfInBounds_toArray, List.set_cons_zero, List.set_cons_succ]
              refine quiet_fn rfl 30 #[.int .u64 (ma : Int), .int .i64 (b : Int)] (fun w' h => by kernel_rfl) (.int .u64 (mb : Int)) (fun w' h => (hset w').mono fun e w'' h2 => ⟨h2.1, by rw [h2.2]; exact h⟩) ?_
              simp only [Act.put, List.setIfInBounds_toArray, List.set_cons_zero, List.set_cons_succ]
              refine quiet_run rfl (.pointer (some ⟨g, 0 + a, none⟩)) (fun w' h => exec_ixM _ _ rfl g 0 m cap a (by kernel_rfl) (by kernel_rfl) ha) ?_
              simp only [Act.put, List.setIfInBounds_toArray, List.set_cons_zero, List.set_cons_succ]
              rw [Nat.zero_add]
              refine wpQuiet_nil ?_
              intro w3 hb4
              have hrow5 : RowC g upm w3 := hrow4.out.below hb4
              refine wpList_store_cell rfl 36 _ _ rfl g a (by kernel_rfl) (.int .u64 (mb : Int)) (by kernel_rfl) _ (hrow5.cell (by rw [hupl.out]; exact ha)) hrow5.frozen (fun _ => by kernel_rfl) rfl rfl ?_
              simp only [Act.put, List.setIfInBounds_toArray, List.set_cons_zero, List.set_cons_succ]
              refine wpList_nil ?_
              have hrow6 : Hid (RowC g (addAll m (pairs.take (i + 1))) (w3.setCell ⟨g, a, none⟩ (.int .u64 (mb : Int)))) := by
                have := hrow5.set a mb (by rw [hupl.out]; exact ha)
                show RowC _ _ _
                rw [htk.out, addAll_snoc, ← hupH.out]
                unfold addE
                rw [Int.toNat_natCast, Int.toNat_natCast, ← hmaH.out, ← hmbH.out]; exact this
              have hb5 : Hid (Below w.heap.size w (w3.setCell ⟨g, a, none⟩ (.int .u64 (mb : Int)))) := (hbw.out.trans (hb4.mono hbw.out.size)).setCell hgH.out _
              generalize World.setCell _ _ _ = w6 at hrow6 hb5 ⊢
              clear hrow5 hb4 hrow4 hset cA cB
              rename_i hK
              refine hK _ _ ?_
              clear hK
              go_wp2_with fail
              go_roundw
              case rel => exact ⟨i + 1, by omega, by go_num, hrow6, hb5⟩
              case measure => simp [intOf]; omega
            · have hI : ¬ (i : Int) < (k : Int) := by omega
              have hik : i = k := by omega
              have hrow3 : Hid (RowC g (addAll m pairs) wr) := by have := hrow.out; rw [hik, hk'.out, List.take_length] at this; exact this
              have hgr : Hid (Grows m pairs (addAll m pairs)) := addAll_grows hm64 hfit.out
              have hba : Hid (Based m pairs (addAll m pairs)) := addAll_based hfit.out
              generalize addAll m pairs = upS at hrow3 hgr hba
              clear hrow hik
              go_wp2_with fail
              go_loopw [10] (fun z wr => ∃ (up : List Nat) (zz : Bool), z = .bool zz ∧ Hid (Grows m pairs up) ∧ Hid (Based m pairs up) ∧ Hid (zz = false → up = closS m pairs) ∧ Hid (RowC g up wr) ∧ Hid (Below w.heap.size w wr)) (fun z wr => 2 * gapW g m wr + (match z with | .bool true => 1 | _ => 0))
              case atStart => exact ⟨upS, true, rfl, hgr, hba, fun h => (by cases h), hrow3, hbw⟩
              case round =>
                obtain ⟨up0, zz, rfl, hg0, hb0, hfin, hrow0, hbw⟩ := hrel
                clear hrow3 hgr hba
                cases zz with
                | true =>
                  have hgap : Hid (gapW g m wr = gap up0) := gapW_eq hg0.out.len hrow0.out
                  clear hfin
                  obtain ⟨wr0, hwr0⟩ : ∃ x, x = wr := ⟨_, rfl⟩
                  go_wp2_with fail
                  go_loopw [10, 11] (fun z u wr => ∃ (a : Nat) (zz : Bool) (up : List Nat), a ≤ m ∧ u = .int .i64 (a : Int) ∧ z = .bool zz ∧ Hid (JInv m pairs up0 up zz a 0 0) ∧ Hid (RowC g up wr) ∧ Hid (Below w.heap.size w wr)) (fun _ u _ => m - (intOf u).toNat)
                  case atStart => exact ⟨0, false, up0, by omega, rfl, rfl, JInv.start hg0.out hb0.out, hrow0, hbw⟩
                  case round =>
                    obtain ⟨a, za, ua, ha, rfl, rfl, hJ, hrow, hbw⟩ := hrel
                    clear hrow0
                    by_cases hla : a < m
                    · have hI : (a : Int) < (m : Int) := by omega
                      have ha64 : a < 64 := by omega
                      go_wp2_with fail
                      go_loopw [10, 12] (fun z u wr => ∃ (b : Nat) (zz : Bool) (up : List Nat), b ≤ m ∧ u = .int .i64 (b : Int) ∧ z = .bool zz ∧ Hid (JInv m pairs up0 up zz a b 0) ∧ Hid (RowC g up wr) ∧ Hid (Below w.heap.size w wr)) (fun _ u _ => m - (intOf u).toNat)
                      case atStart => exact ⟨0, za, ua, by omega, rfl, rfl, hJ, hrow, hbw⟩
                      case round =>
                        clear hJ hrow
                        obtain ⟨b, zb, ub, hb, rfl, rfl, hJ, hrow, hbw⟩ := hrel
                        by_cases hlb : b < m
                        · have hI2 : (b : Int) < (m : Int) := by omega
                          have hb64 : b < 64 := by omega
                          go_wp2_with fail
                          go_loopw [10, 13] (fun z u wr => ∃ (c : Nat) (zz : Bool) (up : List Nat), c ≤ m ∧ u = .int .i64 (c : Int) ∧ z = .bool zz ∧ Hid (JInv m pairs up0 up zz a b c) ∧ Hid (RowC g up wr) ∧ Hid (Below w.heap.size w wr)) (fun _ u _ => m - (intOf u).toNat)
                          case atStart => exact ⟨0, zb, ub, by omega, rfl, rfl, hJ, hrow, hbw⟩
                          case round =>
                            clear hJ hrow
                            obtain ⟨c, zc, uc, hc, rfl, rfl, hJ, hrow, hbw⟩ := hrel
                            by_cases hlc : c < m
                            · have hI3 : (c : Int) < (m : Int) := by omega
                              have hc64 : c < 64 := by omega
                              obtain ⟨ma, hma⟩ : ∃ z, z = uc.getD a 0 := ⟨_, rfl⟩
                              obtain ⟨mb, hmb⟩ : ∃ z, z = uc.getD b 0 := ⟨_, rfl⟩
                              have hmaH : Hid (ma = uc.getD a 0) := hma
                              have hmbH : Hid (mb = uc.getD b 0) := hmb
                              have hma9 : ma < 18446744073709551616 := by rw [hma]; exact small_get hJ.out.grows.small _
                              have hmb9 : mb < 18446744073709551616 := by rw [hmb]; exact small_get hJ.out.grows.small _
                              have ca : wr.cell? ⟨g, a, none⟩ = some (.int .u64 (ma : Int)) := by rw [hma]; exact hrow.out.cell (by rw [hJ.out.grows.len]; exact hla)
                              have cb : wr.cell? ⟨g, b, none⟩ = some (.int .u64 (mb : Int)) := by rw [hmb]; exact hrow.out.cell (by rw [hJ.out.grows.len]; exact hlb)
                              clear hma hmb
                              cases hab : bitI ma (b : Int) with
                              | false =>
                                have hJ2 : Hid (JInv m pairs up0 uc zc a b (c + 1)) := hJ.out.keep fun h _ => by
                                  unfold bt at h; rw [← hmaH.out, ← bitI_nat hb64, hab] at h; cases h
                                clear hJ
                                go_wp2_with (go_at_call 29; (first | refine (bitR _ _ true (by assumption) (by assumption) _).mono ?_ | refine (bitR _ _ false (by assumption) (by assumption) _).mono ?_); rintro e w' ⟨rfl, rfl⟩)
                                go_roundw
                                case rel => exact ⟨c + 1, zc, uc, by omega, by go_num, rfl, hJ2, hrow, hbw⟩
                                case measure => simp [intOf]; omega
                              | true =>
                                cases hbc : bitI mb (c : Int) with
                                | false =>
                                  have hJ2 : Hid (JInv m pairs up0 uc zc a b (c + 1)) := hJ.out.keep fun _ h => by
                                    unfold bt at h; rw [← hmbH.out, ← bitI_nat hc64, hbc] at h; cases h
                                  clear hJ
                                  go_wp2_with (go_at_call 29; (first | refine (bitR _ _ true (by assumption) (by assumption) _).mono ?_ | refine (bitR _ _ false (by assumption) (by assumption) _).mono ?_); rintro e w' ⟨rfl, rfl⟩)
                                  go_roundw
                                  case rel => exact ⟨c + 1, zc, uc, by omega, by go_num, rfl, hJ2, hrow, hbw⟩
                                  case measure => simp [intOf]; omega
                                | true =>
                                  cases hac : bitI ma (c : Int) with
                                  | true =>
                                    have hJ2 : Hid (JInv m pairs up0 uc zc a b (c + 1)) := hJ.out.keep fun _ _ => by
                                      unfold bt; rw [← hmaH.out, ← bitI_nat hc64, hac]
                                    clear hJ
                                    go_wp2_with (go_at_call 29; (first | refine (bitR _ _ true (by assumption) (by assumption) _).mono ?_ | refine (bitR _ _ false (by assumption) (by assumption) _).mono ?_); rintro e w' ⟨rfl, rfl⟩)
                                    go_roundw
                                    case rel => exact ⟨c + 1, zc, uc, by omega, by go_num, rfl, hJ2, hrow, hbw⟩
                                    case measure => simp [intOf]; omega
                                  | false =>
                                    obtain ⟨mc, hmc⟩ : ∃ z, z = ma ||| 2 ^ c := ⟨_, rfl⟩
                                    have hJ2 : Hid (JInv m pairs up0 (uc.set a mc) true a b (c + 1)) := by
                                      have := hJ.out.put hm64 (by unfold bt; rw [← hmaH.out, ← bitI_nat hb64, hab]) (by unfold bt; rw [← hmbH.out, ← bitI_nat hc64, hbc]) (by unfold bt; rw [← hmaH.out, ← bitI_nat hc64, hac])
                                      rw [← hmaH.out, ← hmc] at this; exact this
                                    have hset := set_calls ma c hma9 hc64 wr
                                    rw [← hmc] at hset
                                    have hul : Hid (a < uc.length) := by show _ < _; rw [hJ.out.grows.len]; exact hla
                                    clear hJ hmc
                                    go_upto_region 30 with (go_at_call 29; (first | refine (bitR _ _ true (by assumption) (by assumption) _).mono ?_ | refine (bitR _ _ false (by assumption) (by assumption) _).mono ?_); rintro e w' ⟨rfl, rfl⟩)
                                    refine wp_region_lit ?_
                                    refine sl_run rfl (.slice (some ⟨g, 0, none⟩) m cap) wr (by kernel_rfl) ?_
                                    simp only [Act.put, List.setIfInBounds_toArray, List.set_cons_zero, List.set_cons_succ]
                                    refine sl_run rfl (.int .i64 (a : Int)) wr (by kernel_rfl) ?_
                                    simp only [Act.put, List.setIfInBounds_toArray, List.set_cons_zero, List.set_cons_succ]
                                    refine sl_run rfl (.slice (some ⟨g, 0, none⟩) m cap) wr (by kernel_rfl) ?_
                                    simp only [Act.put, List.setIfInBounds_toArray, List.set_cons_zero, List.set_cons_succ]
                                    refine sl_run rfl (.int .i64 (a : Int)) wr (by kernel_rfl) ?_
                                    simp only [Act.put, List.setIfInBounds_toArray, List.set_cons_zero, List.set_cons_succ]
                                    refine sl_run rfl (.pointer (some ⟨g, 0 + a, none⟩)) wr (exec_ixM _ _ rfl g 0 m cap a (by kernel_rfl) (by kernel_rfl) hla) ?_
                                    simp only [Act.put, List.setIfInBounds_toArray, List.set_cons_zero, List.set_cons_succ]
                                    rw [Nat.zero_add]
                                    refine sl_run rfl (.int .u64 (ma : Int)) wr (exec_load_cell 36 wr _ rfl ⟨g, a, none⟩ (by kernel_rfl) _ ca (fun _ => by kernel_rfl)) ?_
                                    simp only [Act.put, List.setIfInBounds_toArray, List.set_cons_zero, List.set_cons_succ]
                                    refine sl_run rfl (.int .i64 (c : Int)) wr (by kernel_rfl) ?_
                                    simp only [Act.put, List.setIfInBounds_toArray, List.set_cons_zero, List.set_cons_succ]
                                    refine sl_call rfl 30 #[.int .u64 (ma : Int), .int .i64 (c : Int)] (by kernel_rfl) (R := fun v w' => v = .int .u64 (mc : Int) ∧ wr = w') (hset.mono fun e w' h => ⟨_, h.1, rfl, h.2.symm⟩) ?_
                                    rintro _ _ ⟨rfl, rfl⟩
                                    simp only [Act.put, List.setIfInBounds_toArray, List.set_cons_zero, List.set_cons_succ]
                                    refine sl_run rfl (.pointer (some ⟨g, 0 + a, none⟩)) wr (exec_ixM _ _ rfl g 0 m cap a (by kernel_rfl) (by kernel_rfl) hla) ?_
                                    simp only [Act.put, List.setIfInBounds_toArray, List.set_cons_zero, List.set_cons_succ]
                                    rw [Nat.zero_add]
                                    refine wpList_store_cell rfl 36 _ _ rfl g a (by kernel_rfl) (.int .u64 (mc : Int)) (by kernel_rfl) _ ca hrow.out.frozen (fun _ => by kernel_rfl) rfl rfl ?_
                                    simp only [Act.put, List.setIfInBounds_toArray, List.set_cons_zero, List.set_cons_succ]
                                    refine wpList_nil ?_
                                    have hrow2 : Hid (RowC g (uc.set a mc) (wr.setCell ⟨g, a, none⟩ (.int .u64 (mc : Int)))) := hrow.out.set a mc hul.out
                                    have hb2 : Hid (Below w.heap.size w (wr.setCell ⟨g, a, none⟩ (.int .u64 (mc : Int)))) := hbw.out.setCell hgH.out _
                                    generalize World.setCell _ _ _ = w6 at hrow2 hb2 ⊢
                                    clear hset ca cb hrow
                                    go_wp2_with fail
                                    go_roundw
                                    case rel => exact ⟨c + 1, true, _, by omega, by go_num, rfl, hJ2, hrow2, hb2⟩
                                    case measure => simp [intOf]; omega
                            · have hI3 : ¬ (c : Int) < (m : Int) := by omega
                              have hcm : c = m := by omega
                              have hJ2 : Hid (JInv m pairs up0 uc zc a (b + 1) 0) := by
                                have := hJ.out; rw [hcm] at this; exact this.rowB
                              clear hJ hcm
                              go_wp2_with fail
                              go_roundw
                              case rel => exact ⟨b + 1, zc, uc, by omega, by go_num, rfl, hJ2, hrow, hbw⟩
                              case measure => simp [intOf]; omega
                        · have hI3 : ¬ (b : Int) < (m : Int) := by omega
                          have hcm : b = m := by omega
                          have hJ2 : Hid (JInv m pairs up0 ub zb (a + 1) 0 0) := by
                            have := hJ.out; rw [hcm] at this; exact this.rowA
                          clear hJ hcm
                          go_wp2_with fail
                          go_roundw
                          case rel => exact ⟨a + 1, zb, ub, by omega, by go_num, rfl, hJ2, hrow, hbw⟩
                          case measure => simp [intOf]; omega
                    · have hI3 : ¬ (a : Int) < (m : Int) := by omega
                      have hcm : a = m := by omega
                      have hJ2 : Hid (JInv m pairs up0 ua za m 0 0) := by
                        have := hJ.out; rw [hcm] at this; exact this
                      have hgap2 : Hid (gapW g m wr = gap ua) := gapW_eq hJ2.out.grows.len hrow.out
                      have hfin : Hid (za = false → ua = closS m pairs) := fun h => by
                        have := hJ2.out; rw [h] at this; exact this.fin
                      clear hJ hcm
                      go_wp2_with fail
                      go_roundw
                      case rel => exact ⟨ua, za, rfl, hJ2.out.grows, hJ2.out.based, hfin, hrow, hbw⟩
                      case measure =>
                        rw [hgap.out, hgap2.out]
                        cases za with
                        | true => have := hJ2.out.hz rfl; show 2 * gap ua + 1 < 2 * gap up0 + 1; omega
                        | false => have := (hJ2.out.hn rfl).1; rw [this]; show 2 * gap up0 + 0 < 2 * gap up0 + 1; omega
                | false =>
                  have hms : Ms wr (.slice (some ⟨g, 0, none⟩) m cap) (closS m pairs) := by
                    have := hrow0.out; rw [hfin.out rfl] at this
                    exact this.ms clos_len.symm hcapH.out
                  have hsm : Small (closS m pairs) := clos_small hm64
                  obtain ⟨rr, hrr⟩ : ∃ r, r = tr (Ord (closS m pairs)) := ⟨_, rfl⟩
                  have hRR : Hid (R = if rr then (closS m pairs, 0) else ([], 9)) := by
                    show _ = _
                    rw [hRH.out]; unfold buildS
                    rw [if_pos (tr_of (b := true) ⟨fun _ => ⟨by omega, by omega, hfit.out⟩, fun _ => rfl⟩).symm, Int.toNat_natCast, hrr]
                  have hcall := (rright_calls (closS m pairs) hsm (some ⟨g, 0, none⟩) m cap clos_len.symm wr hms).mono (R' := fun e w' => e = .returned (.bool rr) ∧ wr = w') fun e w' h => ⟨by rw [hrr]; exact h.1, h.2.symm⟩
                  have hms2 : Hid (Ms wr (.slice (some ⟨g, 0, none⟩) m cap) (closS m pairs)) := hms
                  clear hms hsm hrr hRH hfit hfin hg0 hb0 hrow0
                  cases rr with
                  | false =>
                    have hR0 : Hid (R = ([], 9)) := hRR.out
                    go_wp2_with (go_at_call 16; refine hcall.mono ?_; rintro e w' ⟨rfl, rfl⟩)
                    go_ret2
                    rw [hR0.out]
                    exact ⟨_, rfl, Rw.nil, hbw.out⟩
                  | true =>
                    have hR0 : Hid (R = (closS m pairs, 0)) := hRR.out
                    go_wp2_with (go_at_call 16; refine hcall.mono ?_; rintro e w' ⟨rfl, rfl⟩)
                    go_ret2
                    rw [hR0.out]
                    exact ⟨_, rfl, hms2.out, hbw.out⟩

end Go.Proofs.YtfbbpodlemllcaaDoor
