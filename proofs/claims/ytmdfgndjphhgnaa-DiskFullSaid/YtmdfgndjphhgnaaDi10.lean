/-
  Files of a disk.
-/
import Derived.Test.YtmdfgndjphhgnaaDi9
import Derived.Test.YtmdfgndjphhgnaaDiSort
import Derived.Sort.OwnSorted
namespace Go.Proofs.Ytmdfgndjphhgnaa
open Go.RowKit
set_option linter.unusedVariables false
set_option linter.unusedSimpArgs false
def encS (s : ByteArray) : Array Value := #[.string s]
theorem encS_size (s : ByteArray) : (encS s).size = 1 := rfl
theorem encS_one (s : ByteArray) : ∀ u ∈ (encS s).toList, u.oneCell' = true := by simp [encS, Value.oneCell']
theorem un55' : Try.prog.underlying 55 = some (.slice 9) := by kernel_rfl
theorem inf9 : (Try.prog.info? 9).map (fun i => (i.zero, i.size, i.bytes)) = some (some (.string ByteArray.empty), 1, 16) := by kernel_rfl
theorem flat_encStr (l : List ByteArray) : flat encS l = (l.map fun s => s.data.toList).map Go.Proofs.encStr := by
  induction l with
  | nil => rfl
  | cons x l ih =>
    have : flat encS (x :: l) = .string x :: flat encS l := by simp [flat, encS]
    rw [this, ih]
    simp [Go.Proofs.encStr]
/-- How far the names are collected. -/
structure FiI (w0 : World) (D mb R since : Nat) (d : DS) (es : Array MapEntry) (L : List (FE × Value)) (Bn : List Nat) (seen : Array Nat) (names : List ByteArray) (v : Value) (w : World) : Prop where
  mi : MI w D mb since d.left d.off es L
  it : w.heap[R]? = some (.mapIter (some mb) since seen since)
  own : w.ownsRow w0.heap.size 9 1 v names.length (flat encS names)
  cnt : names.length + (Bn.filter fun b => !seen.contains b).length = Bn.length
  bel : Below w0.heap.size w0 w
theorem filter_one (l : List Nat) (hn : l.Nodup) (seen : Array Nat) {b : Nat} (hb : b ∈ l) (hs : seen.contains b = false) : (l.filter fun x => !seen.contains x).length = (l.filter fun x => !(seen.push b).contains x).length + 1 := by
  induction l with
  | nil => cases hb
  | cons x l ih =>
    have hn2 := List.nodup_cons.1 hn
    rw [List.filter_cons, List.filter_cons, contains_push]
    by_cases e : x = b
    · subst e
      rw [hs]
      simp only [Bool.not_false, if_true, Bool.false_or, beq_self_eq_true, Bool.not_true, Bool.false_eq_true, if_false, List.length_cons]
      congr 1
      congr 1
      refine List.filter_congr fun y hy => ?_
      rw [contains_push]
      have : (y == x) = false := by rw [beq_eq_false_iff_ne]; intro e2; subst e2; exact hn2.1 hy
      rw [this, Bool.or_false]
    · have hbl : b ∈ l := by
        rcases List.mem_cons.1 hb with h | h
        · exact absurd h.symm e
        · exact h
      have ih := ih hn2.2 hbl
      have : (x == b) = false := by rw [beq_eq_false_iff_ne]; exact e
      rw [this, Bool.or_false]
      cases hx : seen.contains x with
      | true =>
        simp only [Bool.not_true, Bool.false_eq_true, if_false]
        exact ih
      | false =>
        simp only [Bool.not_false, if_true, List.length_cons]
        omega
theorem Files_nil (w : World) : Calls Try.prog 31 #[.pointer none] w fun e w' => e = .returned (.slice none 0 0) ∧ w = w' := by
  go_enter Try.func31, Try.ntmps31
  go_upto_region 1 with fail
  refine wp_region_lit ?_
  refine sl_run rfl (.pointer none) w (by kernel_rfl) ?_
  simp only [Act.put, List.setIfInBounds_toArray, List.set_cons_zero, List.set_cons_succ]
  refine sg_call (by kernel_rfl) 29 #[.pointer none] (by kernel_rfl) (R := fun v w' => v = .bool false ∧ w = w') ((On_nil w).mono fun e w' h => ⟨_, h.1, rfl, h.2⟩) ?_
  rintro _ _ ⟨rfl, rfl⟩
  simp only [Act.put, List.setIfInBounds_toArray, List.set_cons_zero, List.set_cons_succ]
  refine sl_run rfl (.bool true) w (by kernel_rfl) ?_
  simp only [Act.put, List.setIfInBounds_toArray, List.set_cons_zero, List.set_cons_succ]
  refine wpList_nil ?_
  go_wp2_with fail
  go_ret
  exact ⟨rfl, rfl⟩
set_option maxRecDepth 100000 in
theorem Files_off {w : World} {D mb : Nat} {d : DS} (h : DiskI w D mb d) (ho : d.off = true) : Calls Try.prog 31 #[.pointer (some ⟨D, 0, none⟩)] w fun e w' => e = .returned (.slice none 0 0) ∧ w = w' := by
  have hO : Calls Try.prog 29 #[.pointer (some ⟨D, 0, none⟩)] w fun e w' => e = .returned (.bool false) ∧ w = w' := by
    have h8 := On_calls h
    rw [ho] at h8; exact h8
  go_enter Try.func31, Try.ntmps31
  go_upto_region 1 with fail
  refine wp_region_lit ?_
  refine sl_run rfl (.pointer (some ⟨D, 0, none⟩)) w (by kernel_rfl) ?_
  simp only [Act.put, List.setIfInBounds_toArray, List.set_cons_zero, List.set_cons_succ]
  refine sg_call (by kernel_rfl) 29 #[.pointer (some ⟨D, 0, none⟩)] (by kernel_rfl) (R := fun v w' => v = .bool false ∧ w = w') ((hO).mono fun e w' h => ⟨_, h.1, rfl, h.2⟩) ?_
  rintro _ _ ⟨rfl, rfl⟩
  simp only [Act.put, List.setIfInBounds_toArray, List.set_cons_zero, List.set_cons_succ]
  refine sl_run rfl (.bool true) w (by kernel_rfl) ?_
  simp only [Act.put, List.setIfInBounds_toArray, List.set_cons_zero, List.set_cons_succ]
  refine wpList_nil ?_
  clear hO
  go_wp2_with fail
  go_ret
  exact ⟨rfl, rfl⟩
set_option maxRecDepth 100000 in
set_option maxHeartbeats 1000000 in
theorem Files_calls {w : World} {D mb : Nat} {d : DS} (h : DiskI w D mb d) (ho : d.off = false) (hl9 : d.L.length ≤ 1000000) : Calls Try.prog 31 #[.pointer (some ⟨D, 0, none⟩)] w fun e w' => ∃ A c, e = .returned (.slice A d.L.length c) ∧ Below w.heap.size w w' := by
  have hOn : Hid (Calls Try.prog 29 #[.pointer (some ⟨D, 0, none⟩)] w fun e w' => e = .returned (.bool true) ∧ w = w') := by
    have h8 := On_calls h
    rw [ho] at h8; exact h8
  have hDw : Hid (DiskI w D mb d) := h
  obtain ⟨L0, ⟨es, since, hde0⟩, hL0, hrw0⟩ := h.ex
  have hM0 : Hid (MI w D mb since d.left d.off es L0) := MI.mk h.row hde0 hrw0
  have hrwH : Hid (∀ p ∈ L0, Rw 1 encB w p.2 p.1.bs) := hrw0
  have hesl : Hid (es.size = d.L.length) := by
    show _ = _
    rw [hde0.len, List.length_map, ← hL0, List.length_map]
  obtain ⟨Bn, hBn⟩ : ∃ B, B = es.toList.map (·.born) := ⟨_, rfl⟩
  have hBnH : Hid (Bn = es.toList.map (·.born)) := hBn
  obtain ⟨n, hn⟩ : ∃ n, n = d.L.length := ⟨_, rfl⟩
  have hnH : Hid (n = d.L.length) := hn
  rw [← hn] at hl9 ⊢
  clear h ho hde0 hL0 hrw0 hBn hn
  go_enter Try.func31, Try.ntmps31
  go_upto_region 1 with fail
  refine wp_region_lit ?_
  refine sl_run rfl (.pointer (some ⟨D, 0, none⟩)) w (by kernel_rfl) ?_
  simp only [Act.put, List.setIfInBounds_toArray, List.set_cons_zero, List.set_cons_succ]
  refine sg_call (by kernel_rfl) 29 #[.pointer (some ⟨D, 0, none⟩)] (by kernel_rfl) (R := fun v w' => v = .bool true ∧ w = w') ((hOn.out).mono fun e w' h => ⟨_, h.1, rfl, h.2⟩) ?_
  rintro _ _ ⟨rfl, rfl⟩
  simp only [Act.put, List.setIfInBounds_toArray, List.set_cons_zero, List.set_cons_succ]
  refine sl_run rfl (.bool false) w (by kernel_rfl) ?_
  simp only [Act.put, List.setIfInBounds_toArray, List.set_cons_zero, List.set_cons_succ]
  refine wpList_nil ?_
  clear hOn
  go_upto_region 3 with fail
  refine wp_region_lit ?_
  obtain ⟨Lm, hLm, hLl⟩ := hDw.out.len
  have hLl2 : Lm.length = n := by rw [hLl, hnH.out]
  refine sl_run rfl (.pointer (some ⟨D, 0, none⟩)) w (by kernel_rfl) ?_
  simp only [Act.put, List.setIfInBounds_toArray, List.set_cons_zero, List.set_cons_succ]
  refine sl_run rfl (.pointer (some ⟨D, 0, none⟩)) w (by kernel_rfl) ?_
  simp only [Act.put, List.setIfInBounds_toArray, List.set_cons_zero, List.set_cons_succ]
  refine sl_run rfl (.pointer (some ⟨D, 0, none⟩)) w (by kernel_rfl) ?_
  simp only [Act.put, List.setIfInBounds_toArray, List.set_cons_zero, List.set_cons_succ]
  refine sl_run rfl (.map (some mb)) w (exec_load_cell 61 w _ rfl ⟨D, 0, none⟩ (by kernel_rfl) _ hDw.out.c0 (fun _ => by kernel_rfl)) ?_
  simp only [Act.put, List.setIfInBounds_toArray, List.set_cons_zero, List.set_cons_succ]
  refine sl_run rfl (.int .i64 (n : Int)) w (exec_lenm _ rfl mb (by kernel_rfl) hLm _ hLl2) ?_
  simp only [Act.put, List.setIfInBounds_toArray, List.set_cons_zero, List.set_cons_succ]
  obtain ⟨i9, hi9, hz0, hz1, hz2⟩ := info_parts inf9
  have hcs : (madeCells (Value.string ByteArray.empty).cells (n * i9.size)).size = n * 1 := by rw [size_madeCells, hz1]
  refine sg_run (by kernel_rfl) (.slice (some ⟨w.heap.size, 0, none⟩) 0 n) (w.alloc (.cells (madeCells (Value.string ByteArray.empty).cells (n * i9.size)) 9)) ?he ?_
  case he => exact exec_make 55 _ _ rfl 9 i9 _ un55' hi9 hz0 n (by kernel_rfl) (by kernel_rfl) (by rw [hz2]; omega) (by unfold maxLen; omega)
  simp only [Act.put, List.setIfInBounds_toArray, List.set_cons_zero, List.set_cons_succ]
  have hown0 : (w.alloc (.cells (madeCells (Value.string ByteArray.empty).cells (n * i9.size)) 9)).ownsRow w.heap.size 9 1 (.slice (some ⟨w.heap.size, 0, none⟩) 0 n) ([] : List ByteArray).length (flat encS []) := World.ownsRow_made _ _ n (Nat.le_refl _) (by unfold maxLen; omega) hcs
  have hb0 : Below w.heap.size w (w.alloc (.cells (madeCells (Value.string ByteArray.empty).cells (n * i9.size)) 9)) := (Below.refl _ _).alloc (Nat.le_refl _) _
  generalize (w.alloc (.cells (madeCells (Value.string ByteArray.empty).cells (n * i9.size)) 9)) = w2 at hown0 hb0 ⊢
  generalize (Value.slice (some ⟨w.heap.size, 0, none⟩) 0 n) = v2 at hown0 ⊢
  have hownw2 : Hid (w2.ownsRow w.heap.size 9 1 v2 ([] : List ByteArray).length (flat encS [])) := hown0
  have hBw2 : Hid (Below w.heap.size w w2) := hb0
  have hMw2 : Hid (MI w2 D mb since d.left d.off es L0) := hM0.out.below hb0
  have hcm : Hid (w2.cell? ⟨D, 0, none⟩ = some (.map (some mb))) := (hDw.out.below hb0).c0
  clear hown0 hb0 hcs hi9 hz0 hz1 hz2 hM0 hDw
  refine sl_run rfl (v2) w2 (by kernel_rfl) ?_
  simp only [Act.put, List.setIfInBounds_toArray, List.set_cons_zero, List.set_cons_succ]
  refine wpList_nil ?_
  clear hLm hLl hLl2
  go_upto_region 4 with fail
  refine wp_region_lit ?_
  refine sl_run rfl (.pointer (some ⟨D, 0, none⟩)) w2 (by kernel_rfl) ?_
  simp only [Act.put, List.setIfInBounds_toArray, List.set_cons_zero, List.set_cons_succ]
  refine sl_run rfl (.pointer (some ⟨D, 0, none⟩)) w2 (by kernel_rfl) ?_
  simp only [Act.put, List.setIfInBounds_toArray, List.set_cons_zero, List.set_cons_succ]
  refine sl_run rfl (.pointer (some ⟨D, 0, none⟩)) w2 (by kernel_rfl) ?_
  simp only [Act.put, List.setIfInBounds_toArray, List.set_cons_zero, List.set_cons_succ]
  refine sl_run rfl (.map (some mb)) w2 (exec_load_cell 61 w2 _ rfl ⟨D, 0, none⟩ (by kernel_rfl) _ hcm.out (fun _ => by kernel_rfl)) ?_
  simp only [Act.put, List.setIfInBounds_toArray, List.set_cons_zero, List.set_cons_succ]
  refine sg_run (by kernel_rfl) (.pointer (some ⟨w2.heap.size, 0, none⟩)) (w2.alloc (.mapIter (some mb) since #[] since)) ?he ?_
  case he => exact exec_rangem _ rfl (.map (some mb)) _ (by kernel_rfl) (run_range_map w2 61 9 65 mb es since un61 hMw2.out.de.heap)
  simp only [Act.put, List.setIfInBounds_toArray, List.set_cons_zero, List.set_cons_succ]
  have hb3 : Below w2.heap.size w2 (w2.alloc (.mapIter (some mb) since #[] since)) := (Below.refl _ _).alloc (Nat.le_refl _) _
  have hF0 : FiI w D mb w2.heap.size since d es L0 Bn #[] [] v2 (w2.alloc (.mapIter (some mb) since #[] since)) := ⟨hMw2.out.below hb3, heap_alloc_new _ _, own_keep hownw2.out (fun q hq => hb3.block q (hownw2.out.lt q hq).2), by simp, hBw2.out.trans (hb3.mono hBw2.out.size)⟩
  have hR0 : w.heap.size ≤ w2.heap.size := hBw2.out.size
  generalize (w2.alloc (.mapIter (some mb) since #[] since)) = w4 at hF0 ⊢
  obtain ⟨R, hRe⟩ : ∃ R, R = w2.heap.size := ⟨_, rfl⟩
  rw [← hRe] at hF0 hR0 ⊢
  have hFw4 : Hid (FiI w D mb R since d es L0 Bn #[] [] v2 w4) := hF0
  have hRle : Hid (w.heap.size ≤ R) := hR0
  clear hF0 hR0 hRe hb3 hownw2 hBw2 hMw2 hcm
  refine wpList_nil ?_
  go_wp2_with fail
  go_loopw [3] (fun p wr => ∃ (seen : Array Nat) (names : List ByteArray), Hid (FiI w D mb R since d es L0 Bn seen names p wr)) (fun _ wr => (Bn.filter fun b => !(wr.iterSeen R).contains b).length)
  case atStart => exact ⟨#[], [], hFw4⟩
  case round =>
    obtain ⟨seen, names, hC⟩ := hrel
    clear hFw4
    obtain ⟨wo, rfl⟩ : ∃ v : World, v = wr := ⟨_, rfl⟩
    obtain ⟨v3, rfl⟩ : ∃ v, v = u3 := ⟨_, rfl⟩
    go_upto_region 5 with fail
    refine wp_region_lit ?_
    rcases run_next_at (P := Try.prog) wo 0 R mb since since seen es since hC.out.it hC.out.mi.de.heap hC.out.mi.de.st.1 (Nat.le_refl _) with ⟨h0, hrun⟩ | ⟨e, he, w1, hw1, hrun⟩
    case inl =>
      have hn2 : names.length = n := by
        have h8 := hC.out.cnt
        have h9 : (Bn.filter fun b => !seen.contains b) = [] := by
          rw [List.filter_eq_nil_iff]
          intro b hb hc
          rw [hBnH.out] at hb
          obtain ⟨x, hx, rfl⟩ := List.mem_map.1 hb
          have hx2 : x ∈ leftOf es seen := by
            unfold leftOf
            rw [Array.mem_filter]
            exact ⟨by simpa using hx, by simpa using hc⟩
          rw [Array.eq_empty_of_size_eq_zero h0] at hx2
          simp at hx2
        have h10 : Bn.length = n := by rw [hBnH.out, List.length_map, Array.length_toList, hesl.out, ← hnH.out]
        rw [h9, List.length_nil] at h8
        omega
      subst hn2
      have hownH : Hid (wo.ownsRow w.heap.size 9 1 v3 names.length (flat encS names)) := hC.out.own
      have hBo : Hid (Below w.heap.size w wo) := hC.out.bel
      refine sl_run rfl (.tuple #[.bool false]) wo ?he ?_
      case he => exact exec_next _ rfl _ _ (by kernel_rfl) hrun
      simp only [Act.put, List.setIfInBounds_toArray, List.set_cons_zero, List.set_cons_succ]
      clear h0 hrun hC hBnH hesl hnH hRle
      refine sl_run rfl (.bool false) wo (by kernel_rfl) ?_
      simp only [Act.put, List.setIfInBounds_toArray, List.set_cons_zero, List.set_cons_succ]
      refine wpList_nil ?_
      obtain ⟨A, c, rfl⟩ := own_form hownH.out
      go_upto_region 8 with fail
      refine wp_region_lit ?_
      refine sl_run rfl (.slice A names.length c) wo (by kernel_rfl) ?_
      simp only [Act.put, List.setIfInBounds_toArray, List.set_cons_zero, List.set_cons_succ]
      refine sg_call (by kernel_rfl) 50 #[.slice A names.length c] (by kernel_rfl) (R := fun v w' => v = .tuple #[] ∧ Below w.heap.size w w') ?hc ?_
      case hc =>
        rcases hownH.out.2 with ⟨hnil, h0⟩ | ⟨g, cap, cur, he, hbase, hb, h1, h2, h3, h4⟩
        · rw [h0]
          exact (Go.Proofs.Try.slices_Sort_string_none A c wo).mono fun e w' h => ⟨_, h.1, rfl, by rw [h.2]; exact hBo.out⟩
        · injection he with e1 e2 e3
          subst e1 e3
          have hh : Go.Sort.Holds Go.Proofs.encStr wo g 0 (names.map fun s => s.data.toList).toArray := holds_of_block hb (by rw [List.length_map]; rw [flat_encStr] at h4; simpa using h4)
          have hs := Go.Proofs.Try.slices_Sort_string g 0 c (names.map fun s => s.data.toList) wo hh (Array.getElem?_eq_some_iff.1 hb).1 (by rw [List.length_map]; omega)
          rw [List.length_map] at hs
          refine hs.mono fun e w' h => ?_
          obtain ⟨h1, n9, os, rfl⟩ := h
          exact ⟨_, h1, rfl, hBo.out.grown (grownBy_sorted _) hBo.out.size (fun q hq => by cases hq; exact hbase)⟩
      rintro _ w6 ⟨rfl, hb6⟩
      simp only [Act.put, List.setIfInBounds_toArray, List.set_cons_zero, List.set_cons_succ]
      have hBw6 : Hid (Below w.heap.size w w6) := hb6
      clear hb6 hownH hBo
      refine wpList_nil ?_
      go_wp2_with fail
      go_ret
      exact ⟨A, c, rfl, hBw6.out⟩
    case inr =>
    obtain ⟨hm1, hs1⟩ := mem_left he
    have hRlt : R < wo.heap.size := (Array.getElem?_eq_some_iff.1 hC.out.it).1
    obtain ⟨hkR, hit5⟩ := kp_setBlock hw1 R (.mapIter (some mb) since (seen.push e.born) since) hRlt
    have hkey : ∃ nm, e.key = .string nm := by
      have h8 : e.key ∈ es.toList.map (·.key) := List.mem_map.2 ⟨e, hm1, rfl⟩
      rw [hC.out.mi.de.keys] at h8
      obtain ⟨p, _, h9⟩ := List.mem_map.1 h8
      exact ⟨p.1, h9.symm⟩
    obtain ⟨nm, hnm⟩ := hkey
    refine sg_run (by kernel_rfl) (.tuple #[.bool true, .string nm, e.val]) (Go.ChangeMaps.setBlock w1 R (.mapIter (some mb) since (seen.push e.born) since)) ?he ?_
    case he => exact (exec_next _ rfl _ _ (by kernel_rfl) hrun).trans (by rw [hnm])
    simp only [Act.put, List.setIfInBounds_toArray, List.set_cons_zero, List.set_cons_succ]
    have hm5 := hC.out.mi.kR hC.out.it hkR
    have hb5 : Below w.heap.size w (Go.ChangeMaps.setBlock w1 R (.mapIter (some mb) since (seen.push e.born) since)) := hC.out.bel.trans (hkR.bel (fun q hq => by rw [hq]; exact hRle.out) hC.out.bel.size)
    have hown5 : (Go.ChangeMaps.setBlock w1 R (.mapIter (some mb) since (seen.push e.born) since)).ownsRow w.heap.size 9 1 v3 names.length (flat encS names) := own_keep hC.out.own (fun q hq => hkR.block q (hC.out.own.lt q hq).2 (fun e9 => by
      rcases hC.out.own.2 with ⟨h8, _⟩ | ⟨g, cap, cur, h8, h9, h10, _⟩
      · rw [h8] at hq; simp [Value.ownBlock] at hq
      · rw [h8] at hq
        simp [Value.ownBlock] at hq
        have h11 := hC.out.it
        rw [← e9, ← hq, h10] at h11
        cases h11))
    generalize (Go.ChangeMaps.setBlock w1 R (.mapIter (some mb) since (seen.push e.born) since)) = W5 at hm5 hb5 hown5 hit5 ⊢
    have hmW5 : Hid (MI W5 D mb since d.left d.off es L0) := hm5
    have hBW5 : Hid (Below w.heap.size w W5) := hb5
    have hoW5 : Hid (W5.ownsRow w.heap.size 9 1 v3 names.length (flat encS names)) := hown5
    have hiW5 : Hid (W5.heap[R]? = some (.mapIter (some mb) since (seen.push e.born) since)) := hit5
    have hiso : Hid (wo.iterSeen R = seen) := iterSeen_at hC.out.it
    have hcnt : Hid (names.length + (Bn.filter fun b => !seen.contains b).length = Bn.length) := hC.out.cnt
    have hbB : Hid (e.born ∈ Bn ∧ seen.contains e.born = false ∧ e ∈ es.toList ∧ e.key = .string nm) := And.intro (by rw [hBnH.out]; exact List.mem_map.2 ⟨e, hm1, rfl⟩) (And.intro hs1 (And.intro hm1 hnm))
    have hBnl : Hid (Bn.length = n) := by
      show _ = _
      rw [hBnH.out, List.length_map, Array.length_toList, hesl.out, ← hnH.out]
    clear hm5 hb5 hown5 hit5 hkR hw1 hrun hRlt hC hm1 hs1 hnm he
    refine sl_run rfl (.bool true) W5 (by kernel_rfl) ?_
    simp only [Act.put, List.setIfInBounds_toArray, List.set_cons_zero, List.set_cons_succ]
    refine wpList_nil ?_
    go_upto_region 6 with fail
    refine wp_region_lit ?_
    refine sl_run rfl (.tuple #[.string nm, e.val]) W5 ?he ?_
    case he => exact (exec_entry _ rfl _ _ (by kernel_rfl) (run_entry_at W5 R mb since seen es since e hiW5.out hmW5.out.de.heap hbB.out.2.2.1 hmW5.out.de.st.2.1)).trans (by rw [hbB.out.2.2.2])
    simp only [Act.put, List.setIfInBounds_toArray, List.set_cons_zero, List.set_cons_succ]
    refine sl_run rfl (.string nm) W5 (by kernel_rfl) ?_
    simp only [Act.put, List.setIfInBounds_toArray, List.set_cons_zero, List.set_cons_succ]
    refine sl_run rfl (.string nm) W5 (by kernel_rfl) ?_
    simp only [Act.put, List.setIfInBounds_toArray, List.set_cons_zero, List.set_cons_succ]
    refine wpList_nil ?_
    go_upto_region 7 with fail
    refine wp_region_lit ?_
    refine sl_run rfl (v3) W5 (by kernel_rfl) ?_
    simp only [Act.put, List.setIfInBounds_toArray, List.set_cons_zero, List.set_cons_succ]
    refine sl_run rfl (.string nm) W5 (by kernel_rfl) ?_
    simp only [Act.put, List.setIfInBounds_toArray, List.set_cons_zero, List.set_cons_succ]
    refine sg_run (by kernel_rfl) (.slice (some ⟨W5.heap.size, 0, none⟩) 1 1) (W5.alloc (.cells #[.string nm] 9)) (by kernel_rfl) ?_
    simp only [Act.put, List.setIfInBounds_toArray, List.set_cons_zero, List.set_cons_succ]
    have hb6 : Below W5.heap.size W5 (W5.alloc (.cells #[.string nm] 9)) := (Below.refl _ _).alloc (Nat.le_refl _) _
    have hd6 : (W5.alloc (.cells #[.string nm] 9)).heap[W5.heap.size]? = some (.cells #[.string nm] 9 (0, 0)) := heap_alloc_new _ _
    generalize (W5.alloc (.cells #[.string nm] 9)) = W6 at hb6 hd6 ⊢
    generalize W5.heap.size = gb at hd6 ⊢
    have hyW6 : Rw 1 encS W6 (.slice (some ⟨gb, 0, none⟩) 1 1) [nm] := rw_new encS_size (t := 9) (fr := (0, 0)) [nm] hd6
    have hoW6 : W6.ownsRow w.heap.size 9 1 v3 names.length (flat encS names) := own_keep hoW5.out (fun q hq => hb6.block q (hoW5.out.lt q hq).2)
    have hBW6 : Below w.heap.size w W6 := hBW5.out.trans (hb6.mono hBW5.out.size)
    have hmW6 : MI W6 D mb since d.left d.off es L0 := hmW5.out.below hb6
    have hiW6 := heap_kept hiW5.out hb6
    clear hb6 hd6 hmW5 hBW5 hoW5 hiW5
    obtain ⟨i9, hi9, hz0, hz1, hz2⟩ := info_parts inf9
    refine appendRw (k := 1) (enc := encS) 55 9 16 i9 (.string ByteArray.empty) un55' hi9 hz0 hz1 hz2 rfl (by decide) encS_size encS_one rfl _ _ rfl w.heap.size v3 names [nm] (by kernel_rfl) hoW6 (.slice (some ⟨gb, 0, none⟩) 1 1) (by kernel_rfl) hyW6 (by have := hcnt.out; have := hBnl.out; simp; omega) (by have := hcnt.out; have := hBnl.out; simp; omega) hBW6.size (fun v7 W7 hown7 hgr7 => ?_)
    have hb7 : Below w.heap.size w W7 := hBW6.grown hgr7 hBW6.size (fun q hq => (hoW6.lt q hq).1)
    have hneD : ∀ q, v3.ownBlock = some q → q ≠ D ∧ q ≠ mb ∧ q ≠ R := fun q hq => by
      rcases hoW6.2 with ⟨h8, _⟩ | ⟨g, cap, cur, h8, h9, h10, _⟩
      · rw [h8] at hq; simp [Value.ownBlock] at hq
      · rw [h8] at hq
        simp [Value.ownBlock] at hq
        subst hq
        refine ⟨fun e9 => ?_, fun e9 => ?_, fun e9 => ?_⟩
        · have h11 := hmW6.row
          rw [← e9, h10] at h11; simp at h11
        · have h11 := hmW6.de.heap
          rw [← e9, h10] at h11; cases h11
        · have h11 := hiW6
          rw [← e9, h10] at h11; cases h11
    have hgb : ∀ k, k < W6.heap.size → (∀ q, v3.ownBlock = some q → q ≠ k) → W7.heap[k]? = W6.heap[k]? := fun k hk hne => hgr7.block k hk (fun e9 => hne k e9.symm rfl)
    have hm7 : MI W7 D mb since d.left d.off es L0 := by
      refine ⟨(hgb D (Array.getElem?_eq_some_iff.1 hmW6.row).1 (fun q hq => (hneD q hq).1)).trans hmW6.row, ⟨(hgb mb (Array.getElem?_eq_some_iff.1 hmW6.de.heap).1 (fun q hq => (hneD q hq).2.1)).trans hmW6.de.heap, hmW6.de.st, hmW6.de.prs⟩, fun p hp => (hrwH.out p hp).below hb7⟩
    have hi7 : W7.heap[R]? = some (.mapIter (some mb) since (seen.push e.born) since) := (hgb R (Array.getElem?_eq_some_iff.1 hiW6).1 (fun q hq => (hneD q hq).2.2)).trans hiW6
    have hF7 : Hid (FiI w D mb R since d es L0 Bn (seen.push e.born) (names ++ [nm]) v7 W7) := FiI.mk hm7 hi7 hown7 (by
      have h8 := filter_one Bn (by rw [hBnH.out]; exact hm7.de.st.2.1) seen hbB.out.1 hbB.out.2.1
      have h9 := hcnt.out
      rw [List.length_append, List.length_singleton]; omega) hb7
    have hms : Hid ((Bn.filter fun b => !(W7.iterSeen R).contains b).length < (Bn.filter fun b => !(wo.iterSeen R).contains b).length) := by
      show _ < _
      rw [hiso.out, iterSeen_at hi7]
      have h8 := filter_one Bn (by rw [hBnH.out]; exact hm7.de.st.2.1) seen hbB.out.1 hbB.out.2.1
      omega
    clear hi9 hz0 hz1 hz2 hown7 hgr7 hb7 hneD hgb hm7 hi7 hmW6 hBW6 hoW6 hiW6 hyW6 hiso hcnt hbB hBnl
    simp only [Act.put, List.setIfInBounds_toArray, List.set_cons_zero, List.set_cons_succ]
    refine sl_run rfl (v7) W7 (by kernel_rfl) ?_
    simp only [Act.put, List.setIfInBounds_toArray, List.set_cons_zero, List.set_cons_succ]
    refine wpList_nil ?_
    go_wp2_with fail
    go_roundw
    case rel => exact ⟨seen.push e.born, names ++ [nm], hF7⟩
    case measure => exact hms.out
end Go.Proofs.Ytmdfgndjphhgnaa
