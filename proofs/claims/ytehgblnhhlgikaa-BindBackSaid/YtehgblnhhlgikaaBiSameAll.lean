/-
  Bindings: two lists of tuples that are one.
-/
import Derived.Test.YtehgblnhhlgikaaBiSel
import Derived.Test.YtehgblnhhlgikaaBiOrder
namespace Go.Proofs.Ytehgblnhhlgikaa.Bi
open Go.RowKit
set_option linter.unusedVariables false
set_option linter.unusedSimpArgs false
set_option pp.maxSteps 50000
theorem key_at {l l2 : List TT} (h : l.map TT.key = l2.map TT.key) (i : Nat) : (l.getD i default).key = (l2.getD i default).key := by
  have h2 := congrArg (fun x => x[i]?) h
  simp only [List.getElem?_map] at h2
  rw [List.getD_eq_getElem?_getD, List.getD_eq_getElem?_getD]
  cases h3 : l[i]? <;> cases h4 : l2[i]? <;> simp_all
theorem tt_in {l : List TT} {i : Nat} (h : i < l.length) : l.getD i default ∈ l := by
  rw [List.getD_eq_getElem?_getD, List.getElem?_eq_getElem h]; exact List.getElem_mem h
set_option maxRecDepth 100000 in
set_option maxHeartbeats 2000000 in
theorem sameAll_calls (l l2 : List TT) (A A2 : Option Addr) (n c c2 : Nat) (hk : l.map TT.key = l2.map TT.key) (hn : n = l.length) (hn9 : n ≤ 4000000) (hp : ∀ t ∈ l, t.p.size ≤ 9223372036854775807) (hv : ∀ t ∈ l, ∀ v ∈ t.vs, v.ok) (hs : ∀ t ∈ l, t.vs.length ≤ 4000000) (w : World)
    (hy : Rw 2 TT.cs w (.slice A n c) l) (hz : Rw 2 TT.cs w (.slice A2 n c2) l2) (hyi : ∀ t ∈ l, Rw 2 V2.c w t.v t.vs) (hzi : ∀ t ∈ l2, Rw 2 V2.c w t.v t.vs) :
    Calls Try.prog 18 #[.slice A n c, .slice A2 n c2] w fun e w' => e = .returned (.bool true) ∧ Below w.heap.size w w' := by
  have hn2 : n = l2.length := by rw [hn, ← List.length_map (f := TT.key), hk, List.length_map]
  have hn' : Hid (n = l.length) := hn
  have hn2' : Hid (n = l2.length) := hn2
  have hkH : Hid (l.map TT.key = l2.map TT.key) := hk
  have hpH : Hid (∀ t ∈ l, t.p.size ≤ 9223372036854775807) := hp
  have hvH : Hid (∀ t ∈ l, ∀ v ∈ t.vs, v.ok) := hv
  have hsH : Hid (∀ t ∈ l, t.vs.length ≤ 4000000) := hs
  have hyH : Hid (Rw 2 TT.cs w (.slice A n c) l) := hy
  have hzH : Hid (Rw 2 TT.cs w (.slice A2 n c2) l2) := hz
  have hyiH : Hid (∀ t ∈ l, Rw 2 V2.c w t.v t.vs) := hyi
  have hziH : Hid (∀ t ∈ l2, Rw 2 V2.c w t.v t.vs) := hzi
  clear hn hn2 hk hp hv hs hy hz hyi hzi
  have hI0 : ((n : Int) == (n : Int)) = true := by simp
  go_enter Try.func18, Try.ntmps18
  go_wp2_with fail
  go_loopw [5] (fun u wr => ∃ i : Nat, i ≤ n ∧ u = .int .i64 i ∧ Hid (Below w.heap.size w wr)) (fun u _ => n - (intOf u).toNat)
  case atStart => exact ⟨0, by omega, rfl, Below.refl _ _⟩
  case round =>
    obtain ⟨i, hi, rfl, hB⟩ := hrel
    by_cases hlt : i < n
    · have hil : i < l.length := by rw [← hn'.out]; exact hlt
      have hil2 : i < l2.length := by rw [← hn2'.out]; exact hlt
      have hI : (i : Int) < (n : Int) := by omega
      obtain ⟨g, o, rfl, hnc, hg, hra⟩ := hyH.out.elem i hil
      obtain ⟨g2, o2, rfl, hnc2, hg2, hra2⟩ := hzH.out.elem i hil2
      have hke := key_at hkH.out i
      have h1 := hpH.out _ (tt_in hil)
      have h2 := hvH.out _ (tt_in hil)
      have h3 := hsH.out _ (tt_in hil)
      have h4 := hyiH.out _ (tt_in hil)
      have h5 := hziH.out _ (tt_in hil2)
      generalize l.getD i default = t at hra hke h1 h2 h3 h4
      generalize l2.getD i default = t2 at hra2 hke h5
      obtain ⟨tp, tA, tc, tv⟩ := t
      obtain ⟨tp2, tA2, tc2, tv2⟩ := t2
      obtain ⟨rfl, rfl⟩ : tp = tp2 ∧ tv = tv2 := by injection hke with a b; exact ⟨a, b⟩
      have h1' : Hid (tp.size ≤ 9223372036854775807) := h1
      have h2' : Hid (∀ v ∈ tv, v.ok) := h2
      have h3' : Hid (tv.length ≤ 4000000) := h3
      have h4' : Hid (Rw 2 V2.c w (.slice tA tv.length tc) tv) := h4
      have h5' : Hid (Rw 2 V2.c w (.slice tA2 tv.length tc2) tv) := h5
      have hra' := range_below hra hB.out hg
      have hra2' := range_below hra2 hB.out hg2
      have hws := Below.size hB.out
      clear hil hil2 hke h1 h2 h3 h4 h5 hra hra2
      go_upto_region 6 with fail
      refine wp_region_quiet (C := Below wr.heap.size wr) (by kernel_rfl) (by kernel_rfl) (Below.refl _ _).drew ?_
      refine quiet_run rfl (.slice (some ⟨g, o, none⟩) n c) (fun _ _ => by kernel_rfl) ?_
      simp only [Act.put, List.setIfInBounds_toArray, List.set_cons_zero, List.set_cons_succ]
      refine quiet_run rfl (.int .i64 i) (fun _ _ => by kernel_rfl) ?_
      simp only [Act.put, List.setIfInBounds_toArray, List.set_cons_zero, List.set_cons_succ]
      refine quiet_run rfl (.pointer (some ⟨g, o + i * 2, none⟩)) (fun w' _ => exec_index un41 sz41 _ _ rfl g o n c i (by kernel_rfl) (by kernel_rfl) hlt w') ?_
      simp only [Act.put, List.setIfInBounds_toArray, List.set_cons_zero, List.set_cons_succ]
      refine quiet_run rfl (.agg (TT.cs ⟨tp, tA, tc, tv⟩)) (fun w' h => exec_load_mid 27 w' _ rfl g (o + i * 2) (by kernel_rfl) (TT.cs ⟨tp, tA, tc, tv⟩).toList _ (range_below hra' h (by omega)) Try.underlying27 rfl (by kernel_rfl)) ?_
      simp only [Act.put, List.setIfInBounds_toArray, List.set_cons_zero, List.set_cons_succ]
      refine quiet_run rfl (.slice (some ⟨g2, o2, none⟩) n c2) (fun _ _ => by kernel_rfl) ?_
      simp only [Act.put, List.setIfInBounds_toArray, List.set_cons_zero, List.set_cons_succ]
      refine quiet_run rfl (.int .i64 i) (fun _ _ => by kernel_rfl) ?_
      simp only [Act.put, List.setIfInBounds_toArray, List.set_cons_zero, List.set_cons_succ]
      refine quiet_run rfl (.pointer (some ⟨g2, o2 + i * 2, none⟩)) (fun w' _ => exec_index un41 sz41 _ _ rfl g2 o2 n c2 i (by kernel_rfl) (by kernel_rfl) hlt w') ?_
      simp only [Act.put, List.setIfInBounds_toArray, List.set_cons_zero, List.set_cons_succ]
      refine quiet_run rfl (.agg (TT.cs ⟨tp, tA2, tc2, tv⟩)) (fun w' h => exec_load_mid 27 w' _ rfl g2 (o2 + i * 2) (by kernel_rfl) (TT.cs ⟨tp, tA2, tc2, tv⟩).toList _ (range_below hra2' h (by omega)) Try.underlying27 rfl (by kernel_rfl)) ?_
      simp only [Act.put, List.setIfInBounds_toArray, List.set_cons_zero, List.set_cons_succ]
      refine quiet_fn rfl 17 #[.agg (TT.cs ⟨tp, tA, tc, tv⟩), .agg (TT.cs ⟨tp, tA2, tc2, tv⟩)] (fun _ _ => by kernel_rfl) (.bool true) (fun w' h => (sameT_calls tp tv tA tA2 tv.length tc tc2 h1'.out h2'.out rfl h3'.out w' (h4'.out.below (hB.out.trans (h.mono hws))) (h5'.out.below (hB.out.trans (h.mono hws)))).mono fun en w2 h2 => ⟨h2.1, h.trans (h2.2.mono h.size)⟩) ?_
      simp only [Act.put, List.setIfInBounds_toArray, List.set_cons_zero, List.set_cons_succ]
      refine quiet_run rfl (.bool false) (fun _ _ => by kernel_rfl) ?_
      simp only [Act.put, List.setIfInBounds_toArray, List.set_cons_zero, List.set_cons_succ]
      refine wpQuiet_nil ?_
      intro w7 hB7
      have hB8 : Hid (Below w.heap.size w w7) := hB.out.trans (hB7.mono hws)
      clear hra' hra2' hB hB7 h1' h2' h3' h4' h5'
      go_wp2_with fail
      go_roundw
      case rel => exact ⟨i + 1, by omega, by go_num, hB8⟩
      case measure => simp [intOf]; omega
    · have hI : ¬ (i : Int) < (n : Int) := by omega
      go_wp2_with fail
      go_ret
      exact ⟨rfl, hB.out⟩
end Go.Proofs.Ytehgblnhhlgikaa.Bi
