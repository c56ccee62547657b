/-
  The law WalScans holds: for every input it answers true, and what came in reads as it did. No condition.
-/
import Derived.Test.YtdkaaieenbmihaaMgH
import Derived.Test.YtdkaaieenbmihaaRows
import Derived.Test.YtdkaaieenbmihaaMgI
import Derived.WalkKit
import Derived.ProofKit
import Derived.OpenShut
import Derived.ShutString
import Derived.ChangeOld
import Derived.Below
set_option linter.unusedVariables false
set_option linter.unusedSimpArgs false
namespace Go.Proofs.Ytdkaaieenbmihaa
open Go.RowKit
open Sha (vals Bytes Lies bytesC sumB)
open Go.Proofs.Ytdkaaieenbmihaa.Pure (nameB)
theorem own_rw {w : World} {base : Nat} {v : Value} {l : List Nat} (h : w.ownsRow base 5 1 v l.length (vals l)) : Rw 1 encB w v l := rw_bytes.2 (own_bytes h)
set_option maxRecDepth 100000 in
set_option maxHeartbeats 4000000 in
theorem WalRecords_calls (n : Int) (hn : n ≤ 9223372036854775807) (p : List Nat) (hp : ∀ x ∈ p, x < 256) (A : Option Addr) (m c : Nat) (hm : m = p.length) (w : World) (hy : Rw 1 encB w (.slice A m c) p) :
    Calls Try.prog 3 #[.int .i64 n, .slice A m c] w fun e w' => e = .returned (.bool true) ∧ Below w.heap.size w w' := by
  have hBw : Hid (Below w.heap.size w w) := Below.refl _ _
  have hyw : Hid (Rw 1 encB w (.slice A m c) p) := hy
  have hm' : Hid (m = p.length) := hm
  have hpH : Hid (∀ x ∈ p, x < 256) := hp
  obtain ⟨bs, er, hr⟩ : ∃ x y, recS n p = (x, y) := ⟨_, _, rfl⟩
  have hrH : Hid (recS n p = (bs, er)) := hr
  have hy0 := hyw
  clear hy hm hp hr
  go_enter Try.func3, Try.ntmps3
  go_upto_region 1 with fail
  refine wp_region_lit ?_
  refine sg_call (by kernel_rfl) 9 #[] (by kernel_rfl) (R := fun v w' => v = .bool true ∧ Below w.heap.size w w') ?hlc1 ?_
  case hlc1 =>
    have h8 := fixed_calls w
    exact h8.mono fun e w' h => ⟨_, h.1, rfl, h.2⟩
  rintro _ w1 ⟨rfl, hb⟩
  simp only [Act.put, fl1, fl2, fl3]
  have hBw1 : Hid (Below w.heap.size w w1) := (hBw.out).trans ((hb).mono (hBw.out).size)
  have hyw1 : Hid (Rw 1 encB w1 (.slice A m c) p) := (hyw.out).below hb
  clear hBw hyw
  clear hb
  refine sl_run rfl (.bool false) w1 (by kernel_rfl) ?_
  simp only [Act.put, fl1, fl2, fl3]
  refine wpList_nil ?_
  by_cases h9 : (9000 : Int) < (m : Int)
  case pos =>
    have hF := hBw1
    clear hBw1 hyw1 hm' hpH hrH
    go_wp2_with fail
    go_ret
    exact ⟨rfl, hF.out⟩
  case neg =>
  go_upto_region 3 with fail
  refine wp_region_lit ?_
  refine sl_run rfl (.slice A m c) w1 (by kernel_rfl) ?_
  simp only [Act.put, fl1, fl2, fl3]
  refine sl_run rfl (.int .i64 (m : Int)) w1 (by kernel_rfl) ?_
  simp only [Act.put, fl1, fl2, fl3]
  refine sl_run rfl (.bool false) w1 (exec_gtr _ _ _ rfl (m : Int) 9000 (by kernel_rfl) (by kernel_rfl) false (decide_eq_false h9)) ?_
  simp only [Act.put, fl1, fl2, fl3]
  refine wpList_nil ?_
  go_upto_region 5 with fail
  refine wp_region_lit ?_
  refine sl_run rfl (.int .i64 n) w1 (by kernel_rfl) ?_
  simp only [Act.put, fl1, fl2, fl3]
  refine sl_run rfl (.slice (some ⟨w1.heap.size, 0, none⟩) 0 0) (w1.alloc (.cells #[] 5)) (by kernel_rfl) ?_
  simp only [Act.put, fl1, fl2, fl3]
  generalize hX : w1.alloc (.cells #[] 5) = w2
  have hb : Below w1.heap.size w1 w2 := by rw [← hX]; exact (Below.refl _ _).alloc (Nat.le_refl _) _
  obtain ⟨E0, hE⟩ : ∃ E, E = w1.heap.size := ⟨_, rfl⟩
  have ho9 : w2.ownsRow w.heap.size 5 1 (.slice (some ⟨E0, 0, none⟩) 0 0) ([] : List Nat).length (vals ([] : List Nat)) := by
    rw [← hX, hE]; exact own_mono (World.ownsRow_made _ _ 0 (Nat.le_refl _) (by decide) rfl) hBw1.out.size
  rw [← hE]
  clear hX hE
  have hBw2 : Hid (Below w.heap.size w w2) := (hBw1.out).trans ((hb).mono (hBw1.out).size)
  have hyw2 : Hid (Rw 1 encB w2 (.slice A m c) p) := (hyw1.out).below hb
  clear hBw1 hyw1
  have hOw2 : Hid (w2.ownsRow w.heap.size 5 1 (.slice (some ⟨E0, 0, none⟩) 0 0) ([] : List Nat).length (vals ([] : List Nat))) := ho9
  clear ho9 hb
  refine sl_run rfl (.slice A m c) w2 (by kernel_rfl) ?_
  simp only [Act.put, fl1, fl2, fl3]
  refine Sha.append22 rfl _ _ rfl (w.heap.size) (.slice (some ⟨E0, 0, none⟩) 0 0) (([] : List Nat)) (p) (by kernel_rfl) hOw2.out (.slice A m c) (by kernel_rfl) (rw_bytes.1 (hyw2.out)) (by have := hm'.out; simp; omega) hBw2.out.size ?_
  intro v3 w3 hO9 hg9 _
  simp only [Act.put, fl1, fl2, fl3]
  have hBw3 : Hid (Below w.heap.size w w3) := hBw2.out.grown hg9 hBw2.out.size (fun q hq => (hOw2.out.lt q hq).1)
  have hOw3 : Hid (w3.ownsRow (w.heap.size) 5 1 v3 ((([] : List Nat)) ++ (p)).length (vals ((([] : List Nat)) ++ (p)))) := hO9
  clear hO9 hg9 hBw2 hyw2 hOw2
  have hyw3 : Hid (Rw 1 encB w3 (.slice A m c) p) := hy0.out.below hBw3.out
  obtain ⟨Aq, cq, hq⟩ : ∃ A c, v3 = .slice A m c := own_formq hOw3.out (by have := hm'.out; simp; omega)
  subst hq
  have hqw3 : Hid (Rw 1 encB w3 (.slice Aq m cq) p) := by have h8 := own_rw hOw3.out; rwa [List.nil_append] at h8
  clear hOw3
  refine sg_call (by kernel_rfl) 10 #[.int .i64 n, .slice Aq m cq] (by kernel_rfl) (R := fun v w' => ∃ u, v = .tuple #[u, .int .i64 (er : Int)] ∧ Rw 1 encB w' u bs ∧ Below w3.heap.size w3 w') ?hlc2 ?_
  case hlc2 =>
    have h8 := Record_calls n hn p hpH.out Aq m cq hm'.out (by omega) w3 hqw3.out
    rw [hrH.out] at h8
    exact h8.mono fun e w' h => by
      obtain ⟨v, h1, h2, h3⟩ := h
      exact ⟨_, h1, v, rfl, h2, h3⟩
  rintro _ w4 ⟨r9, rfl, hr0, hb⟩
  simp only [Act.put, fl1, fl2, fl3]
  have hBw4 : Hid (Below w.heap.size w w4) := (hBw3.out).trans ((hb).mono (hBw3.out).size)
  have hyw4 : Hid (Rw 1 encB w4 (.slice A m c) p) := (hyw3.out).below hb
  have hqw4 : Hid (Rw 1 encB w4 (.slice Aq m cq) p) := (hqw3.out).below hb
  clear hBw3 hyw3 hqw3
  obtain ⟨Ab, cb, rfl⟩ := hr0.form
  obtain ⟨nb, hn5⟩ : ∃ k, k = bs.length := ⟨_, rfl⟩
  rw [← hn5] at hr0 ⊢
  have hnb : Hid (nb = bs.length) := hn5
  have hbw4 : Hid (Rw 1 encB w4 (.slice Ab nb cb) bs) := hr0
  clear hr0 hb hn5
  refine sl_run rfl (.tuple #[.slice Ab nb cb, .int .i64 (er : Int)]) w4 (by kernel_rfl) ?_
  simp only [Act.put, fl1, fl2, fl3]
  refine sl_run rfl (.slice Ab nb cb) w4 (by kernel_rfl) ?_
  simp only [Act.put, fl1, fl2, fl3]
  refine sl_run rfl (.int .i64 (er : Int)) w4 (by kernel_rfl) ?_
  simp only [Act.put, fl1, fl2, fl3]
  refine sl_run rfl (.slice Ab nb cb) w4 (by kernel_rfl) ?_
  simp only [Act.put, fl1, fl2, fl3]
  refine sl_run rfl (.int .i64 (er : Int)) w4 (by kernel_rfl) ?_
  simp only [Act.put, fl1, fl2, fl3]
  refine wpList_nil ?_
  go_upto_region 6 with fail
  refine wp_region_lit ?_
  refine sl_run rfl (.int .i64 n) w4 (by kernel_rfl) ?_
  simp only [Act.put, fl1, fl2, fl3]
  refine sl_run rfl (.slice A m c) w4 (by kernel_rfl) ?_
  simp only [Act.put, fl1, fl2, fl3]
  refine sg_call (by kernel_rfl) 11 #[.int .i64 n, .slice A m c] (by kernel_rfl) (R := fun v w' => ∃ u, v = .tuple #[u, .int .i64 (er : Int)] ∧ Rw 1 encB w' u bs ∧ Below w4.heap.size w4 w') ?hlc3 ?_
  case hlc3 =>
    have h8 := rRecord_calls n hn p hpH.out A m c hm'.out (by omega) w4 hyw4.out
    rw [hrH.out] at h8
    exact h8.mono fun e w' h => by
      obtain ⟨v, h1, h2, h3⟩ := h
      exact ⟨_, h1, v, rfl, h2, h3⟩
  rintro _ w5 ⟨r9, rfl, hr0, hb⟩
  simp only [Act.put, fl1, fl2, fl3]
  have hBw5 : Hid (Below w.heap.size w w5) := (hBw4.out).trans ((hb).mono (hBw4.out).size)
  have hyw5 : Hid (Rw 1 encB w5 (.slice A m c) p) := (hyw4.out).below hb
  have hqw5 : Hid (Rw 1 encB w5 (.slice Aq m cq) p) := (hqw4.out).below hb
  have hbw5 : Hid (Rw 1 encB w5 (.slice Ab nb cb) bs) := (hbw4.out).below hb
  clear hBw4 hyw4 hqw4 hbw4
  obtain ⟨Ar, cr, rfl⟩ := hr0.form
  obtain ⟨nr, hn5⟩ : ∃ k, k = bs.length := ⟨_, rfl⟩
  rw [← hn5] at hr0 ⊢
  have hnr : Hid (nr = bs.length) := hn5
  have hrw5 : Hid (Rw 1 encB w5 (.slice Ar nr cr) bs) := hr0
  clear hr0 hb hn5
  refine sl_run rfl (.tuple #[.slice Ar nr cr, .int .i64 (er : Int)]) w5 (by kernel_rfl) ?_
  simp only [Act.put, fl1, fl2, fl3]
  refine sl_run rfl (.slice Ar nr cr) w5 (by kernel_rfl) ?_
  simp only [Act.put, fl1, fl2, fl3]
  refine sl_run rfl (.int .i64 (er : Int)) w5 (by kernel_rfl) ?_
  simp only [Act.put, fl1, fl2, fl3]
  refine sl_run rfl (.slice Ar nr cr) w5 (by kernel_rfl) ?_
  simp only [Act.put, fl1, fl2, fl3]
  refine sl_run rfl (.int .i64 (er : Int)) w5 (by kernel_rfl) ?_
  simp only [Act.put, fl1, fl2, fl3]
  refine wpList_nil ?_
  go_upto_region 7 with fail
  refine wp_region_lit ?_
  refine sl_run rfl (.int .i64 (er : Int)) w5 (by kernel_rfl) ?_
  simp only [Act.put, fl1, fl2, fl3]
  refine sl_run rfl (.int .i64 (er : Int)) w5 (by kernel_rfl) ?_
  simp only [Act.put, fl1, fl2, fl3]
  refine sl_run rfl (.bool true) w5 (exec_eqI _ _ _ rfl (er : Int) (er : Int) (by kernel_rfl) (by kernel_rfl) true (by simp)) ?_
  simp only [Act.put, fl1, fl2, fl3]
  refine sl_run rfl (.bool true) w5 (by kernel_rfl) ?_
  simp only [Act.put, fl1, fl2, fl3]
  refine sg_run (by kernel_rfl) (.slice Ab nb cb) w5 (by kernel_rfl) ?_
  simp only [Act.put, fl1, fl2, fl3]
  refine sg_run (by kernel_rfl) (.string (strB bs)) w5 (exec_convB _ rfl (.slice Ab nb cb) bs (by kernel_rfl) hbw5.out) ?_
  simp only [Act.put, fl1, fl2, fl3]
  refine sg_run (by kernel_rfl) (.slice Ar nr cr) w5 (by kernel_rfl) ?_
  simp only [Act.put, fl1, fl2, fl3]
  refine sg_run (by kernel_rfl) (.string (strB bs)) w5 (exec_convB _ rfl (.slice Ar nr cr) bs (by kernel_rfl) hrw5.out) ?_
  simp only [Act.put, fl1, fl2, fl3]
  refine sg_run (by kernel_rfl) (.bool true) w5 (exec_eqlS _ _ rfl (strB bs) (by kernel_rfl) (by kernel_rfl) w5) ?_
  simp only [Act.put, fl1, fl2, fl3]
  refine sl_run rfl (.bool true) w5 (by kernel_rfl) ?_
  simp only [Act.put, fl1, fl2, fl3]
  refine sl_run rfl (.bool true) w5 (by kernel_rfl) ?_
  simp only [Act.put, fl1, fl2, fl3]
  refine wpList_nil ?_
  have hF := hBw5
  clear hBw5 hyw5 hqw5 hbw5 hrw5 hm' hpH hrH hy0 hnb hnr
  go_wp2_with fail
  go_ret
  exact ⟨rfl, hF.out⟩
end Go.Proofs.Ytdkaaieenbmihaa
namespace Go.Proofs.Ytdkaaieenbmihaa
open Go.RowKit
open Sha (vals Bytes Lies bytesC sumB)
open Go.Proofs.Ytdkaaieenbmihaa.Pure (nameB)
set_option maxRecDepth 100000 in
set_option maxHeartbeats 4000000 in
theorem WalScans_calls (p : List Nat) (hp : ∀ x ∈ p, x < 256) (A : Option Addr) (m c : Nat) (hm : m = p.length) (w : World) (hy : Rw 1 encB w (.slice A m c) p) :
    Calls Try.prog 4 #[.slice A m c] w fun e w' => e = .returned (.bool true) ∧ Below w.heap.size w w' := by
  have hBw : Hid (Below w.heap.size w w) := Below.refl _ _
  have hyw : Hid (Rw 1 encB w (.slice A m c) p) := hy
  have hy0 := hyw
  have hm' : Hid (m = p.length) := hm
  have hpH : Hid (∀ x ∈ p, x < 256) := hp
  obtain ⟨f, ps, en, hr⟩ : ∃ x y z, scan0 p = (x, y, z) := ⟨_, _, _, rfl⟩
  have hfit := scan0_fit p hp
  rw [hr] at hfit
  have hfitH : Hid (ps.length * 17 ≤ en ∧ en ≤ p.length ∧ Byt ps ∧ f ≤ 1099511627776) := hfit
  have hrH : Hid (scan0 p = (f, ps, en)) := hr
  clear hy hm hp hr hfit
  go_enter Try.func4, Try.ntmps4
  go_upto_region 1 with fail
  refine wp_region_lit ?_
  refine sg_call (by kernel_rfl) 9 #[] (by kernel_rfl) (R := fun v w' => v = .bool true ∧ Below w.heap.size w w') ?hlc1 ?_
  case hlc1 =>
    have h8 := fixed_calls w
    exact h8.mono fun e w' h => ⟨_, h.1, rfl, h.2⟩
  rintro _ w1 ⟨rfl, hb⟩
  simp only [Act.put, fl1, fl2, fl3]
  have hBw1 : Hid (Below w.heap.size w w1) := (hBw.out).trans ((hb).mono (hBw.out).size)
  have hyw1 : Hid (Rw 1 encB w1 (.slice A m c) p) := (hyw.out).below hb
  clear hBw hyw
  clear hb
  refine sl_run rfl (.bool false) w1 (by kernel_rfl) ?_
  simp only [Act.put, fl1, fl2, fl3]
  refine wpList_nil ?_
  by_cases h9 : (5000 : Int) < (m : Int)
  case pos =>
    have hF := hBw1
    clear hBw1 hyw1 hm' hpH hrH hy0 hfitH
    go_wp2_with fail
    go_ret
    exact ⟨rfl, hF.out⟩
  case neg =>
  go_upto_region 3 with fail
  refine wp_region_lit ?_
  refine sl_run rfl (.slice A m c) w1 (by kernel_rfl) ?_
  simp only [Act.put, fl1, fl2, fl3]
  refine sl_run rfl (.int .i64 (m : Int)) w1 (by kernel_rfl) ?_
  simp only [Act.put, fl1, fl2, fl3]
  refine sl_run rfl (.bool false) w1 (exec_gtr _ _ _ rfl (m : Int) 5000 (by kernel_rfl) (by kernel_rfl) false (decide_eq_false h9)) ?_
  simp only [Act.put, fl1, fl2, fl3]
  refine wpList_nil ?_
  go_upto_region 5 with fail
  refine wp_region_lit ?_
  refine sl_run rfl (.slice (some ⟨w1.heap.size, 0, none⟩) 0 0) (w1.alloc (.cells #[] 5)) (by kernel_rfl) ?_
  simp only [Act.put, fl1, fl2, fl3]
  generalize hX : w1.alloc (.cells #[] 5) = w2
  have hb : Below w1.heap.size w1 w2 := by rw [← hX]; exact (Below.refl _ _).alloc (Nat.le_refl _) _
  obtain ⟨E0, hE⟩ : ∃ E, E = w1.heap.size := ⟨_, rfl⟩
  have ho9 : w2.ownsRow w.heap.size 5 1 (.slice (some ⟨E0, 0, none⟩) 0 0) ([] : List Nat).length (vals ([] : List Nat)) := by
    rw [← hX, hE]; exact own_mono (World.ownsRow_made _ _ 0 (Nat.le_refl _) (by decide) rfl) hBw1.out.size
  rw [← hE]
  clear hX hE
  have hBw2 : Hid (Below w.heap.size w w2) := (hBw1.out).trans ((hb).mono (hBw1.out).size)
  have hyw2 : Hid (Rw 1 encB w2 (.slice A m c) p) := (hyw1.out).below hb
  clear hBw1 hyw1
  have hOw2 : Hid (w2.ownsRow w.heap.size 5 1 (.slice (some ⟨E0, 0, none⟩) 0 0) ([] : List Nat).length (vals ([] : List Nat))) := ho9
  clear ho9 hb
  refine sl_run rfl (.slice A m c) w2 (by kernel_rfl) ?_
  simp only [Act.put, fl1, fl2, fl3]
  refine Sha.append22 rfl _ _ rfl (w.heap.size) (.slice (some ⟨E0, 0, none⟩) 0 0) (([] : List Nat)) (p) (by kernel_rfl) hOw2.out (.slice A m c) (by kernel_rfl) (rw_bytes.1 (hyw2.out)) (by have := hm'.out; simp; omega) hBw2.out.size ?_
  intro v3 w3 hO9 hg9 _
  simp only [Act.put, fl1, fl2, fl3]
  have hBw3 : Hid (Below w.heap.size w w3) := hBw2.out.grown hg9 hBw2.out.size (fun q hq => (hOw2.out.lt q hq).1)
  have hOw3 : Hid (w3.ownsRow (w.heap.size) 5 1 v3 ((([] : List Nat)) ++ (p)).length (vals ((([] : List Nat)) ++ (p)))) := hO9
  clear hO9 hg9 hBw2 hyw2 hOw2
  have hyw3 : Hid (Rw 1 encB w3 (.slice A m c) p) := hy0.out.below hBw3.out
  obtain ⟨Aq, cq, hq⟩ : ∃ A c, v3 = .slice A m c := own_formq hOw3.out (by have := hm'.out; simp; omega)
  subst hq
  have hqw3 : Hid (Rw 1 encB w3 (.slice Aq m cq) p) := by have h8 := own_rw hOw3.out; rwa [List.nil_append] at h8
  clear hOw3
  refine sg_call (by kernel_rfl) 12 #[.slice Aq m cq] (by kernel_rfl) (R := fun v w' => ∃ u, v = .tuple #[.int .i64 (f : Int), u, .int .i64 (en : Int)] ∧ PLo w' w3.heap.size u ps ∧ Below w3.heap.size w3 w') ?hlc2 ?_
  case hlc2 =>
    have h8 := Scan_calls p hpH.out Aq m cq hm'.out (by omega) w3 hqw3.out
    rw [hrH.out] at h8
    exact h8.mono fun e w' h => by
      obtain ⟨v, h1, h2, h3⟩ := h
      exact ⟨_, h1, v, rfl, h2, h3⟩
  rintro _ w4 ⟨r9, rfl, hr0, hb⟩
  simp only [Act.put, fl1, fl2, fl3]
  have hr1 := hr0.mono hBw3.out.size
  have hBw4 : Hid (Below w.heap.size w w4) := (hBw3.out).trans ((hb).mono (hBw3.out).size)
  have hyw4 : Hid (Rw 1 encB w4 (.slice A m c) p) := (hyw3.out).below hb
  have hqw4 : Hid (Rw 1 encB w4 (.slice Aq m cq) p) := (hqw3.out).below hb
  clear hBw3 hyw3 hqw3
  obtain ⟨Ab, cb, rfl⟩ := hr1.form
  obtain ⟨nb, hn5⟩ : ∃ k, k = (ps).length := ⟨_, rfl⟩
  rw [← hn5] at hr1 ⊢
  have hnb : Hid (nb = (ps).length) := hn5
  have hbw4 : Hid (PLo w4 w.heap.size (.slice Ab nb cb) (ps)) := hr1
  clear hr0 hr1 hb hn5
  refine sl_run rfl (.tuple #[.int .i64 (f : Int), .slice Ab nb cb, .int .i64 (en : Int)]) w4 (by kernel_rfl) ?_
  simp only [Act.put, fl1, fl2, fl3]
  refine sl_run rfl (.int .i64 (f : Int)) w4 (by kernel_rfl) ?_
  simp only [Act.put, fl1, fl2, fl3]
  refine sl_run rfl (.slice Ab nb cb) w4 (by kernel_rfl) ?_
  simp only [Act.put, fl1, fl2, fl3]
  refine sl_run rfl (.int .i64 (en : Int)) w4 (by kernel_rfl) ?_
  simp only [Act.put, fl1, fl2, fl3]
  refine sl_run rfl (.int .i64 (f : Int)) w4 (by kernel_rfl) ?_
  simp only [Act.put, fl1, fl2, fl3]
  refine sl_run rfl (.slice Ab nb cb) w4 (by kernel_rfl) ?_
  simp only [Act.put, fl1, fl2, fl3]
  refine sl_run rfl (.int .i64 (en : Int)) w4 (by kernel_rfl) ?_
  simp only [Act.put, fl1, fl2, fl3]
  refine wpList_nil ?_
  go_upto_region 6 with fail
  refine wp_region_lit ?_
  refine sl_run rfl (.slice A m c) w4 (by kernel_rfl) ?_
  simp only [Act.put, fl1, fl2, fl3]
  refine sg_call (by kernel_rfl) 13 #[.slice A m c] (by kernel_rfl) (R := fun v w' => ∃ u, v = .tuple #[.int .i64 (f : Int), u, .int .i64 (en : Int)] ∧ PLo w' w4.heap.size u ps ∧ Below w4.heap.size w4 w') ?hlc3 ?_
  case hlc3 =>
    have h8 := rScan_calls p hpH.out A m c hm'.out (by omega) w4 hyw4.out
    rw [hrH.out] at h8
    exact h8.mono fun e w' h => by
      obtain ⟨v, h1, h2, h3⟩ := h
      exact ⟨_, h1, v, rfl, h2, h3⟩
  rintro _ w5 ⟨r9, rfl, hr0, hb⟩
  simp only [Act.put, fl1, fl2, fl3]
  have hr1 := hr0.mono hBw4.out.size
  have hBw5 : Hid (Below w.heap.size w w5) := (hBw4.out).trans ((hb).mono (hBw4.out).size)
  have hyw5 : Hid (Rw 1 encB w5 (.slice A m c) p) := (hyw4.out).below hb
  have hqw5 : Hid (Rw 1 encB w5 (.slice Aq m cq) p) := (hqw4.out).below hb
  have hbw5 : Hid (PLo w5 w.heap.size (.slice Ab nb cb) (ps)) := (hbw4.out).below hb
  clear hBw4 hyw4 hqw4 hbw4
  obtain ⟨Ar, cr, rfl⟩ := hr1.form
  obtain ⟨nr, hn5⟩ : ∃ k, k = (ps).length := ⟨_, rfl⟩
  rw [← hn5] at hr1 ⊢
  have hnr : Hid (nr = (ps).length) := hn5
  have hrw5 : Hid (PLo w5 w.heap.size (.slice Ar nr cr) (ps)) := hr1
  clear hr0 hr1 hb hn5
  refine sl_run rfl (.tuple #[.int .i64 (f : Int), .slice Ar nr cr, .int .i64 (en : Int)]) w5 (by kernel_rfl) ?_
  simp only [Act.put, fl1, fl2, fl3]
  refine sl_run rfl (.int .i64 (f : Int)) w5 (by kernel_rfl) ?_
  simp only [Act.put, fl1, fl2, fl3]
  refine sl_run rfl (.slice Ar nr cr) w5 (by kernel_rfl) ?_
  simp only [Act.put, fl1, fl2, fl3]
  refine sl_run rfl (.int .i64 (en : Int)) w5 (by kernel_rfl) ?_
  simp only [Act.put, fl1, fl2, fl3]
  refine sl_run rfl (.int .i64 (f : Int)) w5 (by kernel_rfl) ?_
  simp only [Act.put, fl1, fl2, fl3]
  refine sl_run rfl (.slice Ar nr cr) w5 (by kernel_rfl) ?_
  simp only [Act.put, fl1, fl2, fl3]
  refine sl_run rfl (.int .i64 (en : Int)) w5 (by kernel_rfl) ?_
  simp only [Act.put, fl1, fl2, fl3]
  refine wpList_nil ?_
  go_upto_region 7 with fail
  refine wp_region_lit ?_
  refine sl_run rfl (.int .i64 (f : Int)) w5 (by kernel_rfl) ?_
  simp only [Act.put, fl1, fl2, fl3]
  refine sl_run rfl (.int .i64 (f : Int)) w5 (by kernel_rfl) ?_
  simp only [Act.put, fl1, fl2, fl3]
  refine sl_run rfl (.bool true) w5 (exec_eqI _ _ _ rfl (f : Int) (f : Int) (by kernel_rfl) (by kernel_rfl) true (by simp)) ?_
  simp only [Act.put, fl1, fl2, fl3]
  refine sl_run rfl (.bool true) w5 (by kernel_rfl) ?_
  simp only [Act.put, fl1, fl2, fl3]
  refine sg_run (by kernel_rfl) (.int .i64 (en : Int)) w5 (by kernel_rfl) ?_
  simp only [Act.put, fl1, fl2, fl3]
  refine sg_run (by kernel_rfl) (.int .i64 (en : Int)) w5 (by kernel_rfl) ?_
  simp only [Act.put, fl1, fl2, fl3]
  refine sg_run (by kernel_rfl) (.bool true) w5 (exec_eqI _ _ _ rfl (en : Int) (en : Int) (by kernel_rfl) (by kernel_rfl) true (by simp)) ?_
  simp only [Act.put, fl1, fl2, fl3]
  refine sl_run rfl (.bool true) w5 (by kernel_rfl) ?_
  simp only [Act.put, fl1, fl2, fl3]
  refine sl_run rfl (.bool true) w5 (by kernel_rfl) ?_
  simp only [Act.put, fl1, fl2, fl3]
  refine sg_run (by kernel_rfl) (.slice Ab nb cb) w5 (by kernel_rfl) ?_
  simp only [Act.put, fl1, fl2, fl3]
  refine sg_run (by kernel_rfl) (.slice Ar nr cr) w5 (by kernel_rfl) ?_
  simp only [Act.put, fl1, fl2, fl3]
  refine sg_call (by kernel_rfl) 14 #[.slice Ab nb cb, .slice Ar nr cr] (by kernel_rfl) (R := fun v w' => v = .bool true ∧ Below w5.heap.size w5 w') ?hlc4 ?_
  case hlc4 =>
    have h8 := Same_calls ps ps hfitH.out.2.2.1 hfitH.out.2.2.1 (.slice Ab nb cb) (.slice Ar nr cr) (by have := hfitH.out; have := hm'.out; omega) (by have := hfitH.out; have := hm'.out; omega) w5 hbw5.out.read hrw5.out.read
    rw [decide_eq_true rfl] at h8
    exact h8.mono fun e w' h => ⟨_, h.1, rfl, h.2⟩
  rintro _ w6 ⟨rfl, hb⟩
  simp only [Act.put, fl1, fl2, fl3]
  have hBw6 : Hid (Below w.heap.size w w6) := (hBw5.out).trans ((hb).mono (hBw5.out).size)
  have hyw6 : Hid (Rw 1 encB w6 (.slice A m c) p) := (hyw5.out).below hb
  have hqw6 : Hid (Rw 1 encB w6 (.slice Aq m cq) p) := (hqw5.out).below hb
  have hbw6 : Hid (PLo w6 w.heap.size (.slice Ab nb cb) (ps)) := (hbw5.out).below hb
  have hrw6 : Hid (PLo w6 w.heap.size (.slice Ar nr cr) (ps)) := (hrw5.out).below hb
  clear hBw5 hyw5 hqw5 hbw5 hrw5
  clear hb
  refine sl_run rfl (.bool true) w6 (by kernel_rfl) ?_
  simp only [Act.put, fl1, fl2, fl3]
  refine sl_run rfl (.bool true) w6 (by kernel_rfl) ?_
  simp only [Act.put, fl1, fl2, fl3]
  refine wpList_nil ?_
  have hF := hBw6
  clear hBw6 hyw6 hqw6 hbw6 hrw6 hm' hpH hrH hy0 hnb hnr hfitH
  go_wp2_with fail
  go_ret
  exact ⟨rfl, hF.out⟩
end Go.Proofs.Ytdkaaieenbmihaa
namespace Go.Proofs.Ytdkaaieenbmihaa.walScans
open Go.ChangeShapes Go.WideShapes Go.ChangeAt Go.RowKit

theorem own : ownKnob Try.prog.godebug = none := by kernel_rfl
theorem laidOut : laidOutB Try.prog = true := by kernel_rfl
set_option maxRecDepth 100000 in
theorem lifted (os : Os) (started : os.Started) (H : Type) (enc : TypeId × Value → H) :
    ReturnsInHanded {} Try.checked os 4 .any (Rows.walScansSpec.pre6 enc Try.prog Try.f4 Rows.walScansRow.domain false) (Rows.walScansSpec.post enc Try.prog Try.f4 false true false false) := by
  refine returnsInHanded_of_change (C := Try.checked) own started (by kernel_rfl) Try.func4
    (ChangeSpec.witness6 (enc := enc) (C := Try.checked) false ⟨#[], #[.slice none 0 0], []⟩ 8 (by kernel_rfl) (by kernel_rfl) (by kernel_rfl) (by kernel_rfl)) ?_
  intro W base args ds gs before hval0 hW hcnd _
  have hval : ∀ (j : Nat) t v, Try.f4.params[j]? = some t → args[j]? = some v → Value.okWide Try.prog W .any base t v := hval0
  have hW' := hW
  obtain ⟨p, q, hA0, hV, rfl, hfz, hnd⟩ := hW
  have hA : DataW.TrodAll enc Try.prog W 0 (fun _ => true) true Try.f4.params.toList args.toList ds p := hA0
  rw [Try.params4] at hA hval
  obtain ⟨v0, vs0, d0, ds0, p0, q0, hargs, rfl, rfl, h0, r0⟩ := trodAll_cons hA
  obtain ⟨rfl, rfl, rfl⟩ := trodAll_nil r0
  obtain rfl : args = #[v0] := by cases args; simp_all
  obtain ⟨rfl, rfl⟩ := trodVars_none hV
  have k0 := h0
  have lt0 : ∀ x ∈ p0, x.block < W.heap.size := by obtain ⟨m, hm⟩ := k0; exact DataW.trod_lt m _ _ _ hm
  obtain ⟨a0, n0, c0, l0, rfl, e0, y0, g0, z0⟩ := arg_bytes (hval 0 22 v0 rfl rfl) h0
  clear hA0 hval0
  refine (WalScans_calls l0 g0 a0 n0 c0 e0 W y0).mono fun e W' ⟨he, bel⟩ => ?_
  subst he
  exact ⟨_, rfl, _, _, _, [], _, [], hW', trodAll_mk1 (shut_bool Try.underlying4 _), (trodAll_cons_mk (Below.trod laidOut (by kernel_rfl) (of_decide_eq_true (by kernel_rfl)) k0 bel lt0) trodAll_mk0), rfl, bel.frame _, fun h => by cases h⟩
theorem over : Rows.walScansRow.holds Try.pinned (OpenSpec.ofChange Rows.walScansSpec) :=
  OpenClaim.holds_of_wide 4 Try.f4 rfl rfl rfl rfl rfl rfl rfl ⟨rfl, rfl, rfl, rfl, rfl⟩ rfl rfl rfl rfl rfl (by kernel_rfl) Try.func4 (by kernel_rfl)
    (of_decide_eq_true (by kernel_rfl)) (by unfold Func.isWrapper; first | (rw [if_pos (by decide +kernel)]; kernel_rfl) | (rw [if_neg (by decide +kernel)]; exact ⟨rfl, rfl⟩))
    (fun os started H enc _ => lifted os started H enc)
end Go.Proofs.Ytdkaaieenbmihaa.walScans
namespace Go.Proofs.Ytdkaaieenbmihaa
/-- The statement. -/
theorem walScans_holds : Rows.WalScansSaid := walScans.over
#print axioms walScans_holds
end Go.Proofs.Ytdkaaieenbmihaa
