/-
  The law WalChecks holds: for every input it answers true, and what came in reads as it did. No condition.
-/
import Derived.Test.YtdkaaieenbmihaaMgH
import Derived.Test.YtdkaaieenbmihaaMgI
import Derived.Test.YtdkaaieenbmihaaRows
import Derived.WalkKit
import Derived.ProofKit
import Derived.OpenShut
import Derived.ShutString
import Derived.ChangeOld
import Derived.Below
set_option linter.unusedVariables false
set_option linter.unusedSimpArgs false
namespace Go.Proofs.Ytdkaaieenbmihaa
open Go.RowKit
open Sha (vals Bytes Lies bytesC sumB)
open Go.Proofs.Ytdkaaieenbmihaa.Pure (nameB)
theorem own_rw {w : World} {base : Nat} {v : Value} {l : List Nat} (h : w.ownsRow base 5 1 v l.length (vals l)) : Rw 1 encB w v l := rw_bytes.2 (own_bytes h)
set_option maxRecDepth 100000 in
set_option maxHeartbeats 4000000 in
theorem WalRecords_calls (n : Int) (hn : n ≤ 9223372036854775807) (p : List Nat) (hp : ∀ x ∈ p, x < 256) (A : Option Addr) (m c : Nat) (hm : m = p.length) (w : World) (hy : Rw 1 encB w (.slice A m c) p) :
    Calls Try.prog 3 #[.int .i64 n, .slice A m c] w fun e w' => e = .returned (.bool true) ∧ Below w.heap.size w w' := by
  have hBw : Hid (Below w.heap.size w w) := Below.refl _ _
  have hyw : Hid (Rw 1 encB w (.slice A m c) p) := hy
  have hm' : Hid (m = p.length) := hm
  have hpH : Hid (∀ x ∈ p, x < 256) := hp
  obtain ⟨bs, er, hr⟩ : ∃ x y, recS n p = (x, y) := ⟨_, _, rfl⟩
  have hrH : Hid (recS n p = (bs, er)) := hr
  have hy0 := hyw
  clear hy hm hp hr
  go_enter Try.func3, Try.ntmps3
  go_upto_region 1 with fail
  refine wp_region_lit ?_
  refine sg_call (by kernel_rfl) 9 #[] (by kernel_rfl) (R := fun v w' => v = .bool true ∧ Below w.heap.size w w') ?hlc1 ?_
  case hlc1 =>
    have h8 := fixed_calls w
    exact h8.mono fun e w' h => ⟨_, h.1, rfl, h.2⟩
  rintro _ w1 ⟨rfl, hb⟩
  simp only [Act.put, fl1, fl2, fl3]
  have hBw1 : Hid (Below w.heap.size w w1) := (hBw.out).trans ((hb).mono (hBw.out).size)
  have hyw1 : Hid (Rw 1 encB w1 (.slice A m c) p) := (hyw.out).below hb
  clear hBw hyw
  clear hb
  refine sl_run rfl (.bool false) w1 (by kernel_rfl) ?_
  simp only [Act.put, fl1, fl2, fl3]
  refine wpList_nil ?_
  by_cases h9 : (9000 : Int) < (m : Int)
  case pos =>
    have hF := hBw1
    clear hBw1 hyw1 hm' hpH hrH
    go_wp2_with fail
    go_ret
    exact ⟨rfl, hF.out⟩
  case neg =>
  go_upto_region 3 with fail
  refine wp_region_lit ?_
  refine sl_run rfl (.slice A m c) w1 (by kernel_rfl) ?_
  simp only [Act.put, fl1, fl2, fl3]
  refine sl_run rfl (.int .i64 (m : Int)) w1 (by kernel_rfl) ?_
  simp only [Act.put, fl1, fl2, fl3]
  refine sl_run rfl (.bool false) w1 (exec_gtr _ _ _ rfl (m : Int) 9000 (by kernel_rfl) (by kernel_rfl) false (decide_eq_false h9)) ?_
  simp only [Act.put, fl1, fl2, fl3]
  refine wpList_nil ?_
  go_upto_region 5 with fail
  refine wp_region_lit ?_
  refine sl_run rfl (.int .i64 n) w1 (by kernel_rfl) ?_
  simp only [Act.put, fl1, fl2, fl3]
  refine sl_run rfl (.slice (some ⟨w1.heap.size, 0, none⟩) 0 0) (w1.alloc (.cells #[] 5)) (by kernel_rfl) ?_
  simp only [Act.put, fl1, fl2, fl3]
  generalize hX : w1.alloc (.cells #[] 5) = w2
  have hb : Below w1.heap.size w1 w2 := by rw [← hX]; exact (Below.refl _ _).alloc (Nat.le_refl _) _
  obtain ⟨E0, hE⟩ : ∃ E, E = w1.heap.size := ⟨_, rfl⟩
  have ho9 : w2.ownsRow w.heap.size 5 1 (.slice (some ⟨E0, 0, none⟩) 0 0) ([] : List Nat).length (vals ([] : List Nat)) := by
    rw [← hX, hE]; exact own_mono (World.ownsRow_made _ _ 0 (Nat.le_refl _) (by decide) rfl) hBw1.out.size
  rw [← hE]
  clear hX hE
  have hBw2 : Hid (Below w.heap.size w w2) := (hBw1.out).trans ((hb).mono (hBw1.out).size)
  have hyw2 : Hid (Rw 1 encB w2 (.slice A m c) p) := (hyw1.out).below hb
  clear hBw1 hyw1
  have hOw2 : Hid (w2.ownsRow w.heap.size 5 1 (.slice (some ⟨E0, 0, none⟩) 0 0) ([] : List Nat).length (vals ([] : List Nat))) := ho9
  clear ho9 hb
  refine sl_run rfl (.slice A m c) w2 (by kernel_rfl) ?_
  simp only [Act.put, fl1, fl2, fl3]
  refine Sha.append22 rfl _ _ rfl (w.heap.size) (.slice (some ⟨E0, 0, none⟩) 0 0) (([] : List Nat)) (p) (by kernel_rfl) hOw2.out (.slice A m c) (by kernel_rfl) (rw_bytes.1 (hyw2.out)) (by have := hm'.out; simp; omega) hBw2.out.size ?_
  intro v3 w3 hO9 hg9 _
  simp only [Act.put, fl1, fl2, fl3]
  have hBw3 : Hid (Below w.heap.size w w3) := hBw2.out.grown hg9 hBw2.out.size (fun q hq => (hOw2.out.lt q hq).1)
  have hOw3 : Hid (w3.ownsRow (w.heap.size) 5 1 v3 ((([] : List Nat)) ++ (p)).length (vals ((([] : List Nat)) ++ (p)))) := hO9
  clear hO9 hg9 hBw2 hyw2 hOw2
  have hyw3 : Hid (Rw 1 encB w3 (.slice A m c) p) := hy0.out.below hBw3.out
  obtain ⟨Aq, cq, hq⟩ : ∃ A c, v3 = .slice A m c := own_formq hOw3.out (by have := hm'.out; simp; omega)
  subst hq
  have hqw3 : Hid (Rw 1 encB w3 (.slice Aq m cq) p) := by have h8 := own_rw hOw3.out; rwa [List.nil_append] at h8
  clear hOw3
  refine sg_call (by kernel_rfl) 10 #[.int .i64 n, .slice Aq m cq] (by kernel_rfl) (R := fun v w' => ∃ u, v = .tuple #[u, .int .i64 (er : Int)] ∧ Rw 1 encB w' u bs ∧ Below w3.heap.size w3 w') ?hlc2 ?_
  case hlc2 =>
    have h8 := Record_calls n hn p hpH.out Aq m cq hm'.out (by omega) w3 hqw3.out
    rw [hrH.out] at h8
    exact h8.mono fun e w' h => by
      obtain ⟨v, h1, h2, h3⟩ := h
      exact ⟨_, h1, v, rfl, h2, h3⟩
  rintro _ w4 ⟨r9, rfl, hr0, hb⟩
  simp only [Act.put, fl1, fl2, fl3]
  have hBw4 : Hid (Below w.heap.size w w4) := (hBw3.out).trans ((hb).mono (hBw3.out).size)
  have hyw4 : Hid (Rw 1 encB w4 (.slice A m c) p) := (hyw3.out).below hb
  have hqw4 : Hid (Rw 1 encB w4 (.slice Aq m cq) p) := (hqw3.out).below hb
  clear hBw3 hyw3 hqw3
  obtain ⟨Ab, cb, rfl⟩ := hr0.form
  obtain ⟨nb, hn5⟩ : ∃ k, k = bs.length := ⟨_, rfl⟩
  rw [← hn5] at hr0 ⊢
  have hnb : Hid (nb = bs.length) := hn5
  have hbw4 : Hid (Rw 1 encB w4 (.slice Ab nb cb) bs) := hr0
  clear hr0 hb hn5
  refine sl_run rfl (.tuple #[.slice Ab nb cb, .int .i64 (er : Int)]) w4 (by kernel_rfl) ?_
  simp only [Act.put, fl1, fl2, fl3]
  refine sl_run rfl (.slice Ab nb cb) w4 (by kernel_rfl) ?_
  simp only [Act.put, fl1, fl2, fl3]
  refine sl_run rfl (.int .i64 (er : Int)) w4 (by kernel_rfl) ?_
  simp only [Act.put, fl1, fl2, fl3]
  refine sl_run rfl (.slice Ab nb cb) w4 (by kernel_rfl) ?_
  simp only [Act.put, fl1, fl2, fl3]
  refine sl_run rfl (.int .i64 (er : Int)) w4 (by kernel_rfl) ?_
  simp only [Act.put, fl1, fl2, fl3]
  refine wpList_nil ?_
  go_upto_region 6 with fail
  refine wp_region_lit ?_
  refine sl_run rfl (.int .i64 n) w4 (by kernel_rfl) ?_
  simp only [Act.put, fl1, fl2, fl3]
  refine sl_run rfl (.slice A m c) w4 (by kernel_rfl) ?_
  simp only [Act.put, fl1, fl2, fl3]
  refine sg_call (by kernel_rfl) 11 #[.int .i64 n, .slice A m c] (by kernel_rfl) (R := fun v w' => ∃ u, v = .tuple #[u, .int .i64 (er : Int)] ∧ Rw 1 encB w' u bs ∧ Below w4.heap.size w4 w') ?hlc3 ?_
  case hlc3 =>
    have h8 := rRecord_calls n hn p hpH.out A m c hm'.out (by omega) w4 hyw4.out
    rw [hrH.out] at h8
    exact h8.mono fun e w' h => by
      obtain ⟨v, h1, h2, h3⟩ := h
      exact ⟨_, h1, v, rfl, h2, h3⟩
  rintro _ w5 ⟨r9, rfl, hr0, hb⟩
  simp only [Act.put, fl1, fl2, fl3]
  have hBw5 : Hid (Below w.heap.size w w5) := (hBw4.out).trans ((hb).mono (hBw4.out).size)
  have hyw5 : Hid (Rw 1 encB w5 (.slice A m c) p) := (hyw4.out).below hb
  have hqw5 : Hid (Rw 1 encB w5 (.slice Aq m cq) p) := (hqw4.out).below hb
  have hbw5 : Hid (Rw 1 encB w5 (.slice Ab nb cb) bs) := (hbw4.out).below hb
  clear hBw4 hyw4 hqw4 hbw4
  obtain ⟨Ar, cr, rfl⟩ := hr0.form
  obtain ⟨nr, hn5⟩ : ∃ k, k = bs.length := ⟨_, rfl⟩
  rw [← hn5] at hr0 ⊢
  have hnr : Hid (nr = bs.length) := hn5
  have hrw5 : Hid (Rw 1 encB w5 (.slice Ar nr cr) bs) := hr0
  clear hr0 hb hn5
  refine sl_run rfl (.tuple #[.slice Ar nr cr, .int .i64 (er : Int)]) w5 (by kernel_rfl) ?_
  simp only [Act.put, fl1, fl2, fl3]
  refine sl_run rfl (.slice Ar nr cr) w5 (by kernel_rfl) ?_
  simp only [Act.put, fl1, fl2, fl3]
  refine sl_run rfl (.int .i64 (er : Int)) w5 (by kernel_rfl) ?_
  simp only [Act.put, fl1, fl2, fl3]
  refine sl_run rfl (.slice Ar nr cr) w5 (by kernel_rfl) ?_
  simp only [Act.put, fl1, fl2, fl3]
  refine sl_run rfl (.int .i64 (er : Int)) w5 (by kernel_rfl) ?_
  simp only [Act.put, fl1, fl2, fl3]
  refine wpList_nil ?_
  go_upto_region 7 with fail
  refine wp_region_lit ?_
  refine sl_run rfl (.int .i64 (er : Int)) w5 (by kernel_rfl) ?_
  simp only [Act.put, fl1, fl2, fl3]
  refine sl_run rfl (.int .i64 (er : Int)) w5 (by kernel_rfl) ?_
  simp only [Act.put, fl1, fl2, fl3]
  refine sl_run rfl (.bool true) w5 (exec_eqI _ _ _ rfl (er : Int) (er : Int) (by kernel_rfl) (by kernel_rfl) true (by simp)) ?_
  simp only [Act.put, fl1, fl2, fl3]
  refine sl_run rfl (.bool true) w5 (by kernel_rfl) ?_
  simp only [Act.put, fl1, fl2, fl3]
  refine sg_run (by kernel_rfl) (.slice Ab nb cb) w5 (by kernel_rfl) ?_
  simp only [Act.put, fl1, fl2, fl3]
  refine sg_run (by kernel_rfl) (.string (strB bs)) w5 (exec_convB _ rfl (.slice Ab nb cb) bs (by kernel_rfl) hbw5.out) ?_
  simp only [Act.put, fl1, fl2, fl3]
  refine sg_run (by kernel_rfl) (.slice Ar nr cr) w5 (by kernel_rfl) ?_
  simp only [Act.put, fl1, fl2, fl3]
  refine sg_run (by kernel_rfl) (.string (strB bs)) w5 (exec_convB _ rfl (.slice Ar nr cr) bs (by kernel_rfl) hrw5.out) ?_
  simp only [Act.put, fl1, fl2, fl3]
  refine sg_run (by kernel_rfl) (.bool true) w5 (exec_eqlS _ _ rfl (strB bs) (by kernel_rfl) (by kernel_rfl) w5) ?_
  simp only [Act.put, fl1, fl2, fl3]
  refine sl_run rfl (.bool true) w5 (by kernel_rfl) ?_
  simp only [Act.put, fl1, fl2, fl3]
  refine sl_run rfl (.bool true) w5 (by kernel_rfl) ?_
  simp only [Act.put, fl1, fl2, fl3]
  refine wpList_nil ?_
  have hF := hBw5
  clear hBw5 hyw5 hqw5 hbw5 hrw5 hm' hpH hrH hy0 hnb hnr
  go_wp2_with fail
  go_ret
  exact ⟨rfl, hF.out⟩
end Go.Proofs.Ytdkaaieenbmihaa
namespace Go.Proofs.Ytdkaaieenbmihaa
open Go.RowKit
open Sha (vals Bytes Lies bytesC sumB)
open Go.Proofs.Ytdkaaieenbmihaa.Pure (nameB)
def recsB : Nat → List (List Nat) → List Nat
  | _, [] => []
  | i, p :: ps => recB i p ++ recsB (i + 1) ps
theorem recsB_snoc : ∀ (ps : List (List Nat)) (i : Nat) (p : List Nat), recsB i (ps ++ [p]) = recsB i ps ++ recB (i + ps.length) p := by
  intro ps
  induction ps with
  | nil => intro i p; simp [recsB]
  | cons a ps ih =>
    intro i p
    show recB i a ++ recsB (i + 1) (ps ++ [p]) = (recB i a ++ recsB (i + 1) ps) ++ recB (i + (ps.length + 1)) p
    rw [ih, List.append_assoc, show i + 1 + ps.length = i + (ps.length + 1) by omega]
theorem recsB_len : ∀ (ps : List (List Nat)) (i : Nat), (∀ p ∈ ps, p.length ≤ 200) → (recsB i ps).length ≤ 217 * ps.length := by
  intro ps
  induction ps with
  | nil => intro i _; simp [recsB]
  | cons a ps ih =>
    intro i h
    have h1 := ih (i + 1) fun p hp => h p (List.mem_cons_of_mem _ hp)
    have h2 := h a (List.mem_cons_self ..)
    show (recB i a ++ recsB (i + 1) ps).length ≤ 217 * (ps.length + 1)
    rw [List.length_append, recB_len]
    omega
theorem recsB_byt : ∀ (ps : List (List Nat)) (i : Nat), Byt ps → ∀ x ∈ recsB i ps, x < 256 := by
  intro ps
  induction ps with
  | nil => intro i _ x hx; cases hx
  | cons a ps ih =>
    intro i h x hx
    rcases List.mem_append.1 hx with hx | hx
    · exact recB_byt i a (h a (List.mem_cons_self ..)) x hx
    · exact ih (i + 1) (fun p hp => h p (List.mem_cons_of_mem _ hp)) x hx
theorem drop_past {l : List Nat} {e : Nat} {a b : List Nat} (h : l.drop e = a ++ b) : l.drop (e + a.length) = b := by
  rw [← List.drop_drop, h, List.drop_append_of_le_length (Nat.le_refl _), List.drop_of_length_le (Nat.le_refl _), List.nil_append]
/-- Records one behind the other are read as they were. -/
theorem scan_recs (l : List Nat) : ∀ (ps : List (List Nat)) (f : Nat) (qs : List (List Nat)) (e : Nat), (∀ p ∈ ps, p.length ≤ 8192) → 0 < f → f + qs.length + ps.length ≤ 1099511627776 → l.drop e = recsB (f + qs.length) ps →
    scanS l f qs e = (f, qs ++ ps, e + (recsB (f + qs.length) ps).length) := by
  intro ps
  induction ps with
  | nil =>
    intro f qs e _ _ _ h
    rw [scanS_none (by rw [h]; exact oneS_nil)]
    simp [recsB]
  | cons p ps ih =>
    intro f qs e hp hf hn h
    have h0 : oneS (l.drop e) = some (f + qs.length, p, p.length + 17) := by
      rw [h]
      exact oneS_rec' _ (by simp at hn; omega) p (hp p (List.mem_cons_self ..)) _
    have h1 := drop_past (b := recsB (f + qs.length + 1) ps) h
    rw [recB_len] at h1
    rw [scanS_some h0, if_neg (by omega), if_neg (by omega), ih f (qs ++ [p]) (e + (p.length + 17)) (fun q hq => hp q (List.mem_cons_of_mem _ hq)) hf (by simp at hn ⊢; omega) (by rw [h1]; congr 1; simp; omega)]
    simp only [recsB, List.length_append, recB_len, List.length_singleton]
    rw [List.append_assoc, show f + (qs.length + 1) = f + qs.length + 1 by omega]
    refine Prod.ext rfl (Prod.ext rfl ?_)
    show e + (p.length + 17) + _ = e + (p.length + 17 + _)
    omega
theorem scan0_recs (i : Nat) (hi : 1 ≤ i) (p : List Nat) (ps : List (List Nat)) (hp : ∀ q ∈ p :: ps, q.length ≤ 8192) (hn : i + ps.length + 1 ≤ 1099511627776) : scan0 (recsB i (p :: ps)) = (i, p :: ps, (recsB i (p :: ps)).length) := by
  have h0 : oneS ((recsB i (p :: ps)).drop 0) = some (i, p, p.length + 17) := oneS_rec' i (by omega) p (hp p (List.mem_cons_self ..)) _
  have h1 : (recsB i (p :: ps)).drop (0 + (recB i p).length) = recsB (i + 1) ps := drop_past rfl
  rw [recB_len] at h1
  unfold scan0
  rw [scanS_some h0, if_neg (by omega), if_pos rfl, scan_recs _ ps i ([] ++ [p]) (0 + (p.length + 17)) (fun q hq => hp q (List.mem_cons_of_mem _ hq)) (by omega) (by simp; omega) (by rw [h1]; rfl)]
  refine Prod.ext rfl (Prod.ext rfl ?_)
  show 0 + (p.length + 17) + (recsB (i + 1) ps).length = (recB i p ++ recsB (i + 1) ps).length
  rw [List.length_append, recB_len]
  omega
theorem ckB_recs : ∀ (ps : List (List Nat)) (i : Nat) (b : List Nat), (∀ p ∈ ps, p.length ≤ 200) → b.length + 217 * ps.length ≤ 1048576 → ckB i ps b = some (b ++ recsB (i + 1) ps) := by
  intro ps
  induction ps with
  | nil => intro i b _ _; simp [ckB, recsB]
  | cons p ps ih =>
    intro i b hp hb
    have h1 := hp p (List.mem_cons_self ..)
    have h2 : recS ((i + 1 : Nat) : Int) p = (recB (i + 1) p, 0) := recS_ok (i + 1) (by omega) p (by omega)
    simp only [List.length_cons] at hb
    have h3 : (b ++ recB (i + 1) p).length = b.length + (p.length + 17) := by rw [List.length_append, recB_len]
    rw [ckB, h2, if_neg (by show ¬ 1048576 < (b ++ recB (i + 1) p).length; omega)]
    show ckB (i + 1) ps (b ++ recB (i + 1) p) = _
    rw [ih (i + 1) (b ++ recB (i + 1) p) (fun q hq => hp q (List.mem_cons_of_mem _ hq)) (by omega), recsB, List.append_assoc]
/-- The disk behind Appends alone. -/
def dLog (ps : List (List Nat)) : DS := if ps = [] then DS.new else ⟨[⟨nLog, recsB 1 ps, (recsB 1 ps).length⟩], -1, false⟩
theorem dLog_app (ps : List (List Nat)) (p : List Nat) (hps : ∀ q ∈ ps, q.length ≤ 200) (hp : p.length ≤ 200) (hn : ps.length ≤ 100) : appW (dLog ps) ⟨ps, false⟩ p = (dLog (ps ++ [p]), ⟨ps ++ [p], false⟩, 0) := by
  obtain ⟨r, hr⟩ : ∃ r, r = recB (ps.length + 1) p := ⟨_, rfl⟩
  have hl : r.length = p.length + 17 := by rw [hr, recB_len]
  have ht : r.take r.length = r := List.take_length
  have hrec : recS ((ps.length + 1 : Nat) : Int) p = (r, 0) := by rw [hr]; exact recS_ok _ (by omega) p (by omega)
  have hd : dLog (ps ++ [p]) = ⟨[⟨nLog, recsB 1 ps ++ r, (recsB 1 ps ++ r).length⟩], -1, false⟩ := by
    unfold dLog
    rw [if_neg (by simp), recsB_snoc, hr, Nat.add_comm]
  have ha : actsS [fun d => d.app nameB nLog r, fun d => d.sync nLog] (dLog ps) = (dLog (ps ++ [p]), 0) := by
    rw [hd]
    by_cases h0 : ps = []
    · subst h0
      have h1 : ¬ 1048576 < r.length := by omega
      have h2 : recsB 1 [] = [] := rfl
      simp [dLog, actsS, DS.app, DS.sync, DS.new, DS.get, DS.putL, DS.useN, DS.used, DS.useOk, DS.one, name_L, h1, h2]
    · obtain ⟨B, hB⟩ : ∃ B, B = recsB 1 ps := ⟨_, rfl⟩
      have hBl : B.length ≤ 217 * ps.length := by rw [hB]; exact recsB_len ps 1 hps
      have h1 : ¬ 1048576 < r.length := by omega
      have h2 : ¬ 1048576 < B.length + r.length := by omega
      have hdl : dLog ps = ⟨[⟨nLog, B, B.length⟩], -1, false⟩ := by unfold dLog; rw [if_neg h0, hB]
      rw [hdl, ← hB]
      simp [actsS, DS.app, DS.sync, DS.get, DS.putL, DS.useN, DS.used, DS.useOk, DS.one, name_L, h1, h2]
  unfold appW
  rw [if_neg (show ¬ (false = true) from Bool.false_ne_true)]
  show (if (recS ((ps.length + 1 : Nat) : Int) p).2 ≠ 0 then _ else _) = _
  rw [hrec]
  simp only [ne_eq, not_true_eq_false, if_false, ha, if_true]
/-- Behind a checkpoint. -/
def dChk (ps : List (List Nat)) : DS := if ps = [] then ⟨[⟨nSnap, [], 0⟩], -1, false⟩ else ⟨[⟨nLog, [], 0⟩, ⟨nSnap, recsB 1 ps, (recsB 1 ps).length⟩], -1, false⟩
theorem dLog_chk (ps : List (List Nat)) (hps : ∀ q ∈ ps, q.length ≤ 200) (hn : ps.length ≤ 100) : chkW (dLog ps) ⟨ps, false⟩ = (dChk ps, ⟨ps, false⟩, 0) := by
  have hc : ckB 0 ps [] = some (recsB 1 ps) := by
    have := ckB_recs ps 0 [] hps (by simp; omega)
    simpa using this
  obtain ⟨B, hB⟩ : ∃ B, B = recsB 1 ps := ⟨_, rfl⟩
  have hBl : B.length ≤ 217 * ps.length := by rw [hB]; exact recsB_len ps 1 hps
  rw [← hB] at hc
  have h1 : ¬ 1048576 < B.length := by omega
  have ha : actsS (ckActs B) (dLog ps) = (dChk ps, 0) := by
    by_cases h0 : ps = []
    · subst h0
      have hBn : B = [] := hB
      subst hBn
      simp [dLog, dChk, ckActs, actsS, cut0, DS.app, DS.sync, DS.ren, DS.cut, DS.new, DS.get, DS.putL, DS.del, DS.useN, DS.used, DS.useOk, DS.one, name_L, name_N, name_S, ne_LN, ne_LS, ne_NS, ne_NL, ne_SL, ne_SN]
    · have hdl : dLog ps = ⟨[⟨nLog, B, B.length⟩], -1, false⟩ := by unfold dLog; rw [if_neg h0, hB]
      have hdc : dChk ps = ⟨[⟨nLog, [], 0⟩, ⟨nSnap, B, B.length⟩], -1, false⟩ := by unfold dChk; rw [if_neg h0, hB]
      rw [hdl, hdc]
      have hneg : ¬ ((B.length : Int) < 0) := by omega
      simp [hneg, ckActs, actsS, cut0, DS.app, DS.sync, DS.ren, DS.cut, DS.get, DS.putL, DS.del, DS.useN, DS.used, DS.useOk, DS.one, name_L, name_N, name_S, h1, ne_LN, ne_LS, ne_NS, ne_NL, ne_SL, ne_SN]
  unfold chkW
  rw [if_neg (show ¬ (false = true) from Bool.false_ne_true)]
  show chkT (dLog ps) ⟨ps, false⟩ (ckB 0 ps []) = _
  rw [hc]
  simp only [chkT, ha, if_true]
/-- Behind one Append more. -/
def dMore (ps : List (List Nat)) (m : List Nat) : DS := if ps = [] then ⟨[⟨nSnap, [], 0⟩, ⟨nLog, recB 1 m, m.length + 17⟩], -1, false⟩ else ⟨[⟨nLog, recB (ps.length + 1) m, m.length + 17⟩, ⟨nSnap, recsB 1 ps, (recsB 1 ps).length⟩], -1, false⟩
theorem dChk_app (ps : List (List Nat)) (m : List Nat) (hm : m.length ≤ 200) : appW (dChk ps) ⟨ps, false⟩ m = (dMore ps m, ⟨ps ++ [m], false⟩, 0) := by
  obtain ⟨r, hr⟩ : ∃ r, r = recB (ps.length + 1) m := ⟨_, rfl⟩
  have hl : r.length = m.length + 17 := by rw [hr, recB_len]
  have hrec : recS ((ps.length + 1 : Nat) : Int) m = (r, 0) := by rw [hr]; exact recS_ok _ (by omega) m (by omega)
  have h1 : ¬ 1048576 < r.length := by omega
  have h2 : ¬ 1048576 < m.length + 17 := by omega
  have ht : r.take (m.length + 17) = r := by rw [← hl]; exact List.take_length
  have ha : actsS [fun d => d.app nameB nLog r, fun d => d.sync nLog] (dChk ps) = (dMore ps m, 0) := by
    by_cases h0 : ps = []
    · subst h0
      have hr1 : recB 1 m = r := hr.symm
      simp [dChk, dMore, hr1, actsS, DS.app, DS.sync, DS.get, DS.putL, DS.useN, DS.used, DS.useOk, DS.one, name_L, h1, h2, hl, ht, ne_SL, ne_LS]
    · unfold dChk dMore
      rw [if_neg h0, if_neg h0, ← hr]
      simp [actsS, DS.app, DS.sync, DS.get, DS.putL, DS.useN, DS.used, DS.useOk, DS.one, name_L, h1, h2, hl, ht, ne_SL, ne_LS]
  unfold appW
  rw [if_neg (show ¬ (false = true) from Bool.false_ne_true)]
  show (if (recS ((ps.length + 1 : Nat) : Int) m).2 ≠ 0 then _ else _) = _
  rw [hrec]
  simp only [ne_eq, not_true_eq_false, if_false, ha, if_true]
theorem dMore_crash (ps : List (List Nat)) (m : List Nat) : (dMore ps m).crash 0 = dMore ps m := by
  have h1 : (recB (ps.length + 1) m).take (m.length + 17) = recB (ps.length + 1) m := List.take_of_length_le (by rw [recB_len]; exact Nat.le_refl _)
  have h2 : (recB 1 m).take (m.length + 17) = recB 1 m := List.take_of_length_le (by rw [recB_len]; exact Nat.le_refl _)
  unfold dMore
  split
  · simp [DS.crash, DS.crash1, recB_len, h2]
  · simp [DS.crash, DS.crash1, recB_len, h1]
theorem dMore_open (ps : List (List Nat)) (m : List Nat) (hps : ∀ q ∈ ps, q.length ≤ 200) (hm : m.length ≤ 200) (hn : ps.length ≤ 100) : openW (dMore ps m) = (dMore ps m, ps ++ [m], 0) := by
  obtain ⟨r, hr⟩ : ∃ r, r = recB (ps.length + 1) m := ⟨_, rfl⟩
  have hl : r.length = m.length + 17 := by rw [hr, recB_len]
  have hs2 : scan0 r = (ps.length + 1, [m], m.length + 17) := by rw [hr]; exact scan_one _ (by omega) (by omega) m (by omega)
  obtain ⟨d, hd⟩ : ∃ d, d = dMore ps m := ⟨_, rfl⟩
  rw [← hd]
  have hrN : readS d nNext = ([], false, 0) := by rw [hd]; unfold dMore; split <;> simp [readS, DS.read, DS.get, ne_LN, ne_SN]
  have hrL : readS d nLog = (r, true, 0) := by
    rw [hd]; unfold dMore
    split
    · rename_i h0; subst h0
      have hr1 : recB 1 m = r := hr.symm
      simp [readS, DS.read, DS.get, ne_SL, hr1]
    · rw [← hr]; simp [readS, DS.read, DS.get]
  obtain ⟨s, hrS, hs1⟩ : ∃ s, readS d nSnap = (s, true, 0) ∧ openSnap s = ps := by
    by_cases h0 : ps = []
    · refine ⟨[], by rw [hd]; unfold dMore; rw [if_pos h0]; simp [readS, DS.read, DS.get], ?_⟩
      unfold openSnap scan0
      rw [scanS_none (by exact oneS_nil), if_neg (by decide), h0]
    · refine ⟨recsB 1 ps, by rw [hd]; unfold dMore; rw [if_neg h0]; simp [readS, DS.read, DS.get, ne_LS], ?_⟩
      match ps, h0 with
      | p :: t, _ =>
        unfold openSnap
        rw [scan0_recs 1 (by decide) p t (fun q hq => Nat.le_trans (hps q hq) (by decide)) (by simp at hn; omega), if_pos rfl]
  unfold openW openA openB openCut openMix mixOk
  simp [hrN, hrS, hrL, hs1, hs2, hl]
theorem dChk_snap (ps : List (List Nat)) (hps : ∀ q ∈ ps, q.length ≤ 200) (hn : ps.length ≤ 100) : ∃ f en, (dChk ps).read nSnap = (recsB 1 ps, 0) ∧ scan0 (recsB 1 ps) = (f, ps, en) := by
  by_cases h0 : ps = []
  · subst h0
    refine ⟨0, 0, by simp [dChk, DS.read, DS.get, recsB], ?_⟩
    unfold scan0; exact scanS_none oneS_nil
  · refine ⟨1, (recsB 1 ps).length, by unfold dChk; rw [if_neg h0]; simp [DS.read, DS.get, ne_LS], ?_⟩
    match ps, h0 with
    | p :: t, _ => exact scan0_recs 1 (by decide) p t (fun q hq => Nat.le_trans (hps q hq) (by decide)) (by simp at hn; omega)
theorem dChk_log (ps : List (List Nat)) : (dChk ps).read nLog = ([], if ps = [] then 4 else 0) := by
  by_cases h0 : ps = []
  · subst h0; simp [dChk, DS.read, DS.get, ne_SL]
  · unfold dChk; rw [if_neg h0, if_neg h0]; simp [DS.read, DS.get]
theorem DB.dMore (ps : List (List Nat)) (m : List Nat) (hps : Byt ps) (hm : ∀ x ∈ m, x < 256) : DB (dMore ps m) := fun f hf x hx => by
  unfold Proofs.Ytdkaaieenbmihaa.dMore at hf
  split at hf
  · rcases List.mem_cons.1 hf with rfl | hf
    · cases hx
    · rw [List.mem_singleton.1 hf] at hx
      exact recB_byt _ m hm x hx
  · rcases List.mem_cons.1 hf with rfl | hf
    · exact recB_byt _ m hm x hx
    · rw [List.mem_singleton.1 hf] at hx
      exact recsB_byt ps 1 hps x hx
end Go.Proofs.Ytdkaaieenbmihaa
namespace Go.Proofs.Ytdkaaieenbmihaa
open Go.RowKit
open Sha (vals Bytes Lies bytesC sumB)
open Go.Proofs.Ytdkaaieenbmihaa.Pure (nameB)
theorem ck_open : openW DS.new = (dLog [], [], 0) := fx_open
theorem take_one (ps : List (List Nat)) (j : Nat) (h : j < ps.length) : ps.take (j + 1) = ps.take j ++ [ps.getD j default] := by
  rw [List.take_add_one, List.getElem?_eq_getElem h, List.getD_eq_getElem?_getD, List.getElem?_eq_getElem h]; rfl
/-- A list of the call's own whose payloads are older than it. -/
def PLq (w0 w : World) (v : Value) (ps : List (List Nat)) : Prop :=
  ∃ us : List SLV, w.ownsRow w0.heap.size 22 1 v us.length (flat encV us) ∧ us.length = ps.length ∧ ∀ i, i < ps.length → Rw 1 encB w0 (us.getD i default).v (ps.getD i default)
theorem PLq.made (w0 : World) : PLq w0 (w0.alloc (.cells #[] 22)) (.slice (some ⟨w0.heap.size, 0, none⟩) 0 0) [] :=
  ⟨[], World.ownsRow_made _ _ 0 (Nat.le_refl _) (by decide) rfl, rfl, fun i h => by simp at h⟩
theorem PLq.below {w0 w w' : World} {v : Value} {ps : List (List Nat)} (h : PLq w0 w v ps) (hb : Below w.heap.size w w') : PLq w0 w' v ps := by
  obtain ⟨us, h1, h2⟩ := h
  exact ⟨us, own_keep h1 (fun q hq => hb.block q (h1.lt q hq).2), h2⟩
theorem PLq.read {w0 w : World} {v : Value} {ps : List (List Nat)} (h : PLq w0 w v ps) (hb : Below w0.heap.size w0 w) : PLr w v ps := by
  obtain ⟨us, h1, h2, h3⟩ := h
  exact ⟨us, Rw.own encV_size (by decide) h1, h2, fun i hi => (h3 i hi).below hb⟩
theorem PLr.one {w0 w : World} {E : Nat} {A : Option Addr} {n c : Nat} {p : List Nat} (hE : w.heap[E]? = some (.cells #[.slice A n c] 22 (0, 0))) (ht : Rw 1 encB w0 (.slice A n c) p) :
    ∃ xs : List SLV, Rw 1 encV w (.slice (some ⟨E, 0, none⟩) 1 1) xs ∧ xs.length = ([p] : List (List Nat)).length ∧ ∀ i, i < ([p] : List (List Nat)).length → Rw 1 encB w0 (xs.getD i default).v (([p] : List (List Nat)).getD i default) :=
  ⟨[⟨A, n, c⟩], rw_one (enc := encV) ⟨A, n, c⟩ hE, rfl, fun i hi => by
    obtain rfl : i = 0 := by simpa using hi
    exact ht⟩
theorem PLq.app {w0 w : World} (s x : Operand) {v : Value} {ps : List (List Nat)} (hown : PLq w0 w v ps) (hq : Below w0.heap.size w0 w) (y : Value) (qs : List (List Nat))
    (hy : ∃ xs : List SLV, Rw 1 encV w y xs ∧ xs.length = qs.length ∧ ∀ i, i < qs.length → Rw 1 encB w0 (xs.getD i default).v (qs.getD i default)) (hlen : ps.length + qs.length ≤ 1000000000) :
    ∃ v' w', (∀ {o : Oper} {a : Act}, o.op = .call { callee := .builtin .append, args := #[s, x], argTypes := #[30, 30] } → a.eval s = v → a.eval x = y → (execOp a.eval o).run Try.prog w = .ok (.value v') w') ∧ PLq w0 w' v' (ps ++ qs) ∧ Below w0.heap.size w0 w' := by
  obtain ⟨i5, hi5, hz0, hz1, hz2⟩ := info_parts inf22
  obtain ⟨us, hu, hul, hue⟩ := hown
  obtain ⟨xs, hy, hxl, hxs⟩ := hy
  have hbase := hq.size
  have fin : ∀ {v' w'}, w'.ownsRow w0.heap.size 22 1 v' (us ++ xs).length (flat encV (us ++ xs)) → PLq w0 w' v' (ps ++ qs) := fun {v' w'} ho => by
    refine ⟨us ++ xs, ho, by simp [hul, hxl], fun i hi => ?_⟩
    by_cases h : i < ps.length
    · have e1 : (us ++ xs).getD i default = us.getD i default := by simp [List.getD_eq_getElem?_getD, List.getElem?_append_left (show i < us.length by omega)]
      have e2 : (ps ++ qs).getD i default = ps.getD i default := by simp [List.getD_eq_getElem?_getD, List.getElem?_append_left h]
      rw [e1, e2]
      exact hue i h
    · have e1 : (us ++ xs).getD i default = xs.getD (i - ps.length) default := by simp [List.getD_eq_getElem?_getD, List.getElem?_append_right (show us.length ≤ i by omega), hul]
      have e2 : (ps ++ qs).getD i default = qs.getD (i - ps.length) default := by simp [List.getD_eq_getElem?_getD, List.getElem?_append_right (show ps.length ≤ i by omega)]
      rw [e1, e2]
      exact hxs _ (by simp at hi; omega)
  have gr : ∀ {w'}, w.grownBy w' v.ownBlock → Below w0.heap.size w0 w' := fun {w'} hg => hq.grown hg hq.size (fun q hq => (hu.lt q hq).1)
  rcases hy with ⟨A, c, rfl, rfl, hA⟩ | ⟨g, off, c, rfl, hc, hg, hl⟩
  · cases A with
    | none =>
      have hA := hA rfl
      subst hA
      refine ⟨v, w, fun {o a} ho hs hx => ?_, fin (by simpa using hu), hq⟩
      have hrun := run_append_owned_none (P := Try.prog) (w := w) w0.heap.size 30 o.type 22 i5 1 Try.underlying30 hi5 v us.length (flat encV us) hu
      simp [execOp, ho, resolve, invoke, builtin, hs, hx, hrun, Result.andThen]
    | some ad =>
      obtain ⟨v', w', h1, h2, h3, h4⟩ := run_append_own (P := Try.prog) w w0.heap.size 30 30 22 i5 (.slice none 0 0) 1 24 Try.underlying30 hi5 hz0 hz1 hz2 rfl (by decide) v us.length (flat encV us) hu ad 0 c [] rfl (fun j u hu => by simp at hu) (fun u hu => by simp at hu) (by unfold maxLen; omega) (by omega) hbase
      refine ⟨v', w', fun {o a} ho hs hx => ?_, fin (by simpa using h2), gr h3⟩
      have h1' : (Builtin.append_ #[30, 30] o.type #[v, .slice (some ad) 0 c]).run Try.prog w = .ok v' w' := h1
      simp [execOp, ho, resolve, invoke, builtin, hs, hx, h1', Result.andThen]
  · obtain ⟨v', w', h1, h2, h3, h4⟩ := run_append_own (P := Try.prog) w w0.heap.size 30 30 22 i5 (.slice none 0 0) 1 24 Try.underlying30 hi5 hz0 hz1 hz2 rfl (by decide) v us.length (flat encV us) hu ⟨g, off, none⟩ xs.length c (flat encV xs) (flat_len encV_size xs) (Rw.cells encV_size hl) (flat_one encV_one xs) (by unfold maxLen; omega) (by omega) hbase
    refine ⟨v', w', fun {o a} ho hs hx => ?_, fin (by rw [List.length_append, flat_app]; exact h2), gr h3⟩
    have h1' : (Builtin.append_ #[30, 30] o.type #[v, .slice (some ⟨g, off, none⟩) xs.length c]).run Try.prog w = .ok v' w' := h1
    simp [execOp, ho, resolve, invoke, builtin, hs, hx, h1', Result.andThen]
theorem PLr.old {w0 w : World} {v : Value} {ps : List (List Nat)} (h : PLr w0 v ps) (hb : Below w0.heap.size w0 w) :
    ∃ xs : List SLV, Rw 1 encV w v xs ∧ xs.length = ps.length ∧ ∀ i, i < ps.length → Rw 1 encB w0 (xs.getD i default).v (ps.getD i default) := by
  obtain ⟨us, h1, h2, h3⟩ := h
  exact ⟨us, h1.below hb, h2, h3⟩
set_option maxRecDepth 100000 in
set_option maxHeartbeats 32000000 in
theorem WalChecks_calls (ps : List (List Nat)) (hps : Byt ps) (m : List Nat) (hm : ∀ x ∈ m, x < 256) (A : Option Addr) (n c : Nat) (hn : n = ps.length) (A2 : Option Addr) (m2 c2 : Nat) (hm2 : m2 = m.length) (w : World)
    (hy : PLr w (.slice A n c) ps) (hy2 : Rw 1 encB w (.slice A2 m2 c2) m) :
    Calls Try.prog 6 #[.slice A n c, .slice A2 m2 c2] w fun e w' => e = .returned (.bool true) ∧ Below w.heap.size w w' := by
  have hBw : Hid (Below w.heap.size w w) := Below.refl _ _
  have hp0 : Hid (PLr w (.slice A n c) ps) := hy
  have hz0 : Hid (Rw 1 encB w (.slice A2 m2 c2) m) := hy2
  have hnH : Hid (n = ps.length) := hn
  have hm2H : Hid (m2 = m.length) := hm2
  have hpsH : Hid (Byt ps) := hps
  have hmH : Hid (∀ x ∈ m, x < 256) := hm
  clear hy hy2 hn hm2 hps hm
  go_enter Try.func6, Try.ntmps6
  go_upto_region 1 with fail
  refine wp_region_lit ?_
  refine sg_call (by kernel_rfl) 9 #[] (by kernel_rfl) (R := fun v w' => v = .bool true ∧ Below w.heap.size w w') ?hlc1 ?_
  case hlc1 =>
    have h8 := fixed_calls w
    exact h8.mono fun e w' h => ⟨_, h.1, rfl, h.2⟩
  rintro _ w1 ⟨rfl, hb⟩
  simp only [Act.put, fl1, fl2, fl3]
  have hBw1 : Hid (Below w.heap.size w w1) := (hBw.out).trans ((hb).mono (hBw.out).size)
  clear hBw
  clear hb
  refine sl_run rfl (.bool false) w1 (by kernel_rfl) ?_
  simp only [Act.put, fl1, fl2, fl3]
  refine wpList_nil ?_
  by_cases hc1 : (20 : Int) < (n : Int)
  case pos =>
    go_upto_region 3 with fail
    refine wp_region_lit ?_
    refine sl_run rfl (.slice A n c) w1 (by kernel_rfl) ?_
    simp only [Act.put, fl1, fl2, fl3]
    refine sl_run rfl (.int .i64 (n : Int)) w1 (by kernel_rfl) ?_
    simp only [Act.put, fl1, fl2, fl3]
    refine sl_run rfl (.bool true) w1 (exec_gtr _ _ _ rfl (n : Int) 20 (by kernel_rfl) (by kernel_rfl) true (decide_eq_true (by omega))) ?_
    simp only [Act.put, fl1, fl2, fl3]
    refine sl_run rfl (.bool true) w1 (by kernel_rfl) ?_
    simp only [Act.put, fl1, fl2, fl3]
    rw [wpList, if_neg (by rw [show Region.wanted _ _ = false by kernel_rfl]; decide)]
    simp only [Act.put, fl1, fl2, fl3]
    rw [wpList, if_neg (by rw [show Region.wanted _ _ = false by kernel_rfl]; decide)]
    simp only [Act.put, fl1, fl2, fl3]
    rw [wpList, if_neg (by rw [show Region.wanted _ _ = false by kernel_rfl]; decide)]
    simp only [Act.put, fl1, fl2, fl3]
    refine sl_run rfl (.bool true) w1 (by kernel_rfl) ?_
    simp only [Act.put, fl1, fl2, fl3]
    refine wpList_nil ?_
    have hF := hBw1
    clear hBw1 hp0 hz0 hnH hm2H hpsH hmH
    go_wp2_with fail
    go_ret
    exact ⟨rfl, hF.out⟩
  case neg =>
  by_cases hc2 : (200 : Int) < (m2 : Int)
  case pos =>
    go_upto_region 3 with fail
    refine wp_region_lit ?_
    refine sl_run rfl (.slice A n c) w1 (by kernel_rfl) ?_
    simp only [Act.put, fl1, fl2, fl3]
    refine sl_run rfl (.int .i64 (n : Int)) w1 (by kernel_rfl) ?_
    simp only [Act.put, fl1, fl2, fl3]
    refine sl_run rfl (.bool false) w1 (exec_gtr _ _ _ rfl (n : Int) 20 (by kernel_rfl) (by kernel_rfl) false (decide_eq_false (by omega))) ?_
    simp only [Act.put, fl1, fl2, fl3]
    refine sl_run rfl (.bool false) w1 (by kernel_rfl) ?_
    simp only [Act.put, fl1, fl2, fl3]
    refine sg_run (by kernel_rfl) (.slice A2 m2 c2) w1 (by kernel_rfl) ?_
    simp only [Act.put, fl1, fl2, fl3]
    refine sg_run (by kernel_rfl) (.int .i64 (m2 : Int)) w1 (by kernel_rfl) ?_
    simp only [Act.put, fl1, fl2, fl3]
    refine sg_run (by kernel_rfl) (.bool true) w1 (exec_gtr _ _ _ rfl (m2 : Int) 200 (by kernel_rfl) (by kernel_rfl) true (decide_eq_true (by omega))) ?_
    simp only [Act.put, fl1, fl2, fl3]
    refine sl_run rfl (.bool true) w1 (by kernel_rfl) ?_
    simp only [Act.put, fl1, fl2, fl3]
    refine wpList_nil ?_
    have hF := hBw1
    clear hBw1 hp0 hz0 hnH hm2H hpsH hmH
    go_wp2_with fail
    go_ret
    exact ⟨rfl, hF.out⟩
  case neg =>
  go_upto_region 3 with fail
  refine wp_region_lit ?_
  refine sl_run rfl (.slice A n c) w1 (by kernel_rfl) ?_
  simp only [Act.put, fl1, fl2, fl3]
  refine sl_run rfl (.int .i64 (n : Int)) w1 (by kernel_rfl) ?_
  simp only [Act.put, fl1, fl2, fl3]
  refine sl_run rfl (.bool false) w1 (exec_gtr _ _ _ rfl (n : Int) 20 (by kernel_rfl) (by kernel_rfl) false (decide_eq_false (by omega))) ?_
  simp only [Act.put, fl1, fl2, fl3]
  refine sl_run rfl (.bool false) w1 (by kernel_rfl) ?_
  simp only [Act.put, fl1, fl2, fl3]
  refine sg_run (by kernel_rfl) (.slice A2 m2 c2) w1 (by kernel_rfl) ?_
  simp only [Act.put, fl1, fl2, fl3]
  refine sg_run (by kernel_rfl) (.int .i64 (m2 : Int)) w1 (by kernel_rfl) ?_
  simp only [Act.put, fl1, fl2, fl3]
  refine sg_run (by kernel_rfl) (.bool false) w1 (exec_gtr _ _ _ rfl (m2 : Int) 200 (by kernel_rfl) (by kernel_rfl) false (decide_eq_false (by omega))) ?_
  simp only [Act.put, fl1, fl2, fl3]
  refine sl_run rfl (.bool false) w1 (by kernel_rfl) ?_
  simp only [Act.put, fl1, fl2, fl3]
  refine wpList_nil ?_
  go_upto_region 5 with fail
  refine wp_region_lit ?_
  refine sg_call (by kernel_rfl) 15 #[] (by kernel_rfl) (R := fun v w' => ∃ D mb, v = .pointer (some ⟨D, 0, none⟩) ∧ DiskI w' D mb DS.new ∧ Below w1.heap.size w1 w' ∧ w1.heap.size ≤ D ∧ w1.heap.size ≤ mb) ?hlc2 ?_
  case hlc2 =>
    exact (New_calls w1).mono fun e w' h => by
      obtain ⟨D, mb, h1, h2⟩ := h
      exact ⟨_, h1, D, mb, rfl, h2⟩
  rintro _ w2 ⟨D, mb, rfl, hD0, hb, hDl, hml⟩
  simp only [Act.put, fl1, fl2, fl3]
  have hlo : Hid (w.heap.size ≤ D ∧ w.heap.size ≤ mb) := And.intro (Nat.le_trans hBw1.out.size hDl) (Nat.le_trans hBw1.out.size hml)
  have hBw2 : Hid (Below w.heap.size w w2) := (hBw1.out).trans ((hb).mono (hBw1.out).size)
  clear hBw1
  have hDw2 : Hid (DiskI w2 D mb DS.new) := hD0
  clear hD0 hb hDl hml
  refine sl_run rfl (.pointer (some ⟨D, 0, none⟩)) w2 (by kernel_rfl) ?_
  simp only [Act.put, fl1, fl2, fl3]
  refine wpList_nil ?_
  go_upto_region 6 with fail
  refine wp_region_lit ?_
  refine sl_run rfl (.pointer (some ⟨D, 0, none⟩)) w2 (by kernel_rfl) ?_
  simp only [Act.put, fl1, fl2, fl3]
  refine sg_call (by kernel_rfl) 16 #[.pointer (some ⟨D, 0, none⟩)] (by kernel_rfl) (R := fun v w' => ∃ Lg, v = .tuple #[.pointer (some ⟨Lg, 0, none⟩), .int .i64 0] ∧ LogI w' w.heap.size D mb Lg (dLog []) ⟨[], false⟩ ∧ KpS (TD D mb) w2 w') ?hlc3 ?_
  case hlc3 =>
    have h8 := Open_calls hDw2.out DB.new
    rw [ck_open] at h8
    exact h8.mono fun e w' h => by
      obtain ⟨Lg, h1, h2, h3⟩ := h.log rfl (B := w.heap.size) hlo.out.1 hlo.out.2 hBw2.out.size
      exact ⟨_, h1, Lg, rfl, h2, h3⟩
  rintro _ w3 ⟨Lg, rfl, hL0, hk⟩
  simp only [Act.put, fl1, fl2, fl3]
  have hLw3 : Hid (LogI w3 w.heap.size D mb Lg (dLog []) ⟨[], false⟩) := hL0
  have hBw3 : Hid (Below w.heap.size w w3) := hBw2.out.trans (hk.bel (fun k hs => by rcases hs with rfl | rfl; exact hlo.out.1; exact hlo.out.2) hBw2.out.size)
  clear hL0 hk hBw2 hDw2
  refine sl_run rfl (.tuple #[.pointer (some ⟨Lg, 0, none⟩), .int .i64 0]) w3 (by kernel_rfl) ?_
  simp only [Act.put, fl1, fl2, fl3]
  refine sl_run rfl (.pointer (some ⟨Lg, 0, none⟩)) w3 (by kernel_rfl) ?_
  simp only [Act.put, fl1, fl2, fl3]
  refine sl_run rfl (.int .i64 0) w3 (by kernel_rfl) ?_
  simp only [Act.put, fl1, fl2, fl3]
  refine sl_run rfl (.pointer (some ⟨Lg, 0, none⟩)) w3 (by kernel_rfl) ?_
  simp only [Act.put, fl1, fl2, fl3]
  refine sl_run rfl (.int .i64 0) w3 (by kernel_rfl) ?_
  simp only [Act.put, fl1, fl2, fl3]
  refine wpList_nil ?_
  go_upto_region 7 with fail
  refine wp_region_lit ?_
  refine sl_run rfl (.int .i64 0) w3 (by kernel_rfl) ?_
  simp only [Act.put, fl1, fl2, fl3]
  refine sl_run rfl (.bool false) w3 (by kernel_rfl) ?_
  simp only [Act.put, fl1, fl2, fl3]
  refine wpList_nil ?_
  go_wp2_with fail
  go_loopw [8] (fun p wr => ∃ j : Nat, j ≤ n ∧ p = .int .i64 (j : Int) ∧ Hid (∀ q ∈ ps.take j, q.length ≤ 200) ∧ Hid (LogI wr w.heap.size D mb Lg (dLog (ps.take j)) ⟨ps.take j, false⟩) ∧ Hid (Below w.heap.size w wr)) (fun p _ => n - (intOf p).toNat)
  case atStart => exact ⟨0, by omega, rfl, (fun q hq => by cases hq), hLw3, hBw3⟩
  case round =>
    clear hBw3 hLw3
    obtain ⟨j, hj, rfl, hall, hLr, hBr⟩ := hrel
    obtain ⟨wo, rfl⟩ : ∃ v : World, v = wr := ⟨_, rfl⟩
    have hBwo : Hid (Below w.heap.size w wo) := hBr.out
    have hLwo : Hid (LogI wo w.heap.size D mb Lg (dLog (ps.take j)) ⟨ps.take j, false⟩) := hLr.out
    have hallH : Hid (∀ q ∈ ps.take j, q.length ≤ 200) := hall
    clear hBr hLr hall
    by_cases h1 : j < n
    case pos =>
      have hI : (j : Int) < (n : Int) := by omega
      obtain ⟨gg, oo, x1, rfl, hnc, hel⟩ := hp0.out.elem j (by rw [← hnH.out]; exact h1)
      obtain ⟨x, hx⟩ : ∃ x, x = ps.getD j default := ⟨_, rfl⟩
      have hxb : Hid (∀ z ∈ x, z < 256) := by rw [hx]; exact hpsH.out.get j (by rw [← hnH.out]; exact h1)
      have htk : Hid (ps.take (j + 1) = ps.take j ++ [x]) := by show _ = _; rw [hx]; exact take_one ps j (by rw [← hnH.out]; exact h1)
      rw [← hx] at hel
      clear hx
      obtain ⟨A1, c1, rfl⟩ := (hel.out w (Below.refl _ _)).2.form
      obtain ⟨n1, hn1⟩ : ∃ k, k = x.length := ⟨_, rfl⟩
      rw [← hn1] at hel
      have hn1H : Hid (n1 = x.length) := hn1
      clear hn1
      go_upto_region 10 with fail
      refine wp_region_lit ?_
      refine sl_run rfl (.int .i64 (j : Int)) wo (by kernel_rfl) ?_
      simp only [Act.put, fl1, fl2, fl3]
      refine sl_run rfl (.slice (some ⟨gg, oo, none⟩) n c) wo (by kernel_rfl) ?_
      simp only [Act.put, fl1, fl2, fl3]
      refine sl_run rfl (.int .i64 (n : Int)) wo (by kernel_rfl) ?_
      simp only [Act.put, fl1, fl2, fl3]
      refine sl_run rfl (.bool true) wo (exec_lss _ _ _ rfl (j : Int) (n : Int) (by kernel_rfl) (by kernel_rfl) true (decide_eq_true hI)) ?_
      simp only [Act.put, fl1, fl2, fl3]
      refine wpList_nil ?_
      by_cases h2 : (200 : Int) < (n1 : Int)
      case pos =>
          go_upto_region 12 with fail
          refine wp_region_lit ?_
          refine sl_run rfl (.slice (some ⟨gg, oo, none⟩) n c) wo (by kernel_rfl) ?_
          simp only [Act.put, fl1, fl2, fl3]
          refine sl_run rfl (.int .i64 (j : Int)) wo (by kernel_rfl) ?_
          simp only [Act.put, fl1, fl2, fl3]
          refine sl_run rfl (.pointer (some ⟨gg, oo + j * 1, none⟩)) wo (exec_index un30s sz30s _ _ rfl gg oo n c j (by kernel_rfl) (by kernel_rfl) h1 wo) ?_
          simp only [Act.put, fl1, fl2, fl3]
          refine sl_run rfl (.slice A1 n1 c1) wo (exec_load_cell 22 wo _ rfl ⟨gg, oo + j * 1, none⟩ (by kernel_rfl) _ (hel.out wo hBwo.out).1 (fun _ => by kernel_rfl)) ?_
          simp only [Act.put, fl1, fl2, fl3]
          refine sl_run rfl (.int .i64 (n1 : Int)) wo (by kernel_rfl) ?_
          simp only [Act.put, fl1, fl2, fl3]
          refine sl_run rfl (.bool true) wo (exec_gtr _ _ _ rfl (n1 : Int) 200 (by kernel_rfl) (by kernel_rfl) true (decide_eq_true (by omega))) ?_
          simp only [Act.put, fl1, fl2, fl3]
          refine wpList_nil ?_
          have hF := hBwo
          clear hBwo hLwo hp0 hz0 hnH hm2H hpsH hmH hxb htk hn1H hallH hel hlo
          go_wp2_with fail
          go_ret
          exact ⟨rfl, hF.out⟩
      case neg =>
      go_upto_region 12 with fail
      refine wp_region_lit ?_
      refine sl_run rfl (.slice (some ⟨gg, oo, none⟩) n c) wo (by kernel_rfl) ?_
      simp only [Act.put, fl1, fl2, fl3]
      refine sl_run rfl (.int .i64 (j : Int)) wo (by kernel_rfl) ?_
      simp only [Act.put, fl1, fl2, fl3]
      refine sl_run rfl (.pointer (some ⟨gg, oo + j * 1, none⟩)) wo (exec_index un30s sz30s _ _ rfl gg oo n c j (by kernel_rfl) (by kernel_rfl) h1 wo) ?_
      simp only [Act.put, fl1, fl2, fl3]
      refine sl_run rfl (.slice A1 n1 c1) wo (exec_load_cell 22 wo _ rfl ⟨gg, oo + j * 1, none⟩ (by kernel_rfl) _ (hel.out wo hBwo.out).1 (fun _ => by kernel_rfl)) ?_
      simp only [Act.put, fl1, fl2, fl3]
      refine sl_run rfl (.int .i64 (n1 : Int)) wo (by kernel_rfl) ?_
      simp only [Act.put, fl1, fl2, fl3]
      refine sl_run rfl (.bool false) wo (exec_gtr _ _ _ rfl (n1 : Int) 200 (by kernel_rfl) (by kernel_rfl) false (decide_eq_false (by omega))) ?_
      simp only [Act.put, fl1, fl2, fl3]
      refine wpList_nil ?_
      go_upto_region 14 with fail
      refine wp_region_lit ?_
      refine sl_run rfl (.pointer (some ⟨Lg, 0, none⟩)) wo (by kernel_rfl) ?_
      simp only [Act.put, fl1, fl2, fl3]
      refine sl_run rfl (.slice (some ⟨wo.heap.size, 0, none⟩) 0 0) (wo.alloc (.cells #[] 5)) (by kernel_rfl) ?_
      simp only [Act.put, fl1, fl2, fl3]
      generalize hX : wo.alloc (.cells #[] 5) = w4
      have hqw4 : Hid (Below wo.heap.size wo w4) := by rw [← hX]; exact (Below.refl _ _).alloc (Nat.le_refl _) _
      obtain ⟨E0, hE⟩ : ∃ E, E = wo.heap.size := ⟨_, rfl⟩
      have ho9 : w4.ownsRow wo.heap.size 5 1 (.slice (some ⟨E0, 0, none⟩) 0 0) ([] : List Nat).length (vals ([] : List Nat)) := by
        rw [← hX, hE]; exact World.ownsRow_made _ _ 0 (Nat.le_refl _) (by decide) rfl
      rw [← hE]
      clear hX hE
      have hOw4 : Hid (w4.ownsRow wo.heap.size 5 1 (.slice (some ⟨E0, 0, none⟩) 0 0) ([] : List Nat).length (vals ([] : List Nat))) := ho9
      clear ho9
      refine sl_run rfl (.slice (some ⟨gg, oo, none⟩) n c) w4 (by kernel_rfl) ?_
      simp only [Act.put, fl1, fl2, fl3]
      refine sl_run rfl (.int .i64 (j : Int)) w4 (by kernel_rfl) ?_
      simp only [Act.put, fl1, fl2, fl3]
      refine sl_run rfl (.pointer (some ⟨gg, oo + j * 1, none⟩)) w4 (exec_index un30s sz30s _ _ rfl gg oo n c j (by kernel_rfl) (by kernel_rfl) h1 w4) ?_
      simp only [Act.put, fl1, fl2, fl3]
      refine sl_run rfl (.slice A1 n1 c1) w4 (exec_load_cell 22 w4 _ rfl ⟨gg, oo + j * 1, none⟩ (by kernel_rfl) _ (hel.out w4 (hBwo.out.trans (hqw4.out.mono hBwo.out.size))).1 (fun _ => by kernel_rfl)) ?_
      simp only [Act.put, fl1, fl2, fl3]
      refine Sha.append22 rfl _ _ rfl (wo.heap.size) (.slice (some ⟨E0, 0, none⟩) 0 0) ([] : List Nat) (x) (by kernel_rfl) hOw4.out (.slice A1 n1 c1) (by kernel_rfl) (rw_bytes.1 ((hel.out w4 (hBwo.out.trans (hqw4.out.mono hBwo.out.size))).2)) (by have := hn1H.out; simp; omega) hqw4.out.size ?_
      intro vv w5 hO9 hg9 _
      simp only [Act.put, fl1, fl2, fl3]
      have hb : Below wo.heap.size wo w5 := hqw4.out.grown hg9 hqw4.out.size (fun q hq => (hOw4.out.lt q hq).1)
      obtain ⟨Ax, cx, hv9⟩ : ∃ A c, vv = .slice A n1 c := own_formq hO9 (by have := hn1H.out; simp; omega)
      subst hv9
      have hcp9 : Rw 1 encB w5 (.slice Ax n1 cx) (x) := by have h8 := own_rw hO9; rwa [List.nil_append] at h8
      clear hO9 hg9 hOw4 hqw4
      have hBw5 : Hid (Below w.heap.size w w5) := (hBwo.out).trans ((hb).mono (hBwo.out).size)
      have hLw5 : Hid (LogI w5 w.heap.size D mb Lg (dLog (ps.take j)) (⟨ps.take j, false⟩)) := (hLwo.out).below hb
      clear hBwo hLwo
      have hxw5 : Hid (Rw 1 encB w5 (.slice Ax n1 cx) (x)) := hcp9
      clear hcp9 hb
      refine sg_call (by kernel_rfl) 17 #[.pointer (some ⟨Lg, 0, none⟩), .slice Ax n1 cx] (by kernel_rfl) (R := fun v w' => v = .int .i64 0 ∧ LogI w' w.heap.size D mb Lg (dLog (ps.take j ++ [x])) (⟨ps.take j ++ [x], false⟩) ∧ Below w.heap.size w5 w') ?hlc4 ?_
      case hlc4 =>
        have hln : (ps.take j).length ≤ 20 := by rw [List.length_take]; omega
        have hx2 : x.length ≤ 200 := by have := hn1H.out; omega
        have h8 := LAppend_calls hLw5.out (Nat.le_trans hln (by decide)) x hxb.out Ax n1 cx hn1H.out (by omega) hxw5.out
        rw [dLog_app (ps.take j) x hallH.out hx2 (by omega)] at h8
        exact h8.mono fun e w' h => ⟨_, h.1, rfl, h.2⟩
      rintro _ w6 ⟨rfl, hL0, hb⟩
      simp only [Act.put, fl1, fl2, fl3]
      have hLw6 : Hid (LogI w6 w.heap.size D mb Lg (dLog (ps.take j ++ [x])) (⟨ps.take j ++ [x], false⟩)) := hL0
      have hBw6 : Hid (Below w.heap.size w w6) := hBw5.out.trans hb
      clear hL0 hb hBw5 hLw5 hxw5
      refine sl_run rfl (.bool false) w6 (by kernel_rfl) ?_
      simp only [Act.put, fl1, fl2, fl3]
      refine wpList_nil ?_
      have hB9 := hBw6
      have hL9 : Hid (LogI w6 w.heap.size D mb Lg (dLog (ps.take (j + 1))) ⟨ps.take (j + 1), false⟩) := by
        have h8 := hLw6.out
        rw [← htk.out] at h8
        exact h8
      have hall2 : Hid (∀ q ∈ ps.take (j + 1), q.length ≤ 200) := fun q hq => by
        rw [htk.out] at hq
        rcases List.mem_append.1 hq with hq | hq
        · exact hallH.out q hq
        · rw [List.mem_singleton.1 hq]; have := hn1H.out; omega
      clear hBw6 hLw6 hxb htk hn1H hallH hel
      go_wp2_with fail
      go_roundw
      case rel => exact ⟨j + 1, by omega, by go_num, hall2, hL9, hB9⟩
      case measure => simp [intOf]; omega
    case neg =>
      have hnI : ¬ (j : Int) < (n : Int) := by omega
      have htk : ps.take j = ps := List.take_of_length_le (by have := hnH.out; omega)
      have hlenH : Hid (ps.length ≤ 20) := by show _ ≤ _; have := hnH.out; omega
      have hL9 : Hid (LogI wo w.heap.size D mb Lg (dLog ps) ⟨ps, false⟩) := by have h8 := hLwo.out; rw [htk] at h8; exact h8
      have hs2 : Hid (∀ q ∈ ps, q.length ≤ 200) := by have h8 := hallH.out; rw [htk] at h8; exact h8
      have hmlH : Hid (m.length ≤ 200) := by show _ ≤ _; have := hm2H.out; omega
      clear hLwo hallH htk
      obtain ⟨hL8, hL7⟩ : ∃ h : True, Hid (LogI wo w.heap.size D mb Lg (dLog ps) ⟨ps, false⟩) := ⟨trivial, hL9⟩
      have hLwo := hL7
      clear hL8 hL7 hL9
      go_upto_region 10 with fail
      refine wp_region_lit ?_
      refine sl_run rfl (.int .i64 (j : Int)) wo (by kernel_rfl) ?_
      simp only [Act.put, fl1, fl2, fl3]
      refine sl_run rfl (.slice A n c) wo (by kernel_rfl) ?_
      simp only [Act.put, fl1, fl2, fl3]
      refine sl_run rfl (.int .i64 (n : Int)) wo (by kernel_rfl) ?_
      simp only [Act.put, fl1, fl2, fl3]
      refine sl_run rfl (.bool false) wo (exec_lss _ _ _ rfl (j : Int) (n : Int) (by kernel_rfl) (by kernel_rfl) false (decide_eq_false hnI)) ?_
      simp only [Act.put, fl1, fl2, fl3]
      refine wpList_nil ?_
      go_upto_region 16 with fail
      refine wp_region_lit ?_
      refine sl_run rfl (.pointer (some ⟨Lg, 0, none⟩)) wo (by kernel_rfl) ?_
      simp only [Act.put, fl1, fl2, fl3]
      refine sg_call (by kernel_rfl) 18 #[.pointer (some ⟨Lg, 0, none⟩)] (by kernel_rfl) (R := fun v w' => v = .int .i64 0 ∧ LogI w' w.heap.size D mb Lg (dChk ps) (⟨ps, false⟩) ∧ Below w.heap.size wo w') ?hlc5 ?_
      case hlc5 =>
        have h8 := LCheck_calls hLwo.out (Nat.le_trans hlenH.out (by decide)) hpsH.out (fun p hp => Nat.le_trans (hs2.out p hp) (by decide))
        rw [dLog_chk ps hs2.out (Nat.le_trans hlenH.out (by decide))] at h8
        exact h8.mono fun e w' h => ⟨_, h.1, rfl, h.2⟩
      rintro _ w7 ⟨rfl, hL0, hb⟩
      simp only [Act.put, fl1, fl2, fl3]
      have hLw7 : Hid (LogI w7 w.heap.size D mb Lg (dChk ps) (⟨ps, false⟩)) := hL0
      have hBw7 : Hid (Below w.heap.size w w7) := hBwo.out.trans hb
      clear hL0 hb hBwo hLwo
      refine sl_run rfl (.bool false) w7 (by kernel_rfl) ?_
      simp only [Act.put, fl1, fl2, fl3]
      refine sl_run rfl (.bool false) w7 (by kernel_rfl) ?_
      simp only [Act.put, fl1, fl2, fl3]
      refine sg_run (by kernel_rfl) (.pointer (some ⟨Lg, 0, none⟩)) w7 (by kernel_rfl) ?_
      simp only [Act.put, fl1, fl2, fl3]
      refine sg_call (by kernel_rfl) 19 #[.pointer (some ⟨Lg, 0, none⟩)] (by kernel_rfl) (R := fun v w' => PLo w' w7.heap.size v (ps) ∧ Below w7.heap.size w7 w') ?hlc6 ?_
      case hlc6 =>
        exact (All_calls hLw7.out (Nat.le_trans hlenH.out (by decide)) (fun p hp => Nat.le_trans (hs2.out p hp) (by decide))).mono fun e w' h => by
          obtain ⟨v, h1, h2, h3⟩ := h
          exact ⟨v, h1, h2, h3⟩
      rintro vq w8 ⟨hr0, hb⟩
      simp only [Act.put, fl1, fl2, fl3]
      have hr1 := hr0.read
      have hBw8 : Hid (Below w.heap.size w w8) := (hBw7.out).trans ((hb).mono (hBw7.out).size)
      have hLw8 : Hid (LogI w8 w.heap.size D mb Lg (dChk ps) (⟨ps, false⟩)) := (hLw7.out).below hb
      clear hBw7 hLw7
      have hqw8 : Hid (PLr w8 vq (ps)) := hr1
      clear hr0 hr1 hb
      refine sg_run (by kernel_rfl) (.slice A n c) w8 (by kernel_rfl) ?_
      simp only [Act.put, fl1, fl2, fl3]
      refine sg_call (by kernel_rfl) 14 #[vq, .slice A n c] (by kernel_rfl) (R := fun v w' => v = .bool true ∧ Below w8.heap.size w8 w') ?hlc7 ?_
      case hlc7 =>
        exact (Same_calls (ps) (ps) hpsH.out hpsH.out _ _ (Nat.le_trans hlenH.out (by decide)) (Nat.le_trans hlenH.out (by decide)) w8 hqw8.out (hp0.out.below hBw8.out)).mono fun e w' h => ⟨_, h.1, by rw [decide_eq_true rfl], h.2⟩
      rintro _ w9 ⟨rfl, hb⟩
      simp only [Act.put, fl1, fl2, fl3]
      have hBw9 : Hid (Below w.heap.size w w9) := (hBw8.out).trans ((hb).mono (hBw8.out).size)
      have hLw9 : Hid (LogI w9 w.heap.size D mb Lg (dChk ps) (⟨ps, false⟩)) := (hLw8.out).below hb
      have hqw9 : Hid (PLr w9 vq (ps)) := (hqw8.out).below hb
      clear hBw8 hLw8 hqw8
      clear hb
      refine sg_run (by kernel_rfl) (.bool false) w9 (by kernel_rfl) ?_
      simp only [Act.put, fl1, fl2, fl3]
      refine sl_run rfl (.bool false) w9 (by kernel_rfl) ?_
      simp only [Act.put, fl1, fl2, fl3]
      refine wpList_nil ?_
      clear hqw9
      obtain ⟨er, her⟩ : ∃ e, e = (if ps = [] then 4 else 0) := ⟨_, rfl⟩
      have herH : Hid (er = if ps = [] then 4 else 0) := her
      have hrl : Hid ((dChk ps).read nLog = ([], er)) := by show _ = _; rw [her]; exact dChk_log ps
      obtain ⟨sf, se, hsn⟩ := dChk_snap ps hs2.out (Nat.le_trans hlenH.out (by decide))
      obtain ⟨sb, hsb⟩ : ∃ b, b = recsB 1 ps := ⟨_, rfl⟩
      have hsbb : Hid (∀ x ∈ sb, x < 256) := by rw [hsb]; exact recsB_byt ps 1 hpsH.out
      have hsbl : sb.length ≤ 4340 := by rw [hsb]; exact Nat.le_trans (recsB_len ps 1 hs2.out) (by have := hlenH.out; omega)
      rw [← hsb] at hsn
      have hrs : Hid ((dChk ps).read nSnap = (sb, 0)) := hsn.1
      have hsc : Hid (scan0 sb = (sf, ps, se)) := hsn.2
      clear her hsn hsb
      go_upto_region 18 with fail
      refine wp_region_lit ?_
      refine sl_run rfl (.pointer (some ⟨D, 0, none⟩)) w9 (by kernel_rfl) ?_
      simp only [Act.put, fl1, fl2, fl3]
      refine sg_call (by kernel_rfl) 20 #[.pointer (some ⟨D, 0, none⟩), .string nLog] (by kernel_rfl) (R := fun v w' => ∃ u, v = .tuple #[u, .int .i64 (er : Int)] ∧ Rw 1 encB w' u (([] : List Nat)) ∧ Below w9.heap.size w9 w') ?hlc8 ?_
      case hlc8 =>
        have h8 := Read_calls hLw9.out.disk nLog
        rw [hrl.out] at h8
        exact h8.mono fun e w' h => by
          obtain ⟨v, h1, h2, h3⟩ := h
          exact ⟨_, h1, v, rfl, h2, h3⟩
      rintro _ w10 ⟨r9, rfl, hr0, hb⟩
      simp only [Act.put, fl1, fl2, fl3]
      have hBw10 : Hid (Below w.heap.size w w10) := (hBw9.out).trans ((hb).mono (hBw9.out).size)
      have hLw10 : Hid (LogI w10 w.heap.size D mb Lg (dChk ps) (⟨ps, false⟩)) := (hLw9.out).below hb
      clear hBw9 hLw9
      obtain ⟨Alo, clo, rfl⟩ := hr0.form
      obtain ⟨nlo, hn5⟩ : ∃ k, k = (([] : List Nat)).length := ⟨_, rfl⟩
      rw [← hn5] at hr0 ⊢
      have hnlo : Hid (nlo = (([] : List Nat)).length) := hn5
      have hlow10 : Hid (Rw 1 encB w10 (.slice Alo nlo clo) (([] : List Nat))) := hr0
      clear hr0 hb hn5
      refine sl_run rfl (.tuple #[.slice Alo nlo clo, .int .i64 (er : Int)]) w10 (by kernel_rfl) ?_
      simp only [Act.put, fl1, fl2, fl3]
      refine sl_run rfl (.slice Alo nlo clo) w10 (by kernel_rfl) ?_
      simp only [Act.put, fl1, fl2, fl3]
      refine sl_run rfl (.int .i64 (er : Int)) w10 (by kernel_rfl) ?_
      simp only [Act.put, fl1, fl2, fl3]
      refine sl_run rfl (.slice Alo nlo clo) w10 (by kernel_rfl) ?_
      simp only [Act.put, fl1, fl2, fl3]
      refine sl_run rfl (.int .i64 (er : Int)) w10 (by kernel_rfl) ?_
      simp only [Act.put, fl1, fl2, fl3]
      refine wpList_nil ?_
      go_upto_region 19 with fail
      refine wp_region_lit ?_
      refine sl_run rfl (.pointer (some ⟨D, 0, none⟩)) w10 (by kernel_rfl) ?_
      simp only [Act.put, fl1, fl2, fl3]
      refine sg_call (by kernel_rfl) 20 #[.pointer (some ⟨D, 0, none⟩), .string nSnap] (by kernel_rfl) (R := fun v w' => ∃ u, v = .tuple #[u, .int .i64 ((0 : Nat) : Int)] ∧ Rw 1 encB w' u (sb) ∧ Below w10.heap.size w10 w') ?hlc9 ?_
      case hlc9 =>
        have h8 := Read_calls hLw10.out.disk nSnap
        rw [hrs.out] at h8
        exact h8.mono fun e w' h => by
          obtain ⟨v, h1, h2, h3⟩ := h
          exact ⟨_, h1, v, rfl, h2, h3⟩
      rintro _ w11 ⟨r9, rfl, hr0, hb⟩
      simp only [Act.put, fl1, fl2, fl3]
      have hBw11 : Hid (Below w.heap.size w w11) := (hBw10.out).trans ((hb).mono (hBw10.out).size)
      have hLw11 : Hid (LogI w11 w.heap.size D mb Lg (dChk ps) (⟨ps, false⟩)) := (hLw10.out).below hb
      have hlow11 : Hid (Rw 1 encB w11 (.slice Alo nlo clo) (([] : List Nat))) := (hlow10.out).below hb
      clear hBw10 hLw10 hlow10
      obtain ⟨Asn, csn, rfl⟩ := hr0.form
      obtain ⟨nsn, hn5⟩ : ∃ k, k = (sb).length := ⟨_, rfl⟩
      rw [← hn5] at hr0 ⊢
      have hnsn : Hid (nsn = (sb).length) := hn5
      have hsnw11 : Hid (Rw 1 encB w11 (.slice Asn nsn csn) (sb)) := hr0
      clear hr0 hb hn5
      refine sl_run rfl (.tuple #[.slice Asn nsn csn, .int .i64 ((0 : Nat) : Int)]) w11 (by kernel_rfl) ?_
      simp only [Act.put, fl1, fl2, fl3]
      refine sl_run rfl (.slice Asn nsn csn) w11 (by kernel_rfl) ?_
      simp only [Act.put, fl1, fl2, fl3]
      refine sl_run rfl (.int .i64 ((0 : Nat) : Int)) w11 (by kernel_rfl) ?_
      simp only [Act.put, fl1, fl2, fl3]
      refine sl_run rfl (.slice Asn nsn csn) w11 (by kernel_rfl) ?_
      simp only [Act.put, fl1, fl2, fl3]
      refine sl_run rfl (.int .i64 ((0 : Nat) : Int)) w11 (by kernel_rfl) ?_
      simp only [Act.put, fl1, fl2, fl3]
      refine wpList_nil ?_
      go_upto_region 20 with fail
      refine wp_region_lit ?_
      refine sl_run rfl (.slice Asn nsn csn) w11 (by kernel_rfl) ?_
      simp only [Act.put, fl1, fl2, fl3]
      refine sg_call (by kernel_rfl) 12 #[.slice Asn nsn csn] (by kernel_rfl) (R := fun v w' => ∃ u, v = .tuple #[.int .i64 (sf : Int), u, .int .i64 (se : Int)] ∧ PLo w' w11.heap.size u ps ∧ Below w11.heap.size w11 w') ?hlc10 ?_
      case hlc10 =>
        have h8 := Scan_calls sb hsbb.out Asn nsn csn hnsn.out (by have := hnsn.out; omega) w11 hsnw11.out
        rw [hsc.out] at h8
        exact h8.mono fun e w' h => by
          obtain ⟨v, h1, h2, h3⟩ := h
          exact ⟨_, h1, v, rfl, h2, h3⟩
      rintro _ w12 ⟨r9, rfl, hr0, hb⟩
      simp only [Act.put, fl1, fl2, fl3]
      have hr1 := hr0.mono hBw11.out.size
      have hBw12 : Hid (Below w.heap.size w w12) := (hBw11.out).trans ((hb).mono (hBw11.out).size)
      have hLw12 : Hid (LogI w12 w.heap.size D mb Lg (dChk ps) (⟨ps, false⟩)) := (hLw11.out).below hb
      have hlow12 : Hid (Rw 1 encB w12 (.slice Alo nlo clo) (([] : List Nat))) := (hlow11.out).below hb
      have hsnw12 : Hid (Rw 1 encB w12 (.slice Asn nsn csn) (sb)) := (hsnw11.out).below hb
      clear hBw11 hLw11 hlow11 hsnw11
      obtain ⟨Aal, cal, rfl⟩ := hr1.form
      obtain ⟨nal, hn5⟩ : ∃ k, k = (ps).length := ⟨_, rfl⟩
      rw [← hn5] at hr1 ⊢
      have hnal : Hid (nal = (ps).length) := hn5
      have halw12 : Hid (PLo w12 w.heap.size (.slice Aal nal cal) (ps)) := hr1
      clear hr0 hr1 hb hn5
      refine sl_run rfl (.tuple #[.int .i64 (sf : Int), .slice Aal nal cal, .int .i64 (se : Int)]) w12 (by kernel_rfl) ?_
      simp only [Act.put, fl1, fl2, fl3]
      refine sl_run rfl (.int .i64 (sf : Int)) w12 (by kernel_rfl) ?_
      simp only [Act.put, fl1, fl2, fl3]
      refine sl_run rfl (.slice Aal nal cal) w12 (by kernel_rfl) ?_
      simp only [Act.put, fl1, fl2, fl3]
      refine sl_run rfl (.int .i64 (se : Int)) w12 (by kernel_rfl) ?_
      simp only [Act.put, fl1, fl2, fl3]
      refine sl_run rfl (.int .i64 (sf : Int)) w12 (by kernel_rfl) ?_
      simp only [Act.put, fl1, fl2, fl3]
      refine sl_run rfl (.slice Aal nal cal) w12 (by kernel_rfl) ?_
      simp only [Act.put, fl1, fl2, fl3]
      refine sl_run rfl (.int .i64 (se : Int)) w12 (by kernel_rfl) ?_
      simp only [Act.put, fl1, fl2, fl3]
      refine wpList_nil ?_
      have hal2w12 : Hid (PLr w12 (.slice Aal nal cal) ps) := halw12.out.read
      have hnl0 : nlo = 0 := hnlo.out
      clear halw12 hlow12 hsnw12
      by_cases hn0 : n = 0
      case pos =>
          go_upto_region 21 with fail
          refine wp_region_lit ?_
          refine sl_run rfl (.slice A n c) w12 (by kernel_rfl) ?_
          simp only [Act.put, fl1, fl2, fl3]
          refine sl_run rfl (.int .i64 (n : Int)) w12 (by kernel_rfl) ?_
          simp only [Act.put, fl1, fl2, fl3]
          refine sl_run rfl (.bool false) w12 (exec_gtr _ _ _ rfl (n : Int) 0 (by kernel_rfl) (by kernel_rfl) false (decide_eq_false (by omega))) ?_
          simp only [Act.put, fl1, fl2, fl3]
          refine sl_run rfl (.bool false) w12 (by kernel_rfl) ?_
          simp only [Act.put, fl1, fl2, fl3]
          rw [wpList, if_neg (by rw [show Region.wanted _ _ = false by kernel_rfl]; decide)]
          simp only [Act.put, fl1, fl2, fl3]
          rw [wpList, if_neg (by rw [show Region.wanted _ _ = false by kernel_rfl]; decide)]
          simp only [Act.put, fl1, fl2, fl3]
          rw [wpList, if_neg (by rw [show Region.wanted _ _ = false by kernel_rfl]; decide)]
          simp only [Act.put, fl1, fl2, fl3]
          rw [wpList, if_neg (by rw [show Region.wanted _ _ = false by kernel_rfl]; decide)]
          simp only [Act.put, fl1, fl2, fl3]
          rw [wpList, if_neg (by rw [show Region.wanted _ _ = false by kernel_rfl]; decide)]
          simp only [Act.put, fl1, fl2, fl3]
          rw [wpList, if_neg (by rw [show Region.wanted _ _ = false by kernel_rfl]; decide)]
          simp only [Act.put, fl1, fl2, fl3]
          rw [wpList, if_neg (by rw [show Region.wanted _ _ = false by kernel_rfl]; decide)]
          simp only [Act.put, fl1, fl2, fl3]
          refine sl_run rfl (.bool false) w12 (by kernel_rfl) ?_
          simp only [Act.put, fl1, fl2, fl3]
          refine sl_run rfl (.bool false) w12 (by kernel_rfl) ?_
          simp only [Act.put, fl1, fl2, fl3]
          refine sg_run (by kernel_rfl) (.int .i64 ((0 : Nat) : Int)) w12 (by kernel_rfl) ?_
          simp only [Act.put, fl1, fl2, fl3]
          refine sg_run (by kernel_rfl) (.bool false) w12 (by kernel_rfl) ?_
          simp only [Act.put, fl1, fl2, fl3]
          refine sl_run rfl (.bool false) w12 (by kernel_rfl) ?_
          simp only [Act.put, fl1, fl2, fl3]
          refine sl_run rfl (.bool false) w12 (by kernel_rfl) ?_
          simp only [Act.put, fl1, fl2, fl3]
          refine sg_run (by kernel_rfl) (.slice Aal nal cal) w12 (by kernel_rfl) ?_
          simp only [Act.put, fl1, fl2, fl3]
          refine sg_run (by kernel_rfl) (.slice A n c) w12 (by kernel_rfl) ?_
          simp only [Act.put, fl1, fl2, fl3]
          refine sg_call (by kernel_rfl) 14 #[.slice Aal nal cal, .slice A n c] (by kernel_rfl) (R := fun v w' => v = .bool true ∧ Below w12.heap.size w12 w') ?hlc11 ?_
          case hlc11 =>
            exact (Same_calls (ps) (ps) hpsH.out hpsH.out _ _ (Nat.le_trans hlenH.out (by decide)) (Nat.le_trans hlenH.out (by decide)) w12 hal2w12.out (hp0.out.below hBw12.out)).mono fun e w' h => ⟨_, h.1, by rw [decide_eq_true rfl], h.2⟩
          rintro _ w13 ⟨rfl, hb⟩
          simp only [Act.put, fl1, fl2, fl3]
          have hBw13 : Hid (Below w.heap.size w w13) := (hBw12.out).trans ((hb).mono (hBw12.out).size)
          have hLw13 : Hid (LogI w13 w.heap.size D mb Lg (dChk ps) (⟨ps, false⟩)) := (hLw12.out).below hb
          have hal2w13 : Hid (PLr w13 (.slice Aal nal cal) ps) := (hal2w12.out).below hb
          clear hBw12 hLw12 hal2w12
          clear hb
          refine sg_run (by kernel_rfl) (.bool false) w13 (by kernel_rfl) ?_
          simp only [Act.put, fl1, fl2, fl3]
          refine sl_run rfl (.bool false) w13 (by kernel_rfl) ?_
          simp only [Act.put, fl1, fl2, fl3]
          refine wpList_nil ?_
          clear hal2w13 hrl hrs hsc hsbb herH hnlo hnsn hnal
          go_upto_region 23 with fail
          refine wp_region_lit ?_
          refine sl_run rfl (.pointer (some ⟨Lg, 0, none⟩)) w13 (by kernel_rfl) ?_
          simp only [Act.put, fl1, fl2, fl3]
          refine sl_run rfl (.slice (some ⟨w13.heap.size, 0, none⟩) 0 0) (w13.alloc (.cells #[] 5)) (by kernel_rfl) ?_
          simp only [Act.put, fl1, fl2, fl3]
          generalize hX : w13.alloc (.cells #[] 5) = w14
          have hqw14 : Hid (Below w13.heap.size w13 w14) := by rw [← hX]; exact (Below.refl _ _).alloc (Nat.le_refl _) _
          obtain ⟨E0, hE⟩ : ∃ E, E = w13.heap.size := ⟨_, rfl⟩
          have ho9 : w14.ownsRow w13.heap.size 5 1 (.slice (some ⟨E0, 0, none⟩) 0 0) ([] : List Nat).length (vals ([] : List Nat)) := by
            rw [← hX, hE]; exact World.ownsRow_made _ _ 0 (Nat.le_refl _) (by decide) rfl
          rw [← hE]
          clear hX hE
          have hOw14 : Hid (w14.ownsRow w13.heap.size 5 1 (.slice (some ⟨E0, 0, none⟩) 0 0) ([] : List Nat).length (vals ([] : List Nat))) := ho9
          clear ho9
          refine sl_run rfl (.slice A2 m2 c2) w14 (by kernel_rfl) ?_
          simp only [Act.put, fl1, fl2, fl3]
          refine Sha.append22 rfl _ _ rfl (w13.heap.size) (.slice (some ⟨E0, 0, none⟩) 0 0) ([] : List Nat) (m) (by kernel_rfl) hOw14.out (.slice A2 m2 c2) (by kernel_rfl) (rw_bytes.1 (hz0.out.below (hBw13.out.trans (hqw14.out.mono hBw13.out.size)))) (by have := hm2H.out; have := hmlH.out; simp; omega) hqw14.out.size ?_
          intro vv w15 hO9 hg9 _
          simp only [Act.put, fl1, fl2, fl3]
          have hb : Below w13.heap.size w13 w15 := hqw14.out.grown hg9 hqw14.out.size (fun q hq => (hOw14.out.lt q hq).1)
          obtain ⟨Ax, cx, hv9⟩ : ∃ A c, vv = .slice A m2 c := own_formq hO9 (by have := hm2H.out; simp; omega)
          subst hv9
          have hcp9 : Rw 1 encB w15 (.slice Ax m2 cx) (m) := by have h8 := own_rw hO9; rwa [List.nil_append] at h8
          clear hO9 hg9 hOw14 hqw14
          have hBw15 : Hid (Below w.heap.size w w15) := (hBw13.out).trans ((hb).mono (hBw13.out).size)
          have hLw15 : Hid (LogI w15 w.heap.size D mb Lg (dChk ps) (⟨ps, false⟩)) := (hLw13.out).below hb
          clear hBw13 hLw13
          have hxw15 : Hid (Rw 1 encB w15 (.slice Ax m2 cx) (m)) := hcp9
          clear hcp9 hb
          refine sg_call (by kernel_rfl) 17 #[.pointer (some ⟨Lg, 0, none⟩), .slice Ax m2 cx] (by kernel_rfl) (R := fun v w' => v = .int .i64 0 ∧ LogI w' w.heap.size D mb Lg (dMore ps m) (⟨ps ++ [m], false⟩) ∧ Below w.heap.size w15 w') ?hlc12 ?_
          case hlc12 =>
            have h8 := LAppend_calls hLw15.out (Nat.le_trans hlenH.out (by decide)) m hmH.out Ax m2 cx hm2H.out (by have := hm2H.out; have := hmlH.out; omega) hxw15.out
            rw [dChk_app ps m hmlH.out] at h8
            exact h8.mono fun e w' h => ⟨_, h.1, rfl, h.2⟩
          rintro _ w16 ⟨rfl, hL0, hb⟩
          simp only [Act.put, fl1, fl2, fl3]
          have hLw16 : Hid (LogI w16 w.heap.size D mb Lg (dMore ps m) (⟨ps ++ [m], false⟩)) := hL0
          have hBw16 : Hid (Below w.heap.size w w16) := hBw15.out.trans hb
          clear hL0 hb hBw15 hLw15 hxw15
          refine sl_run rfl (.bool false) w16 (by kernel_rfl) ?_
          simp only [Act.put, fl1, fl2, fl3]
          refine wpList_nil ?_
          go_upto_region 25 with fail
          refine wp_region_lit ?_
          refine sl_run rfl (.pointer (some ⟨D, 0, none⟩)) w16 (by kernel_rfl) ?_
          simp only [Act.put, fl1, fl2, fl3]
          refine sg_call (by kernel_rfl) 21 #[.pointer (some ⟨D, 0, none⟩), .int .i64 0] (by kernel_rfl) (R := fun v w' => v = .tuple #[] ∧ DiskI w' D mb (dMore ps m) ∧ KpS (TD D mb) w16 w') ?hlc13 ?_
          case hlc13 =>
            have h8 := Crash_calls hLw16.out.disk 0 (by decide)
            rw [dMore_crash ps m] at h8
            exact h8.mono fun e w' h => ⟨_, h.1, rfl, h.2⟩
          rintro _ w17 ⟨rfl, hD0, hk⟩
          simp only [Act.put, fl1, fl2, fl3]
          have hDw17 : Hid (DiskI w17 D mb (dMore ps m)) := hD0
          have hBw17 : Hid (Below w.heap.size w w17) := hBw16.out.trans (hk.bel (fun k hs => by rcases hs with rfl | rfl; exact hlo.out.1; exact hlo.out.2) hBw16.out.size)
          clear hD0 hk hBw16 hLw16
          refine wpList_nil ?_
          go_upto_region 26 with fail
          refine wp_region_lit ?_
          refine sl_run rfl (.pointer (some ⟨D, 0, none⟩)) w17 (by kernel_rfl) ?_
          simp only [Act.put, fl1, fl2, fl3]
          refine sg_call (by kernel_rfl) 16 #[.pointer (some ⟨D, 0, none⟩)] (by kernel_rfl) (R := fun v w' => ∃ Lg, v = .tuple #[.pointer (some ⟨Lg, 0, none⟩), .int .i64 0] ∧ LogI w' w.heap.size D mb Lg (dMore ps m) ⟨ps ++ [m], false⟩ ∧ KpS (TD D mb) w17 w') ?hlc14 ?_
          case hlc14 =>
            have h8 := Open_calls hDw17.out (DB.dMore ps m hpsH.out hmH.out)
            rw [dMore_open ps m hs2.out hmlH.out (Nat.le_trans hlenH.out (by decide))] at h8
            exact h8.mono fun e w' h => by
              obtain ⟨Lg, h1, h2, h3⟩ := h.log rfl (B := w.heap.size) hlo.out.1 hlo.out.2 hBw17.out.size
              exact ⟨_, h1, Lg, rfl, h2, h3⟩
          rintro _ w18 ⟨Lv, rfl, hL0, hk⟩
          simp only [Act.put, fl1, fl2, fl3]
          have hLw18 : Hid (LogI w18 w.heap.size D mb Lv (dMore ps m) ⟨ps ++ [m], false⟩) := hL0
          have hBw18 : Hid (Below w.heap.size w w18) := hBw17.out.trans (hk.bel (fun k hs => by rcases hs with rfl | rfl; exact hlo.out.1; exact hlo.out.2) hBw17.out.size)
          clear hL0 hk hBw17 hDw17
          refine sl_run rfl (.tuple #[.pointer (some ⟨Lv, 0, none⟩), .int .i64 0]) w18 (by kernel_rfl) ?_
          simp only [Act.put, fl1, fl2, fl3]
          refine sl_run rfl (.pointer (some ⟨Lv, 0, none⟩)) w18 (by kernel_rfl) ?_
          simp only [Act.put, fl1, fl2, fl3]
          refine sl_run rfl (.int .i64 0) w18 (by kernel_rfl) ?_
          simp only [Act.put, fl1, fl2, fl3]
          refine sl_run rfl (.pointer (some ⟨Lv, 0, none⟩)) w18 (by kernel_rfl) ?_
          simp only [Act.put, fl1, fl2, fl3]
          refine sl_run rfl (.int .i64 0) w18 (by kernel_rfl) ?_
          simp only [Act.put, fl1, fl2, fl3]
          refine wpList_nil ?_
          go_upto_region 27 with fail
          refine wp_region_lit ?_
          refine sl_run rfl (.int .i64 0) w18 (by kernel_rfl) ?_
          simp only [Act.put, fl1, fl2, fl3]
          refine sl_run rfl (.bool true) w18 (by kernel_rfl) ?_
          simp only [Act.put, fl1, fl2, fl3]
          refine sl_run rfl (.bool true) w18 (by kernel_rfl) ?_
          simp only [Act.put, fl1, fl2, fl3]
          refine sg_run (by kernel_rfl) (.pointer (some ⟨Lv, 0, none⟩)) w18 (by kernel_rfl) ?_
          simp only [Act.put, fl1, fl2, fl3]
          refine sg_call (by kernel_rfl) 19 #[.pointer (some ⟨Lv, 0, none⟩)] (by kernel_rfl) (R := fun v w' => PLo w' w18.heap.size v (ps ++ [m]) ∧ Below w18.heap.size w18 w') ?hlc15 ?_
          case hlc15 =>
            exact (All_calls hLw18.out (by have := hlenH.out; simp; omega) (fun p hp => by rcases List.mem_append.1 hp with hp | hp; exact Nat.le_trans (hs2.out p hp) (by decide); rw [List.mem_singleton.1 hp]; exact Nat.le_trans hmlH.out (by decide))).mono fun e w' h => by
              obtain ⟨v, h1, h2, h3⟩ := h
              exact ⟨v, h1, h2, h3⟩
          rintro vq w19 ⟨hr0, hb⟩
          simp only [Act.put, fl1, fl2, fl3]
          have hr1 := hr0.read
          have hBw19 : Hid (Below w.heap.size w w19) := (hBw18.out).trans ((hb).mono (hBw18.out).size)
          have hLw19 : Hid (LogI w19 w.heap.size D mb Lv (dMore ps m) (⟨ps ++ [m], false⟩)) := (hLw18.out).below hb
          clear hBw18 hLw18
          have hqw19 : Hid (PLr w19 vq (ps ++ [m])) := hr1
          clear hr0 hr1 hb
          have hq8w19 := hqw19
          clear hqw19
          refine sg_run (by kernel_rfl) (.slice (some ⟨w19.heap.size, 0, none⟩) 0 0) (w19.alloc (.cells #[] 22)) (by kernel_rfl) ?_
          simp only [Act.put, fl1, fl2, fl3]
          generalize hX : w19.alloc (.cells #[] 22) = w20
          have hqw20 : Hid (Below w19.heap.size w19 w20) := by rw [← hX]; exact (Below.refl _ _).alloc (Nat.le_refl _) _
          obtain ⟨E0, hE⟩ : ∃ E, E = w19.heap.size := ⟨_, rfl⟩
          have hOw20 : Hid (PLq w19 w20 (.slice (some ⟨E0, 0, none⟩) 0 0) []) := by
            rw [← hX, hE]; exact PLq.made w19
          rw [← hE]
          clear hX hE
          refine sg_run (by kernel_rfl) (.slice A n c) w20 (by kernel_rfl) ?_
          simp only [Act.put, fl1, fl2, fl3]
          obtain ⟨va, w21, hea, hOa, hqa⟩ := PLq.app (.tmp 123) (.tmp 124) hOw20.out hqw20.out (.slice A n c) (ps) ((hp0.out.below hBw19.out).old hqw20.out) (by have := hlenH.out; simp; omega)
          refine sg_run (by kernel_rfl) va w21 (hea rfl (by kernel_rfl) (by kernel_rfl)) ?_
          simp only [Act.put, fl1, fl2, fl3]
          have hOw21 : Hid (PLq w19 w21 va ([] ++ ps)) := hOa
          have hqw21 : Hid (Below w19.heap.size w19 w21) := hqa
          clear hea hOa hqa hOw20 hqw20
          refine sg_run (by kernel_rfl) (.slice A2 m2 c2) w21 (by kernel_rfl) ?_
          simp only [Act.put, fl1, fl2, fl3]
          refine sg_run (by kernel_rfl) (.slice (some ⟨w21.heap.size, 0, none⟩) 1 1) (w21.alloc (.cells #[.slice A2 m2 c2] 22)) (by kernel_rfl) ?_
          simp only [Act.put, fl1, fl2, fl3]
          generalize hX : w21.alloc (.cells #[.slice A2 m2 c2] 22) = w22
          have hb : Below w21.heap.size w21 w22 := by rw [← hX]; exact (Below.refl _ _).alloc (Nat.le_refl _) _
          obtain ⟨El, hE⟩ : ∃ E, E = w21.heap.size := ⟨_, rfl⟩
          have hc9 : w22.heap[El]? = some (.cells #[.slice A2 m2 c2] 22 (0, 0)) := by rw [← hX, hE]; exact heap_alloc_new _ _
          rw [← hE]
          clear hX hE
          have hqw22 : Hid (Below w19.heap.size w19 w22) := hqw21.out.trans (hb.mono hqw21.out.size)
          have hOw22 : Hid (PLq w19 w22 va ([] ++ ps)) := hOw21.out.below hb
          have hcw22 : Hid (w22.heap[El]? = some (.cells #[.slice A2 m2 c2] 22 (0, 0))) := hc9
          clear hc9 hb hOw21 hqw21
          obtain ⟨vb, w23, hea, hOa, hqa⟩ := PLq.app (.tmp 125) (.tmp 127) hOw22.out hqw22.out (.slice (some ⟨El, 0, none⟩) 1 1) ([m]) (PLr.one (hcw22.out) (hz0.out.below hBw19.out)) (by have := hlenH.out; simp; omega)
          refine sg_run (by kernel_rfl) vb w23 (hea rfl (by kernel_rfl) (by kernel_rfl)) ?_
          simp only [Act.put, fl1, fl2, fl3]
          have hOw23 : Hid (PLq w19 w23 vb (([] ++ ps) ++ [m])) := hOa
          have hqw23 : Hid (Below w19.heap.size w19 w23) := hqa
          clear hea hOa hqa hOw22 hqw22
          have hb : Below w19.heap.size w19 w23 := hqw23.out
          have hr9 : PLr w23 vb (ps ++ [m]) := by have h8 := hOw23.out.read hb; rwa [List.nil_append] at h8
          clear hOw23 hqw23
          have hBw23 : Hid (Below w.heap.size w w23) := (hBw19.out).trans ((hb).mono (hBw19.out).size)
          have hLw23 : Hid (LogI w23 w.heap.size D mb Lv (dMore ps m) (⟨ps ++ [m], false⟩)) := (hLw19.out).below hb
          have hq8w23 : Hid (PLr w23 vq (ps ++ [m])) := (hq8w19.out).below hb
          clear hBw19 hLw19 hq8w19
          have hyw23 : Hid (PLr w23 vb (ps ++ [m])) := hr9
          clear hr9 hb
          refine sg_call (by kernel_rfl) 14 #[vq, vb] (by kernel_rfl) (R := fun v w' => v = .bool true ∧ Below w23.heap.size w23 w') ?hlc16 ?_
          case hlc16 =>
            exact (Same_calls (ps ++ [m]) (ps ++ [m]) (by intro p hp; rcases List.mem_append.1 hp with hp | hp; exact hpsH.out p hp; rw [List.mem_singleton.1 hp]; exact hmH.out) (by intro p hp; rcases List.mem_append.1 hp with hp | hp; exact hpsH.out p hp; rw [List.mem_singleton.1 hp]; exact hmH.out) _ _ (by have := hlenH.out; simp; omega) (by have := hlenH.out; simp; omega) w23 hq8w23.out hyw23.out).mono fun e w' h => ⟨_, h.1, by rw [decide_eq_true rfl], h.2⟩
          rintro _ w24 ⟨rfl, hb⟩
          simp only [Act.put, fl1, fl2, fl3]
          have hBw24 : Hid (Below w.heap.size w w24) := (hBw23.out).trans ((hb).mono (hBw23.out).size)
          have hLw24 : Hid (LogI w24 w.heap.size D mb Lv (dMore ps m) (⟨ps ++ [m], false⟩)) := (hLw23.out).below hb
          have hq8w24 : Hid (PLr w24 vq (ps ++ [m])) := (hq8w23.out).below hb
          have hyw24 : Hid (PLr w24 vb (ps ++ [m])) := (hyw23.out).below hb
          clear hBw23 hLw23 hq8w23 hyw23
          clear hb
          refine sl_run rfl (.bool true) w24 (by kernel_rfl) ?_
          simp only [Act.put, fl1, fl2, fl3]
          refine sl_run rfl (.bool true) w24 (by kernel_rfl) ?_
          simp only [Act.put, fl1, fl2, fl3]
          refine wpList_nil ?_
          have hF := hBw24
          clear hBw24 hLw24 hq8w24 hyw24 hp0 hz0 hnH hm2H hpsH hmH hlenH hs2 hmlH hlo
          go_wp2_with fail
          go_ret
          exact ⟨rfl, hF.out⟩
      case neg =>
      have her0 : er = 0 := by rw [herH.out, if_neg (fun e => hn0 (by rw [hnH.out, e]; rfl))]
      go_upto_region 21 with fail
      refine wp_region_lit ?_
      refine sl_run rfl (.slice A n c) w12 (by kernel_rfl) ?_
      simp only [Act.put, fl1, fl2, fl3]
      refine sl_run rfl (.int .i64 (n : Int)) w12 (by kernel_rfl) ?_
      simp only [Act.put, fl1, fl2, fl3]
      refine sl_run rfl (.bool true) w12 (exec_gtr _ _ _ rfl (n : Int) 0 (by kernel_rfl) (by kernel_rfl) true (decide_eq_true (by omega))) ?_
      simp only [Act.put, fl1, fl2, fl3]
      refine sl_run rfl (.bool true) w12 (by kernel_rfl) ?_
      simp only [Act.put, fl1, fl2, fl3]
      refine sg_run (by kernel_rfl) (.int .i64 (er : Int)) w12 (by kernel_rfl) ?_
      simp only [Act.put, fl1, fl2, fl3]
      refine sg_run (by kernel_rfl) (.bool false) w12 (exec_nen _ _ _ rfl er 0 (by kernel_rfl) (by kernel_rfl) false (decide_eq_false (by omega))) ?_
      simp only [Act.put, fl1, fl2, fl3]
      refine sg_run (by kernel_rfl) (.bool false) w12 (by kernel_rfl) ?_
      simp only [Act.put, fl1, fl2, fl3]
      refine sg_run (by kernel_rfl) (.slice Alo nlo clo) w12 (by kernel_rfl) ?_
      simp only [Act.put, fl1, fl2, fl3]
      refine sg_run (by kernel_rfl) (.int .i64 (nlo : Int)) w12 (by kernel_rfl) ?_
      simp only [Act.put, fl1, fl2, fl3]
      refine sg_run (by kernel_rfl) (.bool false) w12 (exec_neI _ _ _ rfl (nlo : Int) 0 (by kernel_rfl) (by kernel_rfl) false (by rw [hnl0]; rfl)) ?_
      simp only [Act.put, fl1, fl2, fl3]
      refine sg_run (by kernel_rfl) (.bool false) w12 (by kernel_rfl) ?_
      simp only [Act.put, fl1, fl2, fl3]
      refine sl_run rfl (.bool false) w12 (by kernel_rfl) ?_
      simp only [Act.put, fl1, fl2, fl3]
      refine sl_run rfl (.bool false) w12 (by kernel_rfl) ?_
      simp only [Act.put, fl1, fl2, fl3]
      refine sg_run (by kernel_rfl) (.int .i64 ((0 : Nat) : Int)) w12 (by kernel_rfl) ?_
      simp only [Act.put, fl1, fl2, fl3]
      refine sg_run (by kernel_rfl) (.bool false) w12 (by kernel_rfl) ?_
      simp only [Act.put, fl1, fl2, fl3]
      refine sl_run rfl (.bool false) w12 (by kernel_rfl) ?_
      simp only [Act.put, fl1, fl2, fl3]
      refine sl_run rfl (.bool false) w12 (by kernel_rfl) ?_
      simp only [Act.put, fl1, fl2, fl3]
      refine sg_run (by kernel_rfl) (.slice Aal nal cal) w12 (by kernel_rfl) ?_
      simp only [Act.put, fl1, fl2, fl3]
      refine sg_run (by kernel_rfl) (.slice A n c) w12 (by kernel_rfl) ?_
      simp only [Act.put, fl1, fl2, fl3]
      refine sg_call (by kernel_rfl) 14 #[.slice Aal nal cal, .slice A n c] (by kernel_rfl) (R := fun v w' => v = .bool true ∧ Below w12.heap.size w12 w') ?hlc17 ?_
      case hlc17 =>
        exact (Same_calls (ps) (ps) hpsH.out hpsH.out _ _ (Nat.le_trans hlenH.out (by decide)) (Nat.le_trans hlenH.out (by decide)) w12 hal2w12.out (hp0.out.below hBw12.out)).mono fun e w' h => ⟨_, h.1, by rw [decide_eq_true rfl], h.2⟩
      rintro _ w25 ⟨rfl, hb⟩
      simp only [Act.put, fl1, fl2, fl3]
      have hBw25 : Hid (Below w.heap.size w w25) := (hBw12.out).trans ((hb).mono (hBw12.out).size)
      have hLw25 : Hid (LogI w25 w.heap.size D mb Lg (dChk ps) (⟨ps, false⟩)) := (hLw12.out).below hb
      have hal2w25 : Hid (PLr w25 (.slice Aal nal cal) ps) := (hal2w12.out).below hb
      clear hBw12 hLw12 hal2w12
      clear hb
      refine sg_run (by kernel_rfl) (.bool false) w25 (by kernel_rfl) ?_
      simp only [Act.put, fl1, fl2, fl3]
      refine sl_run rfl (.bool false) w25 (by kernel_rfl) ?_
      simp only [Act.put, fl1, fl2, fl3]
      refine wpList_nil ?_
      clear hal2w25 hrl hrs hsc hsbb herH hnlo hnsn hnal her0
      go_upto_region 23 with fail
      refine wp_region_lit ?_
      refine sl_run rfl (.pointer (some ⟨Lg, 0, none⟩)) w25 (by kernel_rfl) ?_
      simp only [Act.put, fl1, fl2, fl3]
      refine sl_run rfl (.slice (some ⟨w25.heap.size, 0, none⟩) 0 0) (w25.alloc (.cells #[] 5)) (by kernel_rfl) ?_
      simp only [Act.put, fl1, fl2, fl3]
      generalize hX : w25.alloc (.cells #[] 5) = w26
      have hqw26 : Hid (Below w25.heap.size w25 w26) := by rw [← hX]; exact (Below.refl _ _).alloc (Nat.le_refl _) _
      obtain ⟨E0, hE⟩ : ∃ E, E = w25.heap.size := ⟨_, rfl⟩
      have ho9 : w26.ownsRow w25.heap.size 5 1 (.slice (some ⟨E0, 0, none⟩) 0 0) ([] : List Nat).length (vals ([] : List Nat)) := by
        rw [← hX, hE]; exact World.ownsRow_made _ _ 0 (Nat.le_refl _) (by decide) rfl
      rw [← hE]
      clear hX hE
      have hOw26 : Hid (w26.ownsRow w25.heap.size 5 1 (.slice (some ⟨E0, 0, none⟩) 0 0) ([] : List Nat).length (vals ([] : List Nat))) := ho9
      clear ho9
      refine sl_run rfl (.slice A2 m2 c2) w26 (by kernel_rfl) ?_
      simp only [Act.put, fl1, fl2, fl3]
      refine Sha.append22 rfl _ _ rfl (w25.heap.size) (.slice (some ⟨E0, 0, none⟩) 0 0) ([] : List Nat) (m) (by kernel_rfl) hOw26.out (.slice A2 m2 c2) (by kernel_rfl) (rw_bytes.1 (hz0.out.below (hBw25.out.trans (hqw26.out.mono hBw25.out.size)))) (by have := hm2H.out; have := hmlH.out; simp; omega) hqw26.out.size ?_
      intro vv w27 hO9 hg9 _
      simp only [Act.put, fl1, fl2, fl3]
      have hb : Below w25.heap.size w25 w27 := hqw26.out.grown hg9 hqw26.out.size (fun q hq => (hOw26.out.lt q hq).1)
      obtain ⟨Ax, cx, hv9⟩ : ∃ A c, vv = .slice A m2 c := own_formq hO9 (by have := hm2H.out; simp; omega)
      subst hv9
      have hcp9 : Rw 1 encB w27 (.slice Ax m2 cx) (m) := by have h8 := own_rw hO9; rwa [List.nil_append] at h8
      clear hO9 hg9 hOw26 hqw26
      have hBw27 : Hid (Below w.heap.size w w27) := (hBw25.out).trans ((hb).mono (hBw25.out).size)
      have hLw27 : Hid (LogI w27 w.heap.size D mb Lg (dChk ps) (⟨ps, false⟩)) := (hLw25.out).below hb
      clear hBw25 hLw25
      have hxw27 : Hid (Rw 1 encB w27 (.slice Ax m2 cx) (m)) := hcp9
      clear hcp9 hb
      refine sg_call (by kernel_rfl) 17 #[.pointer (some ⟨Lg, 0, none⟩), .slice Ax m2 cx] (by kernel_rfl) (R := fun v w' => v = .int .i64 0 ∧ LogI w' w.heap.size D mb Lg (dMore ps m) (⟨ps ++ [m], false⟩) ∧ Below w.heap.size w27 w') ?hlc18 ?_
      case hlc18 =>
        have h8 := LAppend_calls hLw27.out (Nat.le_trans hlenH.out (by decide)) m hmH.out Ax m2 cx hm2H.out (by have := hm2H.out; have := hmlH.out; omega) hxw27.out
        rw [dChk_app ps m hmlH.out] at h8
        exact h8.mono fun e w' h => ⟨_, h.1, rfl, h.2⟩
      rintro _ w28 ⟨rfl, hL0, hb⟩
      simp only [Act.put, fl1, fl2, fl3]
      have hLw28 : Hid (LogI w28 w.heap.size D mb Lg (dMore ps m) (⟨ps ++ [m], false⟩)) := hL0
      have hBw28 : Hid (Below w.heap.size w w28) := hBw27.out.trans hb
      clear hL0 hb hBw27 hLw27 hxw27
      refine sl_run rfl (.bool false) w28 (by kernel_rfl) ?_
      simp only [Act.put, fl1, fl2, fl3]
      refine wpList_nil ?_
      go_upto_region 25 with fail
      refine wp_region_lit ?_
      refine sl_run rfl (.pointer (some ⟨D, 0, none⟩)) w28 (by kernel_rfl) ?_
      simp only [Act.put, fl1, fl2, fl3]
      refine sg_call (by kernel_rfl) 21 #[.pointer (some ⟨D, 0, none⟩), .int .i64 0] (by kernel_rfl) (R := fun v w' => v = .tuple #[] ∧ DiskI w' D mb (dMore ps m) ∧ KpS (TD D mb) w28 w') ?hlc19 ?_
      case hlc19 =>
        have h8 := Crash_calls hLw28.out.disk 0 (by decide)
        rw [dMore_crash ps m] at h8
        exact h8.mono fun e w' h => ⟨_, h.1, rfl, h.2⟩
      rintro _ w29 ⟨rfl, hD0, hk⟩
      simp only [Act.put, fl1, fl2, fl3]
      have hDw29 : Hid (DiskI w29 D mb (dMore ps m)) := hD0
      have hBw29 : Hid (Below w.heap.size w w29) := hBw28.out.trans (hk.bel (fun k hs => by rcases hs with rfl | rfl; exact hlo.out.1; exact hlo.out.2) hBw28.out.size)
      clear hD0 hk hBw28 hLw28
      refine wpList_nil ?_
      go_upto_region 26 with fail
      refine wp_region_lit ?_
      refine sl_run rfl (.pointer (some ⟨D, 0, none⟩)) w29 (by kernel_rfl) ?_
      simp only [Act.put, fl1, fl2, fl3]
      refine sg_call (by kernel_rfl) 16 #[.pointer (some ⟨D, 0, none⟩)] (by kernel_rfl) (R := fun v w' => ∃ Lg, v = .tuple #[.pointer (some ⟨Lg, 0, none⟩), .int .i64 0] ∧ LogI w' w.heap.size D mb Lg (dMore ps m) ⟨ps ++ [m], false⟩ ∧ KpS (TD D mb) w29 w') ?hlc20 ?_
      case hlc20 =>
        have h8 := Open_calls hDw29.out (DB.dMore ps m hpsH.out hmH.out)
        rw [dMore_open ps m hs2.out hmlH.out (Nat.le_trans hlenH.out (by decide))] at h8
        exact h8.mono fun e w' h => by
          obtain ⟨Lg, h1, h2, h3⟩ := h.log rfl (B := w.heap.size) hlo.out.1 hlo.out.2 hBw29.out.size
          exact ⟨_, h1, Lg, rfl, h2, h3⟩
      rintro _ w30 ⟨Lv, rfl, hL0, hk⟩
      simp only [Act.put, fl1, fl2, fl3]
      have hLw30 : Hid (LogI w30 w.heap.size D mb Lv (dMore ps m) ⟨ps ++ [m], false⟩) := hL0
      have hBw30 : Hid (Below w.heap.size w w30) := hBw29.out.trans (hk.bel (fun k hs => by rcases hs with rfl | rfl; exact hlo.out.1; exact hlo.out.2) hBw29.out.size)
      clear hL0 hk hBw29 hDw29
      refine sl_run rfl (.tuple #[.pointer (some ⟨Lv, 0, none⟩), .int .i64 0]) w30 (by kernel_rfl) ?_
      simp only [Act.put, fl1, fl2, fl3]
      refine sl_run rfl (.pointer (some ⟨Lv, 0, none⟩)) w30 (by kernel_rfl) ?_
      simp only [Act.put, fl1, fl2, fl3]
      refine sl_run rfl (.int .i64 0) w30 (by kernel_rfl) ?_
      simp only [Act.put, fl1, fl2, fl3]
      refine sl_run rfl (.pointer (some ⟨Lv, 0, none⟩)) w30 (by kernel_rfl) ?_
      simp only [Act.put, fl1, fl2, fl3]
      refine sl_run rfl (.int .i64 0) w30 (by kernel_rfl) ?_
      simp only [Act.put, fl1, fl2, fl3]
      refine wpList_nil ?_
      go_upto_region 27 with fail
      refine wp_region_lit ?_
      refine sl_run rfl (.int .i64 0) w30 (by kernel_rfl) ?_
      simp only [Act.put, fl1, fl2, fl3]
      refine sl_run rfl (.bool true) w30 (by kernel_rfl) ?_
      simp only [Act.put, fl1, fl2, fl3]
      refine sl_run rfl (.bool true) w30 (by kernel_rfl) ?_
      simp only [Act.put, fl1, fl2, fl3]
      refine sg_run (by kernel_rfl) (.pointer (some ⟨Lv, 0, none⟩)) w30 (by kernel_rfl) ?_
      simp only [Act.put, fl1, fl2, fl3]
      refine sg_call (by kernel_rfl) 19 #[.pointer (some ⟨Lv, 0, none⟩)] (by kernel_rfl) (R := fun v w' => PLo w' w30.heap.size v (ps ++ [m]) ∧ Below w30.heap.size w30 w') ?hlc21 ?_
      case hlc21 =>
        exact (All_calls hLw30.out (by have := hlenH.out; simp; omega) (fun p hp => by rcases List.mem_append.1 hp with hp | hp; exact Nat.le_trans (hs2.out p hp) (by decide); rw [List.mem_singleton.1 hp]; exact Nat.le_trans hmlH.out (by decide))).mono fun e w' h => by
          obtain ⟨v, h1, h2, h3⟩ := h
          exact ⟨v, h1, h2, h3⟩
      rintro vq w31 ⟨hr0, hb⟩
      simp only [Act.put, fl1, fl2, fl3]
      have hr1 := hr0.read
      have hBw31 : Hid (Below w.heap.size w w31) := (hBw30.out).trans ((hb).mono (hBw30.out).size)
      have hLw31 : Hid (LogI w31 w.heap.size D mb Lv (dMore ps m) (⟨ps ++ [m], false⟩)) := (hLw30.out).below hb
      clear hBw30 hLw30
      have hqw31 : Hid (PLr w31 vq (ps ++ [m])) := hr1
      clear hr0 hr1 hb
      have hq8w31 := hqw31
      clear hqw31
      refine sg_run (by kernel_rfl) (.slice (some ⟨w31.heap.size, 0, none⟩) 0 0) (w31.alloc (.cells #[] 22)) (by kernel_rfl) ?_
      simp only [Act.put, fl1, fl2, fl3]
      generalize hX : w31.alloc (.cells #[] 22) = w32
      have hqw32 : Hid (Below w31.heap.size w31 w32) := by rw [← hX]; exact (Below.refl _ _).alloc (Nat.le_refl _) _
      obtain ⟨E0, hE⟩ : ∃ E, E = w31.heap.size := ⟨_, rfl⟩
      have hOw32 : Hid (PLq w31 w32 (.slice (some ⟨E0, 0, none⟩) 0 0) []) := by
        rw [← hX, hE]; exact PLq.made w31
      rw [← hE]
      clear hX hE
      refine sg_run (by kernel_rfl) (.slice A n c) w32 (by kernel_rfl) ?_
      simp only [Act.put, fl1, fl2, fl3]
      obtain ⟨va, w33, hea, hOa, hqa⟩ := PLq.app (.tmp 123) (.tmp 124) hOw32.out hqw32.out (.slice A n c) (ps) ((hp0.out.below hBw31.out).old hqw32.out) (by have := hlenH.out; simp; omega)
      refine sg_run (by kernel_rfl) va w33 (hea rfl (by kernel_rfl) (by kernel_rfl)) ?_
      simp only [Act.put, fl1, fl2, fl3]
      have hOw33 : Hid (PLq w31 w33 va ([] ++ ps)) := hOa
      have hqw33 : Hid (Below w31.heap.size w31 w33) := hqa
      clear hea hOa hqa hOw32 hqw32
      refine sg_run (by kernel_rfl) (.slice A2 m2 c2) w33 (by kernel_rfl) ?_
      simp only [Act.put, fl1, fl2, fl3]
      refine sg_run (by kernel_rfl) (.slice (some ⟨w33.heap.size, 0, none⟩) 1 1) (w33.alloc (.cells #[.slice A2 m2 c2] 22)) (by kernel_rfl) ?_
      simp only [Act.put, fl1, fl2, fl3]
      generalize hX : w33.alloc (.cells #[.slice A2 m2 c2] 22) = w34
      have hb : Below w33.heap.size w33 w34 := by rw [← hX]; exact (Below.refl _ _).alloc (Nat.le_refl _) _
      obtain ⟨El, hE⟩ : ∃ E, E = w33.heap.size := ⟨_, rfl⟩
      have hc9 : w34.heap[El]? = some (.cells #[.slice A2 m2 c2] 22 (0, 0)) := by rw [← hX, hE]; exact heap_alloc_new _ _
      rw [← hE]
      clear hX hE
      have hqw34 : Hid (Below w31.heap.size w31 w34) := hqw33.out.trans (hb.mono hqw33.out.size)
      have hOw34 : Hid (PLq w31 w34 va ([] ++ ps)) := hOw33.out.below hb
      have hcw34 : Hid (w34.heap[El]? = some (.cells #[.slice A2 m2 c2] 22 (0, 0))) := hc9
      clear hc9 hb hOw33 hqw33
      obtain ⟨vb, w35, hea, hOa, hqa⟩ := PLq.app (.tmp 125) (.tmp 127) hOw34.out hqw34.out (.slice (some ⟨El, 0, none⟩) 1 1) ([m]) (PLr.one (hcw34.out) (hz0.out.below hBw31.out)) (by have := hlenH.out; simp; omega)
      refine sg_run (by kernel_rfl) vb w35 (hea rfl (by kernel_rfl) (by kernel_rfl)) ?_
      simp only [Act.put, fl1, fl2, fl3]
      have hOw35 : Hid (PLq w31 w35 vb (([] ++ ps) ++ [m])) := hOa
      have hqw35 : Hid (Below w31.heap.size w31 w35) := hqa
      clear hea hOa hqa hOw34 hqw34
      have hb : Below w31.heap.size w31 w35 := hqw35.out
      have hr9 : PLr w35 vb (ps ++ [m]) := by have h8 := hOw35.out.read hb; rwa [List.nil_append] at h8
      clear hOw35 hqw35
      have hBw35 : Hid (Below w.heap.size w w35) := (hBw31.out).trans ((hb).mono (hBw31.out).size)
      have hLw35 : Hid (LogI w35 w.heap.size D mb Lv (dMore ps m) (⟨ps ++ [m], false⟩)) := (hLw31.out).below hb
      have hq8w35 : Hid (PLr w35 vq (ps ++ [m])) := (hq8w31.out).below hb
      clear hBw31 hLw31 hq8w31
      have hyw35 : Hid (PLr w35 vb (ps ++ [m])) := hr9
      clear hr9 hb
      refine sg_call (by kernel_rfl) 14 #[vq, vb] (by kernel_rfl) (R := fun v w' => v = .bool true ∧ Below w35.heap.size w35 w') ?hlc22 ?_
      case hlc22 =>
        exact (Same_calls (ps ++ [m]) (ps ++ [m]) (by intro p hp; rcases List.mem_append.1 hp with hp | hp; exact hpsH.out p hp; rw [List.mem_singleton.1 hp]; exact hmH.out) (by intro p hp; rcases List.mem_append.1 hp with hp | hp; exact hpsH.out p hp; rw [List.mem_singleton.1 hp]; exact hmH.out) _ _ (by have := hlenH.out; simp; omega) (by have := hlenH.out; simp; omega) w35 hq8w35.out hyw35.out).mono fun e w' h => ⟨_, h.1, by rw [decide_eq_true rfl], h.2⟩
      rintro _ w36 ⟨rfl, hb⟩
      simp only [Act.put, fl1, fl2, fl3]
      have hBw36 : Hid (Below w.heap.size w w36) := (hBw35.out).trans ((hb).mono (hBw35.out).size)
      have hLw36 : Hid (LogI w36 w.heap.size D mb Lv (dMore ps m) (⟨ps ++ [m], false⟩)) := (hLw35.out).below hb
      have hq8w36 : Hid (PLr w36 vq (ps ++ [m])) := (hq8w35.out).below hb
      have hyw36 : Hid (PLr w36 vb (ps ++ [m])) := (hyw35.out).below hb
      clear hBw35 hLw35 hq8w35 hyw35
      clear hb
      refine sl_run rfl (.bool true) w36 (by kernel_rfl) ?_
      simp only [Act.put, fl1, fl2, fl3]
      refine sl_run rfl (.bool true) w36 (by kernel_rfl) ?_
      simp only [Act.put, fl1, fl2, fl3]
      refine wpList_nil ?_
      have hF := hBw36
      clear hBw36 hLw36 hq8w36 hyw36 hp0 hz0 hnH hm2H hpsH hmH hlenH hs2 hmlH hlo
      go_wp2_with fail
      go_ret
      exact ⟨rfl, hF.out⟩
end Go.Proofs.Ytdkaaieenbmihaa
namespace Go.Proofs.Ytdkaaieenbmihaa
open Go.RowKit Go.ChangeShapes Go.WideShapes
section
variable {H : Type} {enc : TypeId × Value → H} {W : World}
theorem payloads_of {fuel : Nat} {cs : List Value} {x : DataW H × List MemPlace} (hf : DataW.trod enc Try.prog W 0 (fun _ => true) true fuel 30 cs = some x) :
    ∃ (a : Option Addr) (len cap : Nat) (l : List SLV), cs = [.slice a len cap] ∧ len = l.length ∧ Rw 1 encV W (.slice a len cap) l ∧ (∀ s ∈ l, ∃ p : List Nat, Rw 1 encB W s.v p ∧ ∀ x ∈ p, x < 256) := by
  obtain ⟨a, len, cap, l, h1, h2, h3, h4, _⟩ := rw_of (k := 1) (encA := encV) (fun s => ∃ p : List Nat, Rw 1 encB W s.v p ∧ ∀ x ∈ p, x < 256) (by decide) encV_size Try.underlying30 (by kernel_rfl) (fun n cs y h => by
    obtain ⟨a, len, cap, l, h1, h2, h3, h4, _⟩ := bytes_of h
    exact ⟨⟨a, len, cap⟩, h1, l, h3, h4⟩) hf
  exact ⟨a, len, cap, l, h1, h2, h3, h4⟩
theorem payloads_list : ∀ l : List SLV, (∀ s ∈ l, ∃ p : List Nat, Rw 1 encB W s.v p ∧ ∀ x ∈ p, x < 256) → ∃ ps : List (List Nat), l.length = ps.length ∧ Byt ps ∧ ∀ i, i < ps.length → Rw 1 encB W (l.getD i default).v (ps.getD i default) := by
  intro l
  induction l with
  | nil => intro _; exact ⟨[], rfl, (fun p hp => nomatch hp), (fun i hi => absurd hi (by simp))⟩
  | cons s l ih =>
    intro h
    obtain ⟨ps, h1, h2, h3⟩ := ih fun s hs => h s (List.mem_cons_of_mem _ hs)
    obtain ⟨p, hp, hb⟩ := h s (List.mem_cons_self ..)
    refine ⟨p :: ps, by simp [h1], fun q hq => ?_, fun i hi => ?_⟩
    · rcases List.mem_cons.1 hq with rfl | hq
      · exact hb
      · exact h2 q hq
    · cases i with
      | zero => exact hp
      | succ i => exact h3 i (by simpa using hi)
variable {base : Nat} {v : Value} {d : DataW H} {p : List MemPlace}
set_option maxRecDepth 100000 in
theorem arg_pl (hok : Value.okWide Try.prog W .any base 30 v) (h : DataW.Trod enc Try.prog W 0 (fun _ => true) true 30 v d p) :
    ∃ (a : Option Addr) (len cap : Nat) (ps : List (List Nat)), v = .slice a len cap ∧ len = ps.length ∧ PLr W (.slice a len cap) ps ∧ Byt ps := by
  obtain ⟨a, len, cap, rfl⟩ := okWide_slice Try.underlying30 hok
  obtain ⟨fuel, hf⟩ := h
  obtain ⟨a', len', cap', l, hx, h1, h2, h3⟩ := payloads_of hf
  simp [Value.cells] at hx
  obtain ⟨rfl, rfl, rfl⟩ := hx
  obtain ⟨ps, h4, h5, h6⟩ := payloads_list l h3
  exact ⟨a, len, cap, ps, rfl, h1.trans h4, ⟨l, h2, h4, h6⟩, h5⟩
end
end Go.Proofs.Ytdkaaieenbmihaa
namespace Go.Proofs.Ytdkaaieenbmihaa.walChecks
open Go.ChangeShapes Go.WideShapes Go.ChangeAt Go.RowKit

theorem own : ownKnob Try.prog.godebug = none := by kernel_rfl
theorem laidOut : laidOutB Try.prog = true := by kernel_rfl
set_option maxRecDepth 100000 in
theorem lifted (os : Os) (started : os.Started) (H : Type) (enc : TypeId × Value → H) :
    ReturnsInHanded {} Try.checked os 6 .any (Rows.walChecksSpec.pre6 enc Try.prog Try.f6 Rows.walChecksRow.domain false) (Rows.walChecksSpec.post enc Try.prog Try.f6 false true false false) := by
  refine returnsInHanded_of_change (C := Try.checked) own started (by kernel_rfl) Try.func6
    (ChangeSpec.witness6 (enc := enc) (C := Try.checked) false ⟨#[], #[.slice none 0 0, .slice none 0 0], []⟩ 8 (by kernel_rfl) (by kernel_rfl) (by kernel_rfl) (by kernel_rfl)) ?_
  intro W base args ds gs before hval0 hW hcnd _
  have hval : ∀ (j : Nat) t v, Try.f6.params[j]? = some t → args[j]? = some v → Value.okWide Try.prog W .any base t v := hval0
  have hW' := hW
  obtain ⟨p, q, hA0, hV, rfl, hfz, hnd⟩ := hW
  have hA : DataW.TrodAll enc Try.prog W 0 (fun _ => true) true Try.f6.params.toList args.toList ds p := hA0
  rw [Try.params6] at hA hval
  obtain ⟨v0, vs0, d0, ds0, p0, q0, hargs, rfl, rfl, h0, r0⟩ := trodAll_cons hA
  obtain ⟨v1, vs1, d1, ds1, p1, q1, rfl, rfl, rfl, h1, r1⟩ := trodAll_cons r0
  obtain ⟨rfl, rfl, rfl⟩ := trodAll_nil r1
  obtain rfl : args = #[v0, v1] := by cases args; simp_all
  obtain ⟨rfl, rfl⟩ := trodVars_none hV
  have k0 := h0
  have lt0 : ∀ x ∈ p0, x.block < W.heap.size := by obtain ⟨m, hm⟩ := k0; exact DataW.trod_lt m _ _ _ hm
  obtain ⟨a0, n0, c0, l0, rfl, e0, y0, g0⟩ := arg_pl (hval 0 30 v0 rfl rfl) h0
  have k1 := h1
  have lt1 : ∀ x ∈ p1, x.block < W.heap.size := by obtain ⟨m, hm⟩ := k1; exact DataW.trod_lt m _ _ _ hm
  obtain ⟨a1, n1, c1, l1, rfl, e1, y1, g1, z1⟩ := arg_bytes (hval 1 22 v1 rfl rfl) h1
  clear hA0 hval0
  refine (WalChecks_calls l0 g0 l1 g1 a0 n0 c0 e0 a1 n1 c1 e1 W y0 y1).mono fun e W' ⟨he, bel⟩ => ?_
  subst he
  exact ⟨_, rfl, _, _, _, [], _, [], hW', trodAll_mk1 (shut_bool Try.underlying4 _), (trodAll_cons_mk (Below.trod laidOut (by kernel_rfl) (of_decide_eq_true (by kernel_rfl)) k0 bel lt0) (trodAll_cons_mk (Below.trod laidOut (by kernel_rfl) (of_decide_eq_true (by kernel_rfl)) k1 bel lt1) trodAll_mk0)), rfl, bel.frame _, fun h => by cases h⟩
theorem over : Rows.walChecksRow.holds Try.pinned (OpenSpec.ofChange Rows.walChecksSpec) :=
  OpenClaim.holds_of_wide 6 Try.f6 rfl rfl rfl rfl rfl rfl rfl ⟨rfl, rfl, rfl, rfl, rfl⟩ rfl rfl rfl rfl rfl (by kernel_rfl) Try.func6 (by kernel_rfl)
    (of_decide_eq_true (by kernel_rfl)) (by unfold Func.isWrapper; first | (rw [if_pos (by decide +kernel)]; kernel_rfl) | (rw [if_neg (by decide +kernel)]; exact ⟨rfl, rfl⟩))
    (fun os started H enc _ => lifted os started H enc)
end Go.Proofs.Ytdkaaieenbmihaa.walChecks
namespace Go.Proofs.Ytdkaaieenbmihaa
/-- The statement. -/
theorem walChecks_holds : Rows.WalChecksSaid := walChecks.over
#print axioms walChecks_holds
end Go.Proofs.Ytdkaaieenbmihaa
