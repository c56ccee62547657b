/-
  The law WalBack holds: for every input it answers true, and what came in reads as it did. No condition.
-/
import Derived.Test.YtdkaaieenbmihaaMgH
import Derived.Test.YtdkaaieenbmihaaMgI
import Derived.Test.YtdkaaieenbmihaaRows
import Derived.WalkKit
import Derived.ProofKit
import Derived.OpenShut
import Derived.ShutString
import Derived.ChangeOld
import Derived.Below
set_option linter.unusedVariables false
set_option linter.unusedSimpArgs false
namespace Go.Proofs.Ytdkaaieenbmihaa
open Go.RowKit
open Sha (vals Bytes Lies bytesC sumB)
open Go.Proofs.Ytdkaaieenbmihaa.Pure (nameB)
theorem own_rw {w : World} {base : Nat} {v : Value} {l : List Nat} (h : w.ownsRow base 5 1 v l.length (vals l)) : Rw 1 encB w v l := rw_bytes.2 (own_bytes h)
set_option maxRecDepth 100000 in
set_option maxHeartbeats 4000000 in
theorem WalRecords_calls (n : Int) (hn : n ≤ 9223372036854775807) (p : List Nat) (hp : ∀ x ∈ p, x < 256) (A : Option Addr) (m c : Nat) (hm : m = p.length) (w : World) (hy : Rw 1 encB w (.slice A m c) p) :
    Calls Try.prog 3 #[.int .i64 n, .slice A m c] w fun e w' => e = .returned (.bool true) ∧ Below w.heap.size w w' := by
  have hBw : Hid (Below w.heap.size w w) := Below.refl _ _
  have hyw : Hid (Rw 1 encB w (.slice A m c) p) := hy
  have hm' : Hid (m = p.length) := hm
  have hpH : Hid (∀ x ∈ p, x < 256) := hp
  obtain ⟨bs, er, hr⟩ : ∃ x y, recS n p = (x, y) := ⟨_, _, rfl⟩
  have hrH : Hid (recS n p = (bs, er)) := hr
  have hy0 := hyw
  clear hy hm hp hr
  go_enter Try.func3, Try.ntmps3
  go_upto_region 1 with fail
  refine wp_region_lit ?_
  refine sg_call (by kernel_rfl) 9 #[] (by kernel_rfl) (R := fun v w' => v = .bool true ∧ Below w.heap.size w w') ?hlc1 ?_
  case hlc1 =>
    have h8 := fixed_calls w
    exact h8.mono fun e w' h => ⟨_, h.1, rfl, h.2⟩
  rintro _ w1 ⟨rfl, hb⟩
  simp only [Act.put, fl1, fl2, fl3]
  have hBw1 : Hid (Below w.heap.size w w1) := (hBw.out).trans ((hb).mono (hBw.out).size)
  have hyw1 : Hid (Rw 1 encB w1 (.slice A m c) p) := (hyw.out).below hb
  clear hBw hyw
  clear hb
  refine sl_run rfl (.bool false) w1 (by kernel_rfl) ?_
  simp only [Act.put, fl1, fl2, fl3]
  refine wpList_nil ?_
  by_cases h9 : (9000 : Int) < (m : Int)
  case pos =>
    have hF := hBw1
    clear hBw1 hyw1 hm' hpH hrH
    go_wp2_with fail
    go_ret
    exact ⟨rfl, hF.out⟩
  case neg =>
  go_upto_region 3 with fail
  refine wp_region_lit ?_
  refine sl_run rfl (.slice A m c) w1 (by kernel_rfl) ?_
  simp only [Act.put, fl1, fl2, fl3]
  refine sl_run rfl (.int .i64 (m : Int)) w1 (by kernel_rfl) ?_
  simp only [Act.put, fl1, fl2, fl3]
  refine sl_run rfl (.bool false) w1 (exec_gtr _ _ _ rfl (m : Int) 9000 (by kernel_rfl) (by kernel_rfl) false (decide_eq_false h9)) ?_
  simp only [Act.put, fl1, fl2, fl3]
  refine wpList_nil ?_
  go_upto_region 5 with fail
  refine wp_region_lit ?_
  refine sl_run rfl (.int .i64 n) w1 (by kernel_rfl) ?_
  simp only [Act.put, fl1, fl2, fl3]
  refine sl_run rfl (.slice (some ⟨w1.heap.size, 0, none⟩) 0 0) (w1.alloc (.cells #[] 5)) (by kernel_rfl) ?_
  simp only [Act.put, fl1, fl2, fl3]
  generalize hX : w1.alloc (.cells #[] 5) = w2
  have hb : Below w1.heap.size w1 w2 := by rw [← hX]; exact (Below.refl _ _).alloc (Nat.le_refl _) _
  obtain ⟨E0, hE⟩ : ∃ E, E = w1.heap.size := ⟨_, rfl⟩
  have ho9 : w2.ownsRow w.heap.size 5 1 (.slice (some ⟨E0, 0, none⟩) 0 0) ([] : List Nat).length (vals ([] : List Nat)) := by
    rw [← hX, hE]; exact own_mono (World.ownsRow_made _ _ 0 (Nat.le_refl _) (by decide) rfl) hBw1.out.size
  rw [← hE]
  clear hX hE
  have hBw2 : Hid (Below w.heap.size w w2) := (hBw1.out).trans ((hb).mono (hBw1.out).size)
  have hyw2 : Hid (Rw 1 encB w2 (.slice A m c) p) := (hyw1.out).below hb
  clear hBw1 hyw1
  have hOw2 : Hid (w2.ownsRow w.heap.size 5 1 (.slice (some ⟨E0, 0, none⟩) 0 0) ([] : List Nat).length (vals ([] : List Nat))) := ho9
  clear ho9 hb
  refine sl_run rfl (.slice A m c) w2 (by kernel_rfl) ?_
  simp only [Act.put, fl1, fl2, fl3]
  refine Sha.append22 rfl _ _ rfl (w.heap.size) (.slice (some ⟨E0, 0, none⟩) 0 0) (([] : List Nat)) (p) (by kernel_rfl) hOw2.out (.slice A m c) (by kernel_rfl) (rw_bytes.1 (hyw2.out)) (by have := hm'.out; simp; omega) hBw2.out.size ?_
  intro v3 w3 hO9 hg9 _
  simp only [Act.put, fl1, fl2, fl3]
  have hBw3 : Hid (Below w.heap.size w w3) := hBw2.out.grown hg9 hBw2.out.size (fun q hq => (hOw2.out.lt q hq).1)
  have hOw3 : Hid (w3.ownsRow (w.heap.size) 5 1 v3 ((([] : List Nat)) ++ (p)).length (vals ((([] : List Nat)) ++ (p)))) := hO9
  clear hO9 hg9 hBw2 hyw2 hOw2
  have hyw3 : Hid (Rw 1 encB w3 (.slice A m c) p) := hy0.out.below hBw3.out
  obtain ⟨Aq, cq, hq⟩ : ∃ A c, v3 = .slice A m c := own_formq hOw3.out (by have := hm'.out; simp; omega)
  subst hq
  have hqw3 : Hid (Rw 1 encB w3 (.slice Aq m cq) p) := by have h8 := own_rw hOw3.out; rwa [List.nil_append] at h8
  clear hOw3
  refine sg_call (by kernel_rfl) 10 #[.int .i64 n, .slice Aq m cq] (by kernel_rfl) (R := fun v w' => ∃ u, v = .tuple #[u, .int .i64 (er : Int)] ∧ Rw 1 encB w' u bs ∧ Below w3.heap.size w3 w') ?hlc2 ?_
  case hlc2 =>
    have h8 := Record_calls n hn p hpH.out Aq m cq hm'.out (by omega) w3 hqw3.out
    rw [hrH.out] at h8
    exact h8.mono fun e w' h => by
      obtain ⟨v, h1, h2, h3⟩ := h
      exact ⟨_, h1, v, rfl, h2, h3⟩
  rintro _ w4 ⟨r9, rfl, hr0, hb⟩
  simp only [Act.put, fl1, fl2, fl3]
  have hBw4 : Hid (Below w.heap.size w w4) := (hBw3.out).trans ((hb).mono (hBw3.out).size)
  have hyw4 : Hid (Rw 1 encB w4 (.slice A m c) p) := (hyw3.out).below hb
  have hqw4 : Hid (Rw 1 encB w4 (.slice Aq m cq) p) := (hqw3.out).below hb
  clear hBw3 hyw3 hqw3
  obtain ⟨Ab, cb, rfl⟩ := hr0.form
  obtain ⟨nb, hn5⟩ : ∃ k, k = bs.length := ⟨_, rfl⟩
  rw [← hn5] at hr0 ⊢
  have hnb : Hid (nb = bs.length) := hn5
  have hbw4 : Hid (Rw 1 encB w4 (.slice Ab nb cb) bs) := hr0
  clear hr0 hb hn5
  refine sl_run rfl (.tuple #[.slice Ab nb cb, .int .i64 (er : Int)]) w4 (by kernel_rfl) ?_
  simp only [Act.put, fl1, fl2, fl3]
  refine sl_run rfl (.slice Ab nb cb) w4 (by kernel_rfl) ?_
  simp only [Act.put, fl1, fl2, fl3]
  refine sl_run rfl (.int .i64 (er : Int)) w4 (by kernel_rfl) ?_
  simp only [Act.put, fl1, fl2, fl3]
  refine sl_run rfl (.slice Ab nb cb) w4 (by kernel_rfl) ?_
  simp only [Act.put, fl1, fl2, fl3]
  refine sl_run rfl (.int .i64 (er : Int)) w4 (by kernel_rfl) ?_
  simp only [Act.put, fl1, fl2, fl3]
  refine wpList_nil ?_
  go_upto_region 6 with fail
  refine wp_region_lit ?_
  refine sl_run rfl (.int .i64 n) w4 (by kernel_rfl) ?_
  simp only [Act.put, fl1, fl2, fl3]
  refine sl_run rfl (.slice A m c) w4 (by kernel_rfl) ?_
  simp only [Act.put, fl1, fl2, fl3]
  refine sg_call (by kernel_rfl) 11 #[.int .i64 n, .slice A m c] (by kernel_rfl) (R := fun v w' => ∃ u, v = .tuple #[u, .int .i64 (er : Int)] ∧ Rw 1 encB w' u bs ∧ Below w4.heap.size w4 w') ?hlc3 ?_
  case hlc3 =>
    have h8 := rRecord_calls n hn p hpH.out A m c hm'.out (by omega) w4 hyw4.out
    rw [hrH.out] at h8
    exact h8.mono fun e w' h => by
      obtain ⟨v, h1, h2, h3⟩ := h
      exact ⟨_, h1, v, rfl, h2, h3⟩
  rintro _ w5 ⟨r9, rfl, hr0, hb⟩
  simp only [Act.put, fl1, fl2, fl3]
  have hBw5 : Hid (Below w.heap.size w w5) := (hBw4.out).trans ((hb).mono (hBw4.out).size)
  have hyw5 : Hid (Rw 1 encB w5 (.slice A m c) p) := (hyw4.out).below hb
  have hqw5 : Hid (Rw 1 encB w5 (.slice Aq m cq) p) := (hqw4.out).below hb
  have hbw5 : Hid (Rw 1 encB w5 (.slice Ab nb cb) bs) := (hbw4.out).below hb
  clear hBw4 hyw4 hqw4 hbw4
  obtain ⟨Ar, cr, rfl⟩ := hr0.form
  obtain ⟨nr, hn5⟩ : ∃ k, k = bs.length := ⟨_, rfl⟩
  rw [← hn5] at hr0 ⊢
  have hnr : Hid (nr = bs.length) := hn5
  have hrw5 : Hid (Rw 1 encB w5 (.slice Ar nr cr) bs) := hr0
  clear hr0 hb hn5
  refine sl_run rfl (.tuple #[.slice Ar nr cr, .int .i64 (er : Int)]) w5 (by kernel_rfl) ?_
  simp only [Act.put, fl1, fl2, fl3]
  refine sl_run rfl (.slice Ar nr cr) w5 (by kernel_rfl) ?_
  simp only [Act.put, fl1, fl2, fl3]
  refine sl_run rfl (.int .i64 (er : Int)) w5 (by kernel_rfl) ?_
  simp only [Act.put, fl1, fl2, fl3]
  refine sl_run rfl (.slice Ar nr cr) w5 (by kernel_rfl) ?_
  simp only [Act.put, fl1, fl2, fl3]
  refine sl_run rfl (.int .i64 (er : Int)) w5 (by kernel_rfl) ?_
  simp only [Act.put, fl1, fl2, fl3]
  refine wpList_nil ?_
  go_upto_region 7 with fail
  refine wp_region_lit ?_
  refine sl_run rfl (.int .i64 (er : Int)) w5 (by kernel_rfl) ?_
  simp only [Act.put, fl1, fl2, fl3]
  refine sl_run rfl (.int .i64 (er : Int)) w5 (by kernel_rfl) ?_
  simp only [Act.put, fl1, fl2, fl3]
  refine sl_run rfl (.bool true) w5 (exec_eqI _ _ _ rfl (er : Int) (er : Int) (by kernel_rfl) (by kernel_rfl) true (by simp)) ?_
  simp only [Act.put, fl1, fl2, fl3]
  refine sl_run rfl (.bool true) w5 (by kernel_rfl) ?_
  simp only [Act.put, fl1, fl2, fl3]
  refine sg_run (by kernel_rfl) (.slice Ab nb cb) w5 (by kernel_rfl) ?_
  simp only [Act.put, fl1, fl2, fl3]
  refine sg_run (by kernel_rfl) (.string (strB bs)) w5 (exec_convB _ rfl (.slice Ab nb cb) bs (by kernel_rfl) hbw5.out) ?_
  simp only [Act.put, fl1, fl2, fl3]
  refine sg_run (by kernel_rfl) (.slice Ar nr cr) w5 (by kernel_rfl) ?_
  simp only [Act.put, fl1, fl2, fl3]
  refine sg_run (by kernel_rfl) (.string (strB bs)) w5 (exec_convB _ rfl (.slice Ar nr cr) bs (by kernel_rfl) hrw5.out) ?_
  simp only [Act.put, fl1, fl2, fl3]
  refine sg_run (by kernel_rfl) (.bool true) w5 (exec_eqlS _ _ rfl (strB bs) (by kernel_rfl) (by kernel_rfl) w5) ?_
  simp only [Act.put, fl1, fl2, fl3]
  refine sl_run rfl (.bool true) w5 (by kernel_rfl) ?_
  simp only [Act.put, fl1, fl2, fl3]
  refine sl_run rfl (.bool true) w5 (by kernel_rfl) ?_
  simp only [Act.put, fl1, fl2, fl3]
  refine wpList_nil ?_
  have hF := hBw5
  clear hBw5 hyw5 hqw5 hbw5 hrw5 hm' hpH hrH hy0 hnb hnr
  go_wp2_with fail
  go_ret
  exact ⟨rfl, hF.out⟩
end Go.Proofs.Ytdkaaieenbmihaa
namespace Go.Proofs.Ytdkaaieenbmihaa
open Go.RowKit
open Sha (vals Bytes Lies bytesC sumB)
open Go.Proofs.Ytdkaaieenbmihaa.Pure (nameB)
theorem scanS_keep (l : List Nat) : ∀ (m f : Nat) (ps : List (List Nat)) (e : Nat), l.length - e ≤ m → 0 < f → (scanS l f ps e).1 = f ∧ (∃ r, (scanS l f ps e).2.1 = ps ++ r) ∧ e ≤ (scanS l f ps e).2.2 := by
  intro m
  induction m with
  | zero =>
    intro f ps e hm hf
    have hn : oneS (l.drop e) = none := by unfold oneS; rw [if_pos (by rw [List.length_drop]; omega)]
    rw [scanS_none hn]; exact ⟨rfl, ⟨[], by simp⟩, Nat.le_refl _⟩
  | succ m ih =>
    intro f ps e hm hf
    cases h : oneS (l.drop e) with
    | none => rw [scanS_none h]; exact ⟨rfl, ⟨[], by simp⟩, Nat.le_refl _⟩
    | some x =>
      obtain ⟨n, p, k⟩ := x
      have hk := oneS_len h
      rw [List.length_drop] at hk
      rw [scanS_some h]
      split
      · exact ⟨rfl, ⟨[], by simp⟩, Nat.le_refl _⟩
      · rw [if_neg (by omega)]
        obtain ⟨h1, ⟨r, h2⟩, h3⟩ := ih f (ps ++ [p]) (e + k) (by omega) hf
        exact ⟨h1, ⟨p :: r, by rw [h2]; simp⟩, by omega⟩
theorem scan_first (n : Nat) (h1 : 1 ≤ n) (hn : n ≤ 1099511627776) (p : List Nat) (hp : p.length ≤ 8192) (t : List Nat) : ∃ r en, scan0 (recB n p ++ t) = (n, p :: r, en) ∧ p.length + 17 ≤ en := by
  have e : oneS ((recB n p ++ t).drop 0) = some (n, p, p.length + 17) := oneS_rec' n hn p hp t
  unfold scan0
  rw [scanS_some e, if_neg (by omega), if_pos rfl]
  obtain ⟨a, ⟨r, b⟩, c⟩ := scanS_keep (recB n p ++ t) (recB n p ++ t).length n ([] ++ [p]) (0 + (p.length + 17)) (by omega) (by omega)
  refine ⟨r, (scanS (recB n p ++ t) n ([] ++ [p]) (0 + (p.length + 17))).2.2, ?_, by omega⟩
  exact Prod.ext a (Prod.ext (by rw [b]; rfl) rfl)
theorem scan_cut (n : Nat) (p : List Nat) (hp : p.length ≤ 8192) (k : Nat) (hk : k < p.length + 17) : scan0 ((recB n p).take k) = (0, [], 0) := by
  unfold scan0
  refine scanS_none ?_
  rw [List.drop_zero]
  exact oneS_cut n p hp (Sha.sumB_length _) k hk
/-- What the law is handed. -/
structure BX where
  n : Int
  p : List Nat
  q : List Nat
  cut : Int
theorem exec_remU {o : Oper} {a : Act} {w : World} (x y : Operand) (ho : o.op = .binOp .rem 37 x y 37) (u v : Nat) (hv : 0 < v) (hu : u < 18446744073709551616) (hx : a.eval x = .int .u64 (u : Int)) (hy : a.eval y = .int .u64 (v : Int)) : (execOp a.eval o).run Try.prog w = .ok (.value (.int .u64 ((u % v : Nat) : Int))) w := by
  have hne : ¬ (v : Int) = 0 := by omega
  have e : (u : Int).tmod (v : Int) = ((u % v : Nat) : Int) := by rw [Int.tmod_eq_emod_of_nonneg (by omega)]; simp
  have key : (Op.intDiv .rem .u64 (u : Int) (v : Int)).run Try.prog w = .ok (.int .u64 ((u % v : Nat) : Int)) w := by
    rw [← e]; unfold Op.intDiv; rw [if_neg hne]; rfl
  unfold execOp
  have key2 : (Op.intDiv .rem .u64 (u : Int) (v : Int)).run Try.prog w = .ok (.int .u64 ((u : Int) % (v : Int))) w := by rw [key]; simp
  simp [ho, hx, hy, eqGuard, binOp_rem, key2]
theorem exec_convW {o : Oper} {a : Act} {w : World} (x : Operand) (ho : o.op = .convert 3 37 x) (n : Int) (hx : a.eval x = .int .i64 n) : (execOp a.eval o).run Try.prog w = .ok (.value (.int .u64 ((n % 18446744073709551616).toNat : Int))) w := by
  have h0 : 0 ≤ n % 18446744073709551616 := Int.emod_nonneg _ (by decide)
  have he : (convert 3 37 (.int .i64 n)).run Try.prog w = .ok (.int .u64 ((n % 18446744073709551616).toNat : Int)) w := by
    have e : IntKind.u64.wrap n = ((n % 18446744073709551616).toNat : Int) := by rw [IntKind.wrap_u64, Int.toNat_of_nonneg h0]
    simp [convert, run_underlying Try.underlying3, run_underlying Try.underlying37, Conv.intToInt, e]
  unfold execOp
  simp [ho, hx, he]

theorem sub_take {l : List Nat} {k : Nat} (h : ∀ x ∈ l, x < 256) : ∀ x ∈ l.take k, x < 256 := fun x hx => h x (List.mem_of_mem_take hx)
set_option maxRecDepth 100000 in
set_option maxHeartbeats 16000000 in
theorem WalBack_calls (N cut : Int) (hN1 : N < 9223372036854775808) (hN0 : -9223372036854775808 ≤ N) (p q : List Nat) (hp : ∀ x ∈ p, x < 256) (hq : ∀ x ∈ q, x < 256) (A : Option Addr) (m c : Nat) (hm : m = p.length) (A2 : Option Addr) (m2 c2 : Nat) (hm2 : m2 = q.length) (w : World)
    (hy : Rw 1 encB w (.slice A m c) p) (hy2 : Rw 1 encB w (.slice A2 m2 c2) q) :
    Calls Try.prog 5 #[.agg #[.int .i64 N, .slice A m c, .slice A2 m2 c2, .int .i64 cut]] w fun e w' => e = .returned (.bool true) ∧ Below w.heap.size w w' := by
  have hBw : Hid (Below w.heap.size w w) := Below.refl _ _
  have hyw : Hid (Rw 1 encB w (.slice A m c) p) := hy
  have hzw : Hid (Rw 1 encB w (.slice A2 m2 c2) q) := hy2
  have hm' : Hid (m = p.length) := hm
  have hm2' : Hid (m2 = q.length) := hm2
  have hpH : Hid (∀ x ∈ p, x < 256) := hp
  have hqH : Hid (∀ x ∈ q, x < 256) := hq
  clear hy hy2 hm hm2 hp hq
  go_enter Try.func5, Try.ntmps5
  go_upto_region 1 with fail
  generalize hX : World.alloc _ _ = w1
  have hb : Below w.heap.size w w1 := by rw [← hX]; exact (Below.refl _ _).alloc (Nat.le_refl _) _
  obtain ⟨Xb, hBe⟩ : ∃ Xb, Xb = w.heap.size := ⟨_, rfl⟩
  have hb9 : w1.heap[Xb]? = some (.cells #[.int .i64 N, .slice A m c, .slice A2 m2 c2, .int .i64 cut] 36 (0, 0)) := by rw [← hX, hBe]; exact heap_alloc_new _ _
  rw [← hBe]
  clear hX hBe
  have hBw1 : Hid (Below w.heap.size w w1) := (hBw.out).trans ((hb).mono (hBw.out).size)
  have hyw1 : Hid (Rw 1 encB w1 (.slice A m c) p) := (hyw.out).below hb
  have hzw1 : Hid (Rw 1 encB w1 (.slice A2 m2 c2) q) := (hzw.out).below hb
  clear hBw hyw hzw
  have hxw1 : Hid (w1.heap[Xb]? = some (.cells #[.int .i64 N, .slice A m c, .slice A2 m2 c2, .int .i64 cut] 36 (0, 0))) := hb9
  clear hb9 hb
  refine wp_region_lit ?_
  refine sg_call (by kernel_rfl) 9 #[] (by kernel_rfl) (R := fun v w' => v = .bool true ∧ Below w1.heap.size w1 w') ?hlc1 ?_
  case hlc1 =>
    have h8 := fixed_calls w1
    exact h8.mono fun e w' h => ⟨_, h.1, rfl, h.2⟩
  rintro _ w2 ⟨rfl, hb⟩
  simp only [Act.put, fl1, fl2, fl3]
  have hBw2 : Hid (Below w.heap.size w w2) := (hBw1.out).trans ((hb).mono (hBw1.out).size)
  have hyw2 : Hid (Rw 1 encB w2 (.slice A m c) p) := (hyw1.out).below hb
  have hzw2 : Hid (Rw 1 encB w2 (.slice A2 m2 c2) q) := (hzw1.out).below hb
  have hxw2 : Hid (w2.heap[Xb]? = some (.cells #[.int .i64 N, .slice A m c, .slice A2 m2 c2, .int .i64 cut] 36 (0, 0))) := heap_kept (hxw1.out) hb
  clear hBw1 hyw1 hzw1 hxw1
  clear hb
  refine sl_run rfl (.bool false) w2 (by kernel_rfl) ?_
  simp only [Act.put, fl1, fl2, fl3]
  refine wpList_nil ?_
  by_cases hc1 : (3000 : Int) < (m : Int)
  case pos =>
    go_upto_region 3 with fail
    refine wp_region_lit ?_
    refine sl_run rfl (.pointer (some ⟨Xb, 1, none⟩)) w2 (by kernel_rfl) ?_
    simp only [Act.put, fl1, fl2, fl3]
    refine sl_run rfl (.slice A m c) w2 (exec_load_cell 22 w2 _ rfl ⟨Xb, 1, none⟩ (by kernel_rfl) _ (by rw [cell_of_row _ _ _ _ _ _ hxw2.out]; rfl) (fun _ => by kernel_rfl)) ?_
    simp only [Act.put, fl1, fl2, fl3]
    refine sl_run rfl (.int .i64 (m : Int)) w2 (by kernel_rfl) ?_
    simp only [Act.put, fl1, fl2, fl3]
    refine sl_run rfl (.bool true) w2 (exec_gtr _ _ _ rfl (m : Int) 3000 (by kernel_rfl) (by kernel_rfl) true (decide_eq_true (by omega))) ?_
    simp only [Act.put, fl1, fl2, fl3]
    refine sl_run rfl (.bool true) w2 (by kernel_rfl) ?_
    simp only [Act.put, fl1, fl2, fl3]
    rw [wpList, if_neg (by rw [show Region.wanted _ _ = false by kernel_rfl]; decide)]
    simp only [Act.put, fl1, fl2, fl3]
    rw [wpList, if_neg (by rw [show Region.wanted _ _ = false by kernel_rfl]; decide)]
    simp only [Act.put, fl1, fl2, fl3]
    rw [wpList, if_neg (by rw [show Region.wanted _ _ = false by kernel_rfl]; decide)]
    simp only [Act.put, fl1, fl2, fl3]
    rw [wpList, if_neg (by rw [show Region.wanted _ _ = false by kernel_rfl]; decide)]
    simp only [Act.put, fl1, fl2, fl3]
    refine sl_run rfl (.bool true) w2 (by kernel_rfl) ?_
    simp only [Act.put, fl1, fl2, fl3]
    refine wpList_nil ?_
    have hF := hBw2
    clear hBw2 hyw2 hzw2 hxw2 hm' hm2' hpH hqH
    go_wp2_with fail
    go_ret
    exact ⟨rfl, hF.out⟩
  case neg =>
  by_cases hc2 : (3000 : Int) < (m2 : Int)
  case pos =>
    go_upto_region 3 with fail
    refine wp_region_lit ?_
    refine sl_run rfl (.pointer (some ⟨Xb, 1, none⟩)) w2 (by kernel_rfl) ?_
    simp only [Act.put, fl1, fl2, fl3]
    refine sl_run rfl (.slice A m c) w2 (exec_load_cell 22 w2 _ rfl ⟨Xb, 1, none⟩ (by kernel_rfl) _ (by rw [cell_of_row _ _ _ _ _ _ hxw2.out]; rfl) (fun _ => by kernel_rfl)) ?_
    simp only [Act.put, fl1, fl2, fl3]
    refine sl_run rfl (.int .i64 (m : Int)) w2 (by kernel_rfl) ?_
    simp only [Act.put, fl1, fl2, fl3]
    refine sl_run rfl (.bool false) w2 (exec_gtr _ _ _ rfl (m : Int) 3000 (by kernel_rfl) (by kernel_rfl) false (decide_eq_false (by omega))) ?_
    simp only [Act.put, fl1, fl2, fl3]
    refine sl_run rfl (.bool false) w2 (by kernel_rfl) ?_
    simp only [Act.put, fl1, fl2, fl3]
    refine sg_run (by kernel_rfl) (.pointer (some ⟨Xb, 2, none⟩)) w2 (by kernel_rfl) ?_
    simp only [Act.put, fl1, fl2, fl3]
    refine sg_run (by kernel_rfl) (.slice A2 m2 c2) w2 (exec_load_cell 22 w2 _ rfl ⟨Xb, 2, none⟩ (by kernel_rfl) _ (by rw [cell_of_row _ _ _ _ _ _ hxw2.out]; rfl) (fun _ => by kernel_rfl)) ?_
    simp only [Act.put, fl1, fl2, fl3]
    refine sg_run (by kernel_rfl) (.int .i64 (m2 : Int)) w2 (by kernel_rfl) ?_
    simp only [Act.put, fl1, fl2, fl3]
    refine sg_run (by kernel_rfl) (.bool true) w2 (exec_gtr _ _ _ rfl (m2 : Int) 3000 (by kernel_rfl) (by kernel_rfl) true (decide_eq_true (by omega))) ?_
    simp only [Act.put, fl1, fl2, fl3]
    refine sl_run rfl (.bool true) w2 (by kernel_rfl) ?_
    simp only [Act.put, fl1, fl2, fl3]
    refine wpList_nil ?_
    have hF := hBw2
    clear hBw2 hyw2 hzw2 hxw2 hm' hm2' hpH hqH
    go_wp2_with fail
    go_ret
    exact ⟨rfl, hF.out⟩
  case neg =>
  go_upto_region 3 with fail
  refine wp_region_lit ?_
  refine sl_run rfl (.pointer (some ⟨Xb, 1, none⟩)) w2 (by kernel_rfl) ?_
  simp only [Act.put, fl1, fl2, fl3]
  refine sl_run rfl (.slice A m c) w2 (exec_load_cell 22 w2 _ rfl ⟨Xb, 1, none⟩ (by kernel_rfl) _ (by rw [cell_of_row _ _ _ _ _ _ hxw2.out]; rfl) (fun _ => by kernel_rfl)) ?_
  simp only [Act.put, fl1, fl2, fl3]
  refine sl_run rfl (.int .i64 (m : Int)) w2 (by kernel_rfl) ?_
  simp only [Act.put, fl1, fl2, fl3]
  refine sl_run rfl (.bool false) w2 (exec_gtr _ _ _ rfl (m : Int) 3000 (by kernel_rfl) (by kernel_rfl) false (decide_eq_false (by omega))) ?_
  simp only [Act.put, fl1, fl2, fl3]
  refine sl_run rfl (.bool false) w2 (by kernel_rfl) ?_
  simp only [Act.put, fl1, fl2, fl3]
  refine sg_run (by kernel_rfl) (.pointer (some ⟨Xb, 2, none⟩)) w2 (by kernel_rfl) ?_
  simp only [Act.put, fl1, fl2, fl3]
  refine sg_run (by kernel_rfl) (.slice A2 m2 c2) w2 (exec_load_cell 22 w2 _ rfl ⟨Xb, 2, none⟩ (by kernel_rfl) _ (by rw [cell_of_row _ _ _ _ _ _ hxw2.out]; rfl) (fun _ => by kernel_rfl)) ?_
  simp only [Act.put, fl1, fl2, fl3]
  refine sg_run (by kernel_rfl) (.int .i64 (m2 : Int)) w2 (by kernel_rfl) ?_
  simp only [Act.put, fl1, fl2, fl3]
  refine sg_run (by kernel_rfl) (.bool false) w2 (exec_gtr _ _ _ rfl (m2 : Int) 3000 (by kernel_rfl) (by kernel_rfl) false (decide_eq_false (by omega))) ?_
  simp only [Act.put, fl1, fl2, fl3]
  refine sl_run rfl (.bool false) w2 (by kernel_rfl) ?_
  simp only [Act.put, fl1, fl2, fl3]
  refine wpList_nil ?_
  obtain ⟨bs, er, hr⟩ : ∃ x y, recS N p = (x, y) := ⟨_, _, rfl⟩
  have hrH : Hid (recS N p = (bs, er)) := hr
  clear hr
  go_upto_region 5 with fail
  refine wp_normalG ?_
  refine wp_region_held_drew (S := fun w' => Below w2.heap.size w2 w') (by kernel_rfl) (Below.refl _ _).drew (fun hS => ?_)
  change wpAnyH _ _ _ _ _ 12 (Array.replicate 12 false) _ _
  generalize hX : w2.drew = w3 at hS ⊢
  clear hX
  have hZw3 : Hid (Below w2.heap.size w2 w3) := hS
  have hBw3 : Hid (Below w.heap.size w w3) := (hBw2.out).trans ((hS).mono (hBw2.out).size)
  have hyw3 : Hid (Rw 1 encB w3 (.slice A m c) p) := (hyw2.out).below hS
  have hzw3 : Hid (Rw 1 encB w3 (.slice A2 m2 c2) q) := (hzw2.out).below hS
  have hxw3 : Hid (w3.heap[Xb]? = some (.cells #[.int .i64 N, .slice A m c, .slice A2 m2 c2, .int .i64 cut] 36 (0, 0))) := heap_kept (hxw2.out) hS
  have hBP : Hid (∀ w', Below w2.heap.size w2 w' → Below w.heap.size w w') := fun w' h => (hBw2.out).trans ((h).mono (hBw2.out).size)
  have hyP : Hid (∀ w', Below w2.heap.size w2 w' → Rw 1 encB w' (.slice A m c) p) := fun w' h => (hyw2.out).below h
  have hzP : Hid (∀ w', Below w2.heap.size w2 w' → Rw 1 encB w' (.slice A2 m2 c2) q) := fun w' h => (hzw2.out).below h
  have hxP : Hid (∀ w', Below w2.heap.size w2 w' → w'.heap[Xb]? = some (.cells #[.int .i64 N, .slice A m c, .slice A2 m2 c2, .int .i64 cut] 36 (0, 0))) := fun w' h => heap_kept (hxw2.out) h
  clear hS hBw2 hyw2 hzw2 hxw2
  refine held_take 0 rfl (by kernel_rfl) (by kernel_rfl) (by kernel_rfl) (.pointer (some ⟨Xb, 0, none⟩)) (fun _ _ _ h => nomatch h.1) (by kernel_rfl) (fun w' h => (by kernel_rfl)) hZw3.out ?_
  simp only [Act.put, fl1, fl2, fl3, fl4, fl5, fl6]
  refine held_take 1 rfl (by kernel_rfl) (by kernel_rfl) (by kernel_rfl) (.int .i64 N) (fun _ _ _ h => nomatch h.1) (by kernel_rfl) (fun w' h => (exec_load_cell 3 w' _ rfl ⟨Xb, 0, none⟩ (by kernel_rfl) _ (by rw [cell_of_row _ _ _ _ _ _ (hxP.out w' h)]; rfl) (fun _ => by kernel_rfl))) hZw3.out ?_
  simp only [Act.put, fl1, fl2, fl3, fl4, fl5, fl6]
  refine held_take 3 rfl (by kernel_rfl) (by kernel_rfl) (by kernel_rfl) (.pointer (some ⟨Xb, 1, none⟩)) (fun _ _ _ h => nomatch h.1) (by kernel_rfl) (fun w' h => (by kernel_rfl)) hZw3.out ?_
  simp only [Act.put, fl1, fl2, fl3, fl4, fl5, fl6]
  refine held_take 4 rfl (by kernel_rfl) (by kernel_rfl) (by kernel_rfl) (.slice A m c) (fun _ _ _ h => nomatch h.1) (by kernel_rfl) (fun w' h => (exec_load_cell 22 w' _ rfl ⟨Xb, 1, none⟩ (by kernel_rfl) _ (by rw [cell_of_row _ _ _ _ _ _ (hxP.out w' h)]; rfl) (fun _ => by kernel_rfl))) hZw3.out ?_
  simp only [Act.put, fl1, fl2, fl3, fl4, fl5, fl6]
  refine held_run 2 rfl (by kernel_rfl) (by kernel_rfl) (.slice (some ⟨w3.heap.size, 0, none⟩) 0 0) (w3.alloc (.cells #[] 5)) (by kernel_rfl) (hZw3.out.alloc hZw3.out.size _) ?_
  simp only [Act.put, fl1, fl2, fl3, fl4, fl5, fl6]
  generalize hX : w3.alloc (.cells #[] 5) = w4
  have hb : Below w3.heap.size w3 w4 := by rw [← hX]; exact (Below.refl _ _).alloc (Nat.le_refl _) _
  obtain ⟨E0, hE⟩ : ∃ E, E = w3.heap.size := ⟨_, rfl⟩
  have ho9 : w4.ownsRow w2.heap.size 5 1 (.slice (some ⟨E0, 0, none⟩) 0 0) ([] : List Nat).length (vals ([] : List Nat)) := by
    rw [← hX, hE]; exact own_mono (World.ownsRow_made _ _ 0 (Nat.le_refl _) (by decide) rfl) hZw3.out.size
  rw [← hE]
  clear hX hE
  have hZw4 : Hid (Below w2.heap.size w2 w4) := hZw3.out.trans (hb.mono hZw3.out.size)
  have hBw4 : Hid (Below w.heap.size w w4) := (hBw3.out).trans ((hb).mono (hBw3.out).size)
  have hyw4 : Hid (Rw 1 encB w4 (.slice A m c) p) := (hyw3.out).below hb
  have hzw4 : Hid (Rw 1 encB w4 (.slice A2 m2 c2) q) := (hzw3.out).below hb
  have hxw4 : Hid (w4.heap[Xb]? = some (.cells #[.int .i64 N, .slice A m c, .slice A2 m2 c2, .int .i64 cut] 36 (0, 0))) := heap_kept (hxw3.out) hb
  clear hBw3 hyw3 hzw3 hxw3
  have hOw4 : Hid (w4.ownsRow w2.heap.size 5 1 (.slice (some ⟨E0, 0, none⟩) 0 0) ([] : List Nat).length (vals ([] : List Nat))) := ho9
  clear ho9 hb hZw3
  obtain ⟨va, w5, hea, hOa, hga⟩ := exec_append22' (w := w4) (.tmp 24) (.tmp 26) w2.heap.size (.slice (some ⟨E0, 0, none⟩) 0 0) (([] : List Nat)) (p) hOw4.out (.slice A m c) (rw_bytes.1 (hyw4.out)) (by have := hm'.out; simp; omega) hZw4.out.size
  have hZw5 : Hid (Below w2.heap.size w2 w5) := hZw4.out.grown hga hZw4.out.size (fun q hq => (hOw4.out.lt q hq).1)
  obtain ⟨A1, c1, rfl⟩ := own_form hOa
  obtain ⟨n1, hn5⟩ : ∃ k, k = (([] : List Nat) ++ p).length := ⟨_, rfl⟩
  rw [← hn5] at hea
  have hn1 : Hid (n1 = (([] : List Nat) ++ p).length) := hn5
  have hOw5 : Hid (w5.ownsRow w2.heap.size 5 1 (.slice A1 n1 c1) (([] : List Nat) ++ p).length (vals (([] : List Nat) ++ p))) := by rw [hn5]; exact hOa
  refine held_run 5 rfl (by kernel_rfl) (by kernel_rfl) (.slice A1 n1 c1) w5 (hea rfl (by kernel_rfl) (by kernel_rfl)) hZw5.out ?_
  simp only [Act.put, fl1, fl2, fl3, fl4, fl5, fl6]
  clear hea hOa hga hn5 hOw4 hBw4 hyw4 hzw4 hxw4
  have hBw5 : Hid (Below w.heap.size w w5) := hBP.out w5 hZw5.out
  have hyw5 : Hid (Rw 1 encB w5 (.slice A m c) p) := hyP.out w5 hZw5.out
  have hzw5 : Hid (Rw 1 encB w5 (.slice A2 m2 c2) q) := hzP.out w5 hZw5.out
  have hxw5 : Hid (w5.heap[Xb]? = some (.cells #[.int .i64 N, .slice A m c, .slice A2 m2 c2, .int .i64 cut] 36 (0, 0))) := hxP.out w5 hZw5.out
  clear hZw4
  have hbq : Rw 1 encB w5 (.slice A1 n1 c1) p := by have h8 := own_rw hOw5.out; rwa [List.nil_append] at h8
  have hn1' : n1 = p.length := by rw [hn1.out]; simp
  refine held_call 6 rfl (by kernel_rfl) (by kernel_rfl) 10 #[.int .i64 N, .slice A1 n1 c1] (by kernel_rfl) (R := fun v w' => ∃ u, v = .tuple #[u, .int .i64 (er : Int)] ∧ Rw 1 encB w' u bs ∧ Below w5.heap.size w5 w') ?hlc2 ?_
  case hlc2 =>
    have h8 := Record_calls N (by omega) p hpH.out A1 n1 c1 hn1' (by have := hm'.out; omega) w5 hbq
    rw [hrH.out] at h8
    exact h8.mono fun e w' h => by
      obtain ⟨v, h1, h2, h3⟩ := h
      exact ⟨_, h1, v, rfl, h2, h3⟩
  rintro _ w6 ⟨r9, rfl, hr0, hb⟩
  have hZw6 : Hid (Below w2.heap.size w2 w6) := hZw5.out.trans (hb.mono hZw5.out.size)
  have hBw6 : Hid (Below w.heap.size w w6) := (hBw5.out).trans ((hb).mono (hBw5.out).size)
  have hyw6 : Hid (Rw 1 encB w6 (.slice A m c) p) := (hyw5.out).below hb
  have hzw6 : Hid (Rw 1 encB w6 (.slice A2 m2 c2) q) := (hzw5.out).below hb
  have hxw6 : Hid (w6.heap[Xb]? = some (.cells #[.int .i64 N, .slice A m c, .slice A2 m2 c2, .int .i64 cut] 36 (0, 0))) := heap_kept (hxw5.out) hb
  clear hBw5 hyw5 hzw5 hxw5
  obtain ⟨Ab, cb, rfl⟩ := hr0.form
  obtain ⟨nb, hn5⟩ : ∃ k, k = bs.length := ⟨_, rfl⟩
  rw [← hn5] at hr0 ⊢
  have hnb : Hid (nb = bs.length) := hn5
  have hrw6 : Hid (Rw 1 encB w6 (.slice Ab nb cb) bs) := hr0
  clear hr0 hb hn5 hbq hn1' hn1 hOw5 hZw5
  refine ⟨hZw6.out, ?_⟩
  simp only [Act.put, fl1, fl2, fl3, fl4, fl5, fl6]
  refine held_take 7 rfl (by kernel_rfl) (by kernel_rfl) (by kernel_rfl) (.tuple #[.slice Ab nb cb, .int .i64 (er : Int)]) (fun _ _ _ h => nomatch h.1) (by kernel_rfl) (fun w' h => (by kernel_rfl)) hZw6.out ?_
  simp only [Act.put, fl1, fl2, fl3, fl4, fl5, fl6]
  refine held_take 8 rfl (by kernel_rfl) (by kernel_rfl) (by kernel_rfl) (.slice Ab nb cb) (fun _ _ _ h => nomatch h.1) (by kernel_rfl) (fun w' h => (by kernel_rfl)) hZw6.out ?_
  simp only [Act.put, fl1, fl2, fl3, fl4, fl5, fl6]
  refine held_take 9 rfl (by kernel_rfl) (by kernel_rfl) (by kernel_rfl) (.int .i64 (er : Int)) (fun _ _ _ h => nomatch h.1) (by kernel_rfl) (fun w' h => (by kernel_rfl)) hZw6.out ?_
  simp only [Act.put, fl1, fl2, fl3, fl4, fl5, fl6]
  refine held_take 10 rfl (by kernel_rfl) (by kernel_rfl) (by kernel_rfl) (.slice Ab nb cb) (fun _ _ _ h => nomatch h.1) (by kernel_rfl) (fun w' h => (by kernel_rfl)) hZw6.out ?_
  simp only [Act.put, fl1, fl2, fl3, fl4, fl5, fl6]
  refine held_take 11 rfl (by kernel_rfl) (by kernel_rfl) (by kernel_rfl) (.int .i64 (er : Int)) (fun _ _ _ h => nomatch h.1) (by kernel_rfl) (fun w' h => (by kernel_rfl)) hZw6.out ?_
  simp only [Act.put, fl1, fl2, fl3, fl4, fl5, fl6]
  refine wpAnyH_done (by kernel_rfl) ?_ _
  refine ⟨rfl, ?_⟩
  rename_i hKK
  refine hKK _ _ ?_
  clear hKK
  clear hZw6 hBP hyP hzP hxP
  by_cases hn1 : N < 1
  case pos =>
    have hv : bs = [] ∧ er = 1 := by
      have h8 := hrH.out
      unfold recS at h8
      rw [if_pos hn1] at h8
      injection h8 with h8 h9
      exact ⟨h8.symm, h9.symm⟩
    have hb0 : nb = 0 := by rw [hnb.out, hv.1]; rfl
    have her : er = 1 := hv.2
    clear hv
    go_upto_region 6 with fail
    refine wp_region_lit ?_
    refine sl_run rfl (.int .i64 (er : Int)) w6 (by kernel_rfl) ?_
    simp only [Act.put, fl1, fl2, fl3]
    refine sl_run rfl (.bool true) w6 (exec_nen _ _ _ rfl er 0 (by kernel_rfl) (by kernel_rfl) true (decide_eq_true (by omega))) ?_
    simp only [Act.put, fl1, fl2, fl3]
    refine sl_run rfl (.bool true) w6 (by kernel_rfl) ?_
    simp only [Act.put, fl1, fl2, fl3]
    rw [wpList, if_neg (by rw [show Region.wanted _ _ = false by kernel_rfl]; decide)]
    simp only [Act.put, fl1, fl2, fl3]
    rw [wpList, if_neg (by rw [show Region.wanted _ _ = false by kernel_rfl]; decide)]
    simp only [Act.put, fl1, fl2, fl3]
    rw [wpList, if_neg (by rw [show Region.wanted _ _ = false by kernel_rfl]; decide)]
    simp only [Act.put, fl1, fl2, fl3]
    refine sl_run rfl (.bool true) w6 (by kernel_rfl) ?_
    simp only [Act.put, fl1, fl2, fl3]
    refine wpList_nil ?_
    go_upto_region 7 with fail
    refine wp_region_lit ?_
    refine sl_run rfl (.int .i64 (er : Int)) w6 (by kernel_rfl) ?_
    simp only [Act.put, fl1, fl2, fl3]
    refine sl_run rfl (.bool false) w6 (exec_eqn _ _ _ rfl er 0 (by kernel_rfl) (by kernel_rfl) false (decide_eq_false (by omega))) ?_
    simp only [Act.put, fl1, fl2, fl3]
    refine sl_run rfl (.bool false) w6 (by kernel_rfl) ?_
    simp only [Act.put, fl1, fl2, fl3]
    refine sg_run (by kernel_rfl) (.pointer (some ⟨Xb, 0, none⟩)) w6 (by kernel_rfl) ?_
    simp only [Act.put, fl1, fl2, fl3]
    refine sg_run (by kernel_rfl) (.int .i64 N) w6 (exec_load_cell 3 w6 _ rfl ⟨Xb, 0, none⟩ (by kernel_rfl) _ (by rw [cell_of_row _ _ _ _ _ _ hxw6.out]; rfl) (fun _ => by kernel_rfl)) ?_
    simp only [Act.put, fl1, fl2, fl3]
    refine sg_run (by kernel_rfl) (.bool true) w6 (exec_lss _ _ _ rfl N 1 (by kernel_rfl) (by kernel_rfl) true (decide_eq_true hn1)) ?_
    simp only [Act.put, fl1, fl2, fl3]
    refine sg_run (by kernel_rfl) (.bool true) w6 (by kernel_rfl) ?_
    simp only [Act.put, fl1, fl2, fl3]
    refine sg_run (by kernel_rfl) (.slice Ab nb cb) w6 (by kernel_rfl) ?_
    simp only [Act.put, fl1, fl2, fl3]
    refine sg_run (by kernel_rfl) (.int .i64 (nb : Int)) w6 (by kernel_rfl) ?_
    simp only [Act.put, fl1, fl2, fl3]
    refine sg_run (by kernel_rfl) (.bool true) w6 (exec_eqI _ _ _ rfl (nb : Int) 0 (by kernel_rfl) (by kernel_rfl) true (by rw [hb0]; rfl)) ?_
    simp only [Act.put, fl1, fl2, fl3]
    refine sg_run (by kernel_rfl) (.bool true) w6 (by kernel_rfl) ?_
    simp only [Act.put, fl1, fl2, fl3]
    refine sl_run rfl (.bool true) w6 (by kernel_rfl) ?_
    simp only [Act.put, fl1, fl2, fl3]
    refine sl_run rfl (.bool true) w6 (by kernel_rfl) ?_
    simp only [Act.put, fl1, fl2, fl3]
    refine wpList_nil ?_
    clear hb0 her
    have hF := hBw6
    clear hBw6 hyw6 hzw6 hxw6 hrw6 hm' hm2' hpH hqH hrH hnb
    go_wp2_with fail
    go_ret
    exact ⟨rfl, hF.out⟩
  case neg =>
  obtain ⟨k, rfl⟩ : ∃ k : Nat, N = (k : Int) := ⟨N.toNat, by omega⟩
  have hv : bs = recB k p ∧ er = 0 := by
    have h8 := hrH.out
    rw [recS_ok k (by omega) p (by have := hm'.out; omega)] at h8
    injection h8 with h8 h9
    exact ⟨h8.symm, h9.symm⟩
  have hbk : Hid (bs = recB k p) := hv.1
  have her : er = 0 := hv.2
  clear hv hrH
  by_cases hn4 : 1099511627776 < k
  case pos =>
    go_upto_region 6 with fail
    refine wp_region_lit ?_
    refine sl_run rfl (.int .i64 (er : Int)) w6 (by kernel_rfl) ?_
    simp only [Act.put, fl1, fl2, fl3]
    refine sl_run rfl (.bool false) w6 (exec_nen _ _ _ rfl er 0 (by kernel_rfl) (by kernel_rfl) false (decide_eq_false (by omega))) ?_
    simp only [Act.put, fl1, fl2, fl3]
    refine sl_run rfl (.bool false) w6 (by kernel_rfl) ?_
    simp only [Act.put, fl1, fl2, fl3]
    refine sg_run (by kernel_rfl) (.pointer (some ⟨Xb, 0, none⟩)) w6 (by kernel_rfl) ?_
    simp only [Act.put, fl1, fl2, fl3]
    refine sg_run (by kernel_rfl) (.int .i64 (k : Int)) w6 (exec_load_cell 3 w6 _ rfl ⟨Xb, 0, none⟩ (by kernel_rfl) _ (by rw [cell_of_row _ _ _ _ _ _ hxw6.out]; rfl) (fun _ => by kernel_rfl)) ?_
    simp only [Act.put, fl1, fl2, fl3]
    refine sg_run (by kernel_rfl) (.bool true) w6 (exec_gtr _ _ _ rfl (k : Int) 1099511627776 (by kernel_rfl) (by kernel_rfl) true (decide_eq_true (by omega))) ?_
    simp only [Act.put, fl1, fl2, fl3]
    refine sl_run rfl (.bool true) w6 (by kernel_rfl) ?_
    simp only [Act.put, fl1, fl2, fl3]
    refine wpList_nil ?_
    go_upto_region 7 with fail
    refine wp_region_lit ?_
    refine sl_run rfl (.int .i64 (er : Int)) w6 (by kernel_rfl) ?_
    simp only [Act.put, fl1, fl2, fl3]
    refine sl_run rfl (.bool true) w6 (exec_eqn _ _ _ rfl er 0 (by kernel_rfl) (by kernel_rfl) true (decide_eq_true (by omega))) ?_
    simp only [Act.put, fl1, fl2, fl3]
    refine sl_run rfl (.bool true) w6 (by kernel_rfl) ?_
    simp only [Act.put, fl1, fl2, fl3]
    rw [wpList, if_neg (by rw [show Region.wanted _ _ = false by kernel_rfl]; decide)]
    simp only [Act.put, fl1, fl2, fl3]
    rw [wpList, if_neg (by rw [show Region.wanted _ _ = false by kernel_rfl]; decide)]
    simp only [Act.put, fl1, fl2, fl3]
    rw [wpList, if_neg (by rw [show Region.wanted _ _ = false by kernel_rfl]; decide)]
    simp only [Act.put, fl1, fl2, fl3]
    rw [wpList, if_neg (by rw [show Region.wanted _ _ = false by kernel_rfl]; decide)]
    simp only [Act.put, fl1, fl2, fl3]
    rw [wpList, if_neg (by rw [show Region.wanted _ _ = false by kernel_rfl]; decide)]
    simp only [Act.put, fl1, fl2, fl3]
    rw [wpList, if_neg (by rw [show Region.wanted _ _ = false by kernel_rfl]; decide)]
    simp only [Act.put, fl1, fl2, fl3]
    rw [wpList, if_neg (by rw [show Region.wanted _ _ = false by kernel_rfl]; decide)]
    simp only [Act.put, fl1, fl2, fl3]
    rw [wpList, if_neg (by rw [show Region.wanted _ _ = false by kernel_rfl]; decide)]
    simp only [Act.put, fl1, fl2, fl3]
    refine sl_run rfl (.bool true) w6 (by kernel_rfl) ?_
    simp only [Act.put, fl1, fl2, fl3]
    refine sl_run rfl (.bool true) w6 (by kernel_rfl) ?_
    simp only [Act.put, fl1, fl2, fl3]
    refine wpList_nil ?_
    clear her hn4
    have hF := hBw6
    clear hBw6 hyw6 hzw6 hxw6 hrw6 hm' hm2' hpH hqH hbk hnb
    go_wp2_with fail
    go_ret
    exact ⟨rfl, hF.out⟩
  case neg =>
  go_upto_region 6 with fail
  refine wp_region_lit ?_
  refine sl_run rfl (.int .i64 (er : Int)) w6 (by kernel_rfl) ?_
  simp only [Act.put, fl1, fl2, fl3]
  refine sl_run rfl (.bool false) w6 (exec_nen _ _ _ rfl er 0 (by kernel_rfl) (by kernel_rfl) false (decide_eq_false (by omega))) ?_
  simp only [Act.put, fl1, fl2, fl3]
  refine sl_run rfl (.bool false) w6 (by kernel_rfl) ?_
  simp only [Act.put, fl1, fl2, fl3]
  refine sg_run (by kernel_rfl) (.pointer (some ⟨Xb, 0, none⟩)) w6 (by kernel_rfl) ?_
  simp only [Act.put, fl1, fl2, fl3]
  refine sg_run (by kernel_rfl) (.int .i64 (k : Int)) w6 (exec_load_cell 3 w6 _ rfl ⟨Xb, 0, none⟩ (by kernel_rfl) _ (by rw [cell_of_row _ _ _ _ _ _ hxw6.out]; rfl) (fun _ => by kernel_rfl)) ?_
  simp only [Act.put, fl1, fl2, fl3]
  refine sg_run (by kernel_rfl) (.bool false) w6 (exec_gtr _ _ _ rfl (k : Int) 1099511627776 (by kernel_rfl) (by kernel_rfl) false (decide_eq_false (by omega))) ?_
  simp only [Act.put, fl1, fl2, fl3]
  refine sl_run rfl (.bool false) w6 (by kernel_rfl) ?_
  simp only [Act.put, fl1, fl2, fl3]
  refine wpList_nil ?_
  have hbl : bs.length = p.length + 17 := by rw [hbk.out, recB_len]
  obtain ⟨rest, en, hsc, hen⟩ := scan_first k (by omega) (by omega) p (by have := hm'.out; omega) q
  rw [← hbk.out] at hsc
  have hscH : Hid (scan0 (bs ++ q) = (k, p :: rest, en)) := hsc
  have hbb : Hid (∀ x ∈ bs, x < 256) := by rw [hbk.out]; exact recB_byt k p hpH.out
  have hbq : Hid (∀ x ∈ bs ++ q, x < 256) := fun x hx => by
    rcases List.mem_append.1 hx with h | h
    · exact hbb.out x h
    · exact hqH.out x h
  clear hsc
  go_upto_region 8 with fail
  refine wp_normalG ?_
  refine wp_region_held_drew (S := fun w' => Below w6.heap.size w6 w') (by kernel_rfl) (Below.refl _ _).drew (fun hS => ?_)
  change wpAnyH _ _ _ _ _ 14 (Array.replicate 14 false) _ _
  generalize hX : w6.drew = w7 at hS ⊢
  clear hX
  have hZw7 : Hid (Below w6.heap.size w6 w7) := hS
  have hBw7 : Hid (Below w.heap.size w w7) := (hBw6.out).trans ((hS).mono (hBw6.out).size)
  have hyw7 : Hid (Rw 1 encB w7 (.slice A m c) p) := (hyw6.out).below hS
  have hzw7 : Hid (Rw 1 encB w7 (.slice A2 m2 c2) q) := (hzw6.out).below hS
  have hxw7 : Hid (w7.heap[Xb]? = some (.cells #[.int .i64 (k : Int), .slice A m c, .slice A2 m2 c2, .int .i64 cut] 36 (0, 0))) := heap_kept (hxw6.out) hS
  have hrw7 : Hid (Rw 1 encB w7 (.slice Ab nb cb) bs) := (hrw6.out).below hS
  have hBP : Hid (∀ w', Below w6.heap.size w6 w' → Below w.heap.size w w') := fun w' h => (hBw6.out).trans ((h).mono (hBw6.out).size)
  have hyP : Hid (∀ w', Below w6.heap.size w6 w' → Rw 1 encB w' (.slice A m c) p) := fun w' h => (hyw6.out).below h
  have hzP : Hid (∀ w', Below w6.heap.size w6 w' → Rw 1 encB w' (.slice A2 m2 c2) q) := fun w' h => (hzw6.out).below h
  have hxP : Hid (∀ w', Below w6.heap.size w6 w' → w'.heap[Xb]? = some (.cells #[.int .i64 (k : Int), .slice A m c, .slice A2 m2 c2, .int .i64 cut] 36 (0, 0))) := fun w' h => heap_kept (hxw6.out) h
  have hrP : Hid (∀ w', Below w6.heap.size w6 w' → Rw 1 encB w' (.slice Ab nb cb) bs) := fun w' h => (hrw6.out).below h
  clear hS hBw6 hyw6 hzw6 hxw6 hrw6
  refine held_take 1 rfl (by kernel_rfl) (by kernel_rfl) (by kernel_rfl) (.slice Ab nb cb) (fun _ _ _ h => nomatch h.1) (by kernel_rfl) (fun w' h => (by kernel_rfl)) hZw7.out ?_
  simp only [Act.put, fl1, fl2, fl3, fl4, fl5, fl6]
  refine held_take 3 rfl (by kernel_rfl) (by kernel_rfl) (by kernel_rfl) (.pointer (some ⟨Xb, 2, none⟩)) (fun _ _ _ h => nomatch h.1) (by kernel_rfl) (fun w' h => (by kernel_rfl)) hZw7.out ?_
  simp only [Act.put, fl1, fl2, fl3, fl4, fl5, fl6]
  refine held_take 4 rfl (by kernel_rfl) (by kernel_rfl) (by kernel_rfl) (.slice A2 m2 c2) (fun _ _ _ h => nomatch h.1) (by kernel_rfl) (fun w' h => (exec_load_cell 22 w' _ rfl ⟨Xb, 2, none⟩ (by kernel_rfl) _ (by rw [cell_of_row _ _ _ _ _ _ (hxP.out w' h)]; rfl) (fun _ => by kernel_rfl))) hZw7.out ?_
  simp only [Act.put, fl1, fl2, fl3, fl4, fl5, fl6]
  refine held_run 0 rfl (by kernel_rfl) (by kernel_rfl) (.slice (some ⟨w7.heap.size, 0, none⟩) 0 0) (w7.alloc (.cells #[] 5)) (by kernel_rfl) (hZw7.out.alloc hZw7.out.size _) ?_
  simp only [Act.put, fl1, fl2, fl3, fl4, fl5, fl6]
  generalize hX : w7.alloc (.cells #[] 5) = w8
  have hb : Below w7.heap.size w7 w8 := by rw [← hX]; exact (Below.refl _ _).alloc (Nat.le_refl _) _
  obtain ⟨E0, hE⟩ : ∃ E, E = w7.heap.size := ⟨_, rfl⟩
  have ho9 : w8.ownsRow w6.heap.size 5 1 (.slice (some ⟨E0, 0, none⟩) 0 0) ([] : List Nat).length (vals ([] : List Nat)) := by
    rw [← hX, hE]; exact own_mono (World.ownsRow_made _ _ 0 (Nat.le_refl _) (by decide) rfl) hZw7.out.size
  rw [← hE]
  clear hX hE
  have hZw8 : Hid (Below w6.heap.size w6 w8) := hZw7.out.trans (hb.mono hZw7.out.size)
  have hBw8 : Hid (Below w.heap.size w w8) := (hBw7.out).trans ((hb).mono (hBw7.out).size)
  have hyw8 : Hid (Rw 1 encB w8 (.slice A m c) p) := (hyw7.out).below hb
  have hzw8 : Hid (Rw 1 encB w8 (.slice A2 m2 c2) q) := (hzw7.out).below hb
  have hxw8 : Hid (w8.heap[Xb]? = some (.cells #[.int .i64 (k : Int), .slice A m c, .slice A2 m2 c2, .int .i64 cut] 36 (0, 0))) := heap_kept (hxw7.out) hb
  have hrw8 : Hid (Rw 1 encB w8 (.slice Ab nb cb) bs) := (hrw7.out).below hb
  clear hBw7 hyw7 hzw7 hxw7 hrw7
  have hOw8 : Hid (w8.ownsRow w6.heap.size 5 1 (.slice (some ⟨E0, 0, none⟩) 0 0) ([] : List Nat).length (vals ([] : List Nat))) := ho9
  clear ho9 hb hZw7
  obtain ⟨va, w9, hea, hOa, hga⟩ := exec_append22' (w := w8) (.tmp 51) (.tmp 52) w6.heap.size (.slice (some ⟨E0, 0, none⟩) 0 0) (([] : List Nat)) (bs) hOw8.out (.slice Ab nb cb) (rw_bytes.1 (hrw8.out)) (by have := hm'.out; simp; omega) hZw8.out.size
  have hZw9 : Hid (Below w6.heap.size w6 w9) := hZw8.out.grown hga hZw8.out.size (fun q hq => (hOw8.out.lt q hq).1)
  obtain ⟨A3, c3, rfl⟩ := own_form hOa
  obtain ⟨n3, hn5⟩ : ∃ k, k = (([] : List Nat) ++ bs).length := ⟨_, rfl⟩
  rw [← hn5] at hea
  have hn3 : Hid (n3 = (([] : List Nat) ++ bs).length) := hn5
  have hOw9 : Hid (w9.ownsRow w6.heap.size 5 1 (.slice A3 n3 c3) (([] : List Nat) ++ bs).length (vals (([] : List Nat) ++ bs))) := by rw [hn5]; exact hOa
  refine held_run 2 rfl (by kernel_rfl) (by kernel_rfl) (.slice A3 n3 c3) w9 (hea rfl (by kernel_rfl) (by kernel_rfl)) hZw9.out ?_
  simp only [Act.put, fl1, fl2, fl3, fl4, fl5, fl6]
  clear hea hOa hga hn5 hOw8 hBw8 hyw8 hzw8 hxw8 hrw8
  have hBw9 : Hid (Below w.heap.size w w9) := hBP.out w9 hZw9.out
  have hyw9 : Hid (Rw 1 encB w9 (.slice A m c) p) := hyP.out w9 hZw9.out
  have hzw9 : Hid (Rw 1 encB w9 (.slice A2 m2 c2) q) := hzP.out w9 hZw9.out
  have hxw9 : Hid (w9.heap[Xb]? = some (.cells #[.int .i64 (k : Int), .slice A m c, .slice A2 m2 c2, .int .i64 cut] 36 (0, 0))) := hxP.out w9 hZw9.out
  have hrw9 : Hid (Rw 1 encB w9 (.slice Ab nb cb) bs) := hrP.out w9 hZw9.out
  clear hZw8
  obtain ⟨va, w10, hea, hOa, hga⟩ := exec_append22' (w := w9) (.tmp 53) (.tmp 55) w6.heap.size (.slice A3 n3 c3) (([] : List Nat) ++ bs) (q) hOw9.out (.slice A2 m2 c2) (rw_bytes.1 (hzw9.out)) (by have := hm'.out; have := hm2'.out; simp; omega) hZw9.out.size
  have hZw10 : Hid (Below w6.heap.size w6 w10) := hZw9.out.grown hga hZw9.out.size (fun q hq => (hOw9.out.lt q hq).1)
  obtain ⟨A4, c4, rfl⟩ := own_form hOa
  obtain ⟨n4, hn5⟩ : ∃ k, k = (([] : List Nat) ++ bs ++ q).length := ⟨_, rfl⟩
  rw [← hn5] at hea
  have hn4 : Hid (n4 = (([] : List Nat) ++ bs ++ q).length) := hn5
  have hOw10 : Hid (w10.ownsRow w6.heap.size 5 1 (.slice A4 n4 c4) (([] : List Nat) ++ bs ++ q).length (vals (([] : List Nat) ++ bs ++ q))) := by rw [hn5]; exact hOa
  refine held_run 5 rfl (by kernel_rfl) (by kernel_rfl) (.slice A4 n4 c4) w10 (hea rfl (by kernel_rfl) (by kernel_rfl)) hZw10.out ?_
  simp only [Act.put, fl1, fl2, fl3, fl4, fl5, fl6]
  clear hea hOa hga hn5 hOw9 hBw9 hyw9 hzw9 hxw9 hrw9
  have hBw10 : Hid (Below w.heap.size w w10) := hBP.out w10 hZw10.out
  have hyw10 : Hid (Rw 1 encB w10 (.slice A m c) p) := hyP.out w10 hZw10.out
  have hzw10 : Hid (Rw 1 encB w10 (.slice A2 m2 c2) q) := hzP.out w10 hZw10.out
  have hxw10 : Hid (w10.heap[Xb]? = some (.cells #[.int .i64 (k : Int), .slice A m c, .slice A2 m2 c2, .int .i64 cut] 36 (0, 0))) := hxP.out w10 hZw10.out
  have hrw10 : Hid (Rw 1 encB w10 (.slice Ab nb cb) bs) := hrP.out w10 hZw10.out
  clear hZw9
  have hcat : Rw 1 encB w10 (.slice A4 n4 c4) (bs ++ q) := by have h8 := own_rw hOw10.out; rwa [List.nil_append] at h8
  have hn4' : n4 = (bs ++ q).length := by rw [hn4.out]; simp
  refine held_call 6 rfl (by kernel_rfl) (by kernel_rfl) 12 #[.slice A4 n4 c4] (by kernel_rfl) (R := fun v w' => ∃ u, v = .tuple #[.int .i64 (k : Int), u, .int .i64 (en : Int)] ∧ PLo w' w10.heap.size u (p :: rest) ∧ Below w10.heap.size w10 w') ?hlc3 ?_
  case hlc3 =>
    have h8 := Scan_calls (bs ++ q) hbq.out A4 n4 c4 hn4' (by have := hm'.out; have := hm2'.out; rw [hn4']; simp; omega) w10 hcat
    rw [hscH.out] at h8
    exact h8.mono fun e w' h => by
      obtain ⟨v, h1, h2, h3⟩ := h
      exact ⟨_, h1, v, rfl, h2, h3⟩
  rintro _ w11 ⟨r9, rfl, hr0, hb⟩
  have hZw11 : Hid (Below w6.heap.size w6 w11) := hZw10.out.trans (hb.mono hZw10.out.size)
  have hBw11 : Hid (Below w.heap.size w w11) := (hBw10.out).trans ((hb).mono (hBw10.out).size)
  have hyw11 : Hid (Rw 1 encB w11 (.slice A m c) p) := (hyw10.out).below hb
  have hzw11 : Hid (Rw 1 encB w11 (.slice A2 m2 c2) q) := (hzw10.out).below hb
  have hxw11 : Hid (w11.heap[Xb]? = some (.cells #[.int .i64 (k : Int), .slice A m c, .slice A2 m2 c2, .int .i64 cut] 36 (0, 0))) := heap_kept (hxw10.out) hb
  have hrw11 : Hid (Rw 1 encB w11 (.slice Ab nb cb) bs) := (hrw10.out).below hb
  clear hBw10 hyw10 hzw10 hxw10 hrw10
  have hr1 := hr0.read
  obtain ⟨Al, cl, rfl⟩ := hr1.form
  obtain ⟨nl, hn5⟩ : ∃ k, k = (p :: rest).length := ⟨_, rfl⟩
  rw [← hn5] at hr1 ⊢
  have hnl : Hid (nl = rest.length + 1) := hn5
  have hlw11 : Hid (PLr w11 (.slice Al nl cl) (p :: rest)) := hr1
  clear hr0 hr1 hb hn5 hcat hn4' hn3 hn4 hOw10 hZw10
  refine ⟨hZw11.out, ?_⟩
  simp only [Act.put, fl1, fl2, fl3, fl4, fl5, fl6]
  refine held_take 7 rfl (by kernel_rfl) (by kernel_rfl) (by kernel_rfl) (.tuple #[.int .i64 (k : Int), .slice Al nl cl, .int .i64 (en : Int)]) (fun _ _ _ h => nomatch h.1) (by kernel_rfl) (fun w' h => (by kernel_rfl)) hZw11.out ?_
  simp only [Act.put, fl1, fl2, fl3, fl4, fl5, fl6]
  refine held_take 8 rfl (by kernel_rfl) (by kernel_rfl) (by kernel_rfl) (.int .i64 (k : Int)) (fun _ _ _ h => nomatch h.1) (by kernel_rfl) (fun w' h => (by kernel_rfl)) hZw11.out ?_
  simp only [Act.put, fl1, fl2, fl3, fl4, fl5, fl6]
  refine held_take 9 rfl (by kernel_rfl) (by kernel_rfl) (by kernel_rfl) (.slice Al nl cl) (fun _ _ _ h => nomatch h.1) (by kernel_rfl) (fun w' h => (by kernel_rfl)) hZw11.out ?_
  simp only [Act.put, fl1, fl2, fl3, fl4, fl5, fl6]
  refine held_take 10 rfl (by kernel_rfl) (by kernel_rfl) (by kernel_rfl) (.int .i64 (en : Int)) (fun _ _ _ h => nomatch h.1) (by kernel_rfl) (fun w' h => (by kernel_rfl)) hZw11.out ?_
  simp only [Act.put, fl1, fl2, fl3, fl4, fl5, fl6]
  refine held_take 11 rfl (by kernel_rfl) (by kernel_rfl) (by kernel_rfl) (.int .i64 (k : Int)) (fun _ _ _ h => nomatch h.1) (by kernel_rfl) (fun w' h => (by kernel_rfl)) hZw11.out ?_
  simp only [Act.put, fl1, fl2, fl3, fl4, fl5, fl6]
  refine held_take 12 rfl (by kernel_rfl) (by kernel_rfl) (by kernel_rfl) (.slice Al nl cl) (fun _ _ _ h => nomatch h.1) (by kernel_rfl) (fun w' h => (by kernel_rfl)) hZw11.out ?_
  simp only [Act.put, fl1, fl2, fl3, fl4, fl5, fl6]
  refine held_take 13 rfl (by kernel_rfl) (by kernel_rfl) (by kernel_rfl) (.int .i64 (en : Int)) (fun _ _ _ h => nomatch h.1) (by kernel_rfl) (fun w' h => (by kernel_rfl)) hZw11.out ?_
  simp only [Act.put, fl1, fl2, fl3, fl4, fl5, fl6]
  refine wpAnyH_done (by kernel_rfl) ?_ _
  refine ⟨rfl, ?_⟩
  rename_i hKK
  refine hKK _ _ ?_
  clear hKK
  clear hZw11 hBP hyP hzP hxP hrP
  obtain ⟨gl, ol, ul, rfl, hncl, hell⟩ := hlw11.out.elem 0 (by simp)
  have hellH : Hid (∀ w', Below w11.heap.size w11 w' → w'.cell? ⟨gl, ol + 0 * 1, none⟩ = some ul ∧ Rw 1 encB w' ul p) := fun w' h => hell.out w' h
  clear hell hlw11
  have hnl1 : 1 ≤ nl := by have := hnl.out; omega
  go_upto_region 9 with fail
  refine wp_normalG ?_
  refine wp_region_held_drew (S := fun w' => Below w11.heap.size w11 w') (by kernel_rfl) (Below.refl _ _).drew (fun hS => ?_)
  change wpAnyH _ _ _ _ _ 25 (Array.replicate 25 false) _ _
  generalize hX : w11.drew = w12 at hS ⊢
  clear hX
  have hZw12 : Hid (Below w11.heap.size w11 w12) := hS
  have hBw12 : Hid (Below w.heap.size w w12) := (hBw11.out).trans ((hS).mono (hBw11.out).size)
  have hyw12 : Hid (Rw 1 encB w12 (.slice A m c) p) := (hyw11.out).below hS
  have hzw12 : Hid (Rw 1 encB w12 (.slice A2 m2 c2) q) := (hzw11.out).below hS
  have hxw12 : Hid (w12.heap[Xb]? = some (.cells #[.int .i64 (k : Int), .slice A m c, .slice A2 m2 c2, .int .i64 cut] 36 (0, 0))) := heap_kept (hxw11.out) hS
  have hrw12 : Hid (Rw 1 encB w12 (.slice Ab nb cb) bs) := (hrw11.out).below hS
  have hBP : Hid (∀ w', Below w11.heap.size w11 w' → Below w.heap.size w w') := fun w' h => (hBw11.out).trans ((h).mono (hBw11.out).size)
  have hyP : Hid (∀ w', Below w11.heap.size w11 w' → Rw 1 encB w' (.slice A m c) p) := fun w' h => (hyw11.out).below h
  have hzP : Hid (∀ w', Below w11.heap.size w11 w' → Rw 1 encB w' (.slice A2 m2 c2) q) := fun w' h => (hzw11.out).below h
  have hxP : Hid (∀ w', Below w11.heap.size w11 w' → w'.heap[Xb]? = some (.cells #[.int .i64 (k : Int), .slice A m c, .slice A2 m2 c2, .int .i64 cut] 36 (0, 0))) := fun w' h => heap_kept (hxw11.out) h
  have hrP : Hid (∀ w', Below w11.heap.size w11 w' → Rw 1 encB w' (.slice Ab nb cb) bs) := fun w' h => (hrw11.out).below h
  clear hS hBw11 hyw11 hzw11 hxw11 hrw11
  refine held_take 0 rfl (by kernel_rfl) (by kernel_rfl) (by kernel_rfl) (.int .i64 (k : Int)) (fun _ _ _ h => nomatch h.1) (by kernel_rfl) (fun w' h => (by kernel_rfl)) hZw12.out ?_
  simp only [Act.put, fl1, fl2, fl3, fl4, fl5, fl6]
  refine held_take 1 rfl (by kernel_rfl) (by kernel_rfl) (by kernel_rfl) (.pointer (some ⟨Xb, 0, none⟩)) (fun _ _ _ h => nomatch h.1) (by kernel_rfl) (fun w' h => (by kernel_rfl)) hZw12.out ?_
  simp only [Act.put, fl1, fl2, fl3, fl4, fl5, fl6]
  refine held_take 2 rfl (by kernel_rfl) (by kernel_rfl) (by kernel_rfl) (.int .i64 (k : Int)) (fun _ _ _ h => nomatch h.1) (by kernel_rfl) (fun w' h => (exec_load_cell 3 w' _ rfl ⟨Xb, 0, none⟩ (by kernel_rfl) _ (by rw [cell_of_row _ _ _ _ _ _ (hxP.out w' h)]; rfl) (fun _ => by kernel_rfl))) hZw12.out ?_
  simp only [Act.put, fl1, fl2, fl3, fl4, fl5, fl6]
  refine held_take 3 rfl (by kernel_rfl) (by kernel_rfl) (by kernel_rfl) (.bool false) (fun _ _ _ h => nomatch h.1) (by kernel_rfl) (fun w' h => (exec_neI _ _ _ rfl (k : Int) (k : Int) (by kernel_rfl) (by kernel_rfl) false (by simp))) hZw12.out ?_
  simp only [Act.put, fl1, fl2, fl3, fl4, fl5, fl6]
  refine held_take 4 rfl (by kernel_rfl) (by kernel_rfl) (by kernel_rfl) (.bool false) (fun _ _ _ h => nomatch h.1) (by kernel_rfl) (fun w' h => (by kernel_rfl)) hZw12.out ?_
  simp only [Act.put, fl1, fl2, fl3, fl4, fl5, fl6]
  refine held_take 5 rfl (by kernel_rfl) (by kernel_rfl) (by kernel_rfl) (.slice (some ⟨gl, ol, none⟩) nl cl) (fun _ _ _ h => nomatch h.1) (by kernel_rfl) (fun w' h => (by kernel_rfl)) hZw12.out ?_
  simp only [Act.put, fl1, fl2, fl3, fl4, fl5, fl6]
  refine held_take 6 rfl (by kernel_rfl) (by kernel_rfl) (by kernel_rfl) (.int .i64 (nl : Int)) (fun _ _ _ h => nomatch h.1) (by kernel_rfl) (fun w' h => (by kernel_rfl)) hZw12.out ?_
  simp only [Act.put, fl1, fl2, fl3, fl4, fl5, fl6]
  refine held_take 7 rfl (by kernel_rfl) (by kernel_rfl) (by kernel_rfl) (.bool false) (fun _ _ _ h => nomatch h.1) (by kernel_rfl) (fun w' h => (exec_lss _ _ _ rfl (nl : Int) 1 (by kernel_rfl) (by kernel_rfl) false (decide_eq_false (by omega)))) hZw12.out ?_
  simp only [Act.put, fl1, fl2, fl3, fl4, fl5, fl6]
  refine held_take 8 rfl (by kernel_rfl) (by kernel_rfl) (by kernel_rfl) (.bool false) (fun _ _ _ h => nomatch h.1) (by kernel_rfl) (fun w' h => (by kernel_rfl)) hZw12.out ?_
  simp only [Act.put, fl1, fl2, fl3, fl4, fl5, fl6]
  refine held_take 9 rfl (by kernel_rfl) (by kernel_rfl) (by kernel_rfl) (.bool false) (fun _ _ _ h => nomatch h.1) (by kernel_rfl) (fun w' h => (by kernel_rfl)) hZw12.out ?_
  simp only [Act.put, fl1, fl2, fl3, fl4, fl5, fl6]
  refine held_take 10 rfl (by kernel_rfl) (by kernel_rfl) (by kernel_rfl) (.slice (some ⟨gl, ol, none⟩) nl cl) (fun _ _ _ h => nomatch h.1) (by kernel_rfl) (fun w' h => (by kernel_rfl)) hZw12.out ?_
  simp only [Act.put, fl1, fl2, fl3, fl4, fl5, fl6]
  refine held_take 11 rfl (by kernel_rfl) (by kernel_rfl) (by kernel_rfl) (.pointer (some ⟨gl, ol + 0 * 1, none⟩)) (fun _ _ _ h => nomatch h.1) (by kernel_rfl) (fun w' h => (exec_index un30s sz30s _ _ rfl gl ol nl cl 0 (by kernel_rfl) (by kernel_rfl) hnl1 w')) hZw12.out ?_
  simp only [Act.put, fl1, fl2, fl3, fl4, fl5, fl6]
  refine held_take 12 rfl (by kernel_rfl) (by kernel_rfl) (by kernel_rfl) (ul) (fun _ _ _ h => nomatch h.1) (by kernel_rfl) (fun w' h => (exec_load_cell 22 w' _ rfl ⟨gl, ol + 0 * 1, none⟩ (by kernel_rfl) _ (hellH.out w' h).1 (fun _ => by kernel_rfl))) hZw12.out ?_
  simp only [Act.put, fl1, fl2, fl3, fl4, fl5, fl6]
  refine held_take 13 rfl (by kernel_rfl) (by kernel_rfl) (by kernel_rfl) (.string (strB p)) (fun _ _ _ h => nomatch h.1) (by kernel_rfl) (fun w' h => (exec_convB _ rfl ul p (by kernel_rfl) (hellH.out w' h).2)) hZw12.out ?_
  simp only [Act.put, fl1, fl2, fl3, fl4, fl5, fl6]
  refine held_take 14 rfl (by kernel_rfl) (by kernel_rfl) (by kernel_rfl) (.pointer (some ⟨Xb, 1, none⟩)) (fun _ _ _ h => nomatch h.1) (by kernel_rfl) (fun w' h => (by kernel_rfl)) hZw12.out ?_
  simp only [Act.put, fl1, fl2, fl3, fl4, fl5, fl6]
  refine held_take 15 rfl (by kernel_rfl) (by kernel_rfl) (by kernel_rfl) (.slice A m c) (fun _ _ _ h => nomatch h.1) (by kernel_rfl) (fun w' h => (exec_load_cell 22 w' _ rfl ⟨Xb, 1, none⟩ (by kernel_rfl) _ (by rw [cell_of_row _ _ _ _ _ _ (hxP.out w' h)]; rfl) (fun _ => by kernel_rfl))) hZw12.out ?_
  simp only [Act.put, fl1, fl2, fl3, fl4, fl5, fl6]
  refine held_take 16 rfl (by kernel_rfl) (by kernel_rfl) (by kernel_rfl) (.string (strB p)) (fun _ _ _ h => nomatch h.1) (by kernel_rfl) (fun w' h => (exec_convB _ rfl (.slice A m c) p (by kernel_rfl) (hyP.out w' h))) hZw12.out ?_
  simp only [Act.put, fl1, fl2, fl3, fl4, fl5, fl6]
  refine held_take 17 rfl (by kernel_rfl) (by kernel_rfl) (by kernel_rfl) (.bool false) (fun _ _ _ h => nomatch h.1) (by kernel_rfl) (fun w' h => (exec_neS _ _ _ rfl (strB p) (strB p) (by kernel_rfl) (by kernel_rfl) false (by simp))) hZw12.out ?_
  simp only [Act.put, fl1, fl2, fl3, fl4, fl5, fl6]
  refine held_take 18 rfl (by kernel_rfl) (by kernel_rfl) (by kernel_rfl) (.bool false) (fun _ _ _ h => nomatch h.1) (by kernel_rfl) (fun w' h => (by kernel_rfl)) hZw12.out ?_
  simp only [Act.put, fl1, fl2, fl3, fl4, fl5, fl6]
  refine held_take 19 rfl (by kernel_rfl) (by kernel_rfl) (by kernel_rfl) (.bool false) (fun _ _ _ h => nomatch h.1) (by kernel_rfl) (fun w' h => (by kernel_rfl)) hZw12.out ?_
  simp only [Act.put, fl1, fl2, fl3, fl4, fl5, fl6]
  refine held_take 20 rfl (by kernel_rfl) (by kernel_rfl) (by kernel_rfl) (.int .i64 (en : Int)) (fun _ _ _ h => nomatch h.1) (by kernel_rfl) (fun w' h => (by kernel_rfl)) hZw12.out ?_
  simp only [Act.put, fl1, fl2, fl3, fl4, fl5, fl6]
  refine held_take 21 rfl (by kernel_rfl) (by kernel_rfl) (by kernel_rfl) (.slice Ab nb cb) (fun _ _ _ h => nomatch h.1) (by kernel_rfl) (fun w' h => (by kernel_rfl)) hZw12.out ?_
  simp only [Act.put, fl1, fl2, fl3, fl4, fl5, fl6]
  refine held_take 22 rfl (by kernel_rfl) (by kernel_rfl) (by kernel_rfl) (.int .i64 (nb : Int)) (fun _ _ _ h => nomatch h.1) (by kernel_rfl) (fun w' h => (by kernel_rfl)) hZw12.out ?_
  simp only [Act.put, fl1, fl2, fl3, fl4, fl5, fl6]
  refine held_take 23 rfl (by kernel_rfl) (by kernel_rfl) (by kernel_rfl) (.bool false) (fun _ _ _ h => nomatch h.1) (by kernel_rfl) (fun w' h => (exec_lss _ _ _ rfl (en : Int) (nb : Int) (by kernel_rfl) (by kernel_rfl) false (decide_eq_false (by have := hnb.out; omega)))) hZw12.out ?_
  simp only [Act.put, fl1, fl2, fl3, fl4, fl5, fl6]
  refine held_take 24 rfl (by kernel_rfl) (by kernel_rfl) (by kernel_rfl) (.bool false) (fun _ _ _ h => nomatch h.1) (by kernel_rfl) (fun w' h => (by kernel_rfl)) hZw12.out ?_
  simp only [Act.put, fl1, fl2, fl3, fl4, fl5, fl6]
  clear hellH
  refine wpAnyH_done (by kernel_rfl) ?_ _
  refine ⟨rfl, ?_⟩
  rename_i hKK
  refine hKK _ _ ?_
  clear hKK
  clear hZw12 hBP hyP hzP hxP hrP
  obtain ⟨cu, hcu⟩ : ∃ c, c = (cut % 18446744073709551616).toNat := ⟨_, rfl⟩
  have hcu2 : cu < 18446744073709551616 := by rw [hcu]; omega
  have hcuH : Hid (cu = (cut % 18446744073709551616).toNat) := hcu
  have hnb0 : nb = p.length + 17 := by rw [hnb.out, hbl]
  obtain ⟨j, hj⟩ : ∃ j, j = cu % nb := ⟨_, rfl⟩
  have hj2 : j < nb := by rw [hj]; exact Nat.mod_lt _ (by omega)
  have hjH : Hid (j = cu % nb) := hj
  clear hcu hj
  go_upto_region 11 with fail
  refine wp_region_lit ?_
  refine sl_run rfl (.pointer (some ⟨Xb, 3, none⟩)) w12 (by kernel_rfl) ?_
  simp only [Act.put, fl1, fl2, fl3]
  refine sl_run rfl (.int .i64 cut) w12 (exec_load_cell 3 w12 _ rfl ⟨Xb, 3, none⟩ (by kernel_rfl) _ (by rw [cell_of_row _ _ _ _ _ _ hxw12.out]; rfl) (fun _ => by kernel_rfl)) ?_
  simp only [Act.put, fl1, fl2, fl3]
  refine sl_run rfl (.int .u64 (cu : Int)) w12 ((exec_convW _ rfl cut (by kernel_rfl)).trans (by rw [← hcuH.out])) ?_
  simp only [Act.put, fl1, fl2, fl3]
  refine sl_run rfl (.slice Ab nb cb) w12 (by kernel_rfl) ?_
  simp only [Act.put, fl1, fl2, fl3]
  refine sl_run rfl (.int .i64 (nb : Int)) w12 (by kernel_rfl) ?_
  simp only [Act.put, fl1, fl2, fl3]
  refine sl_run rfl (.int .u64 (nb : Int)) w12 (exec_convI _ _ _ rfl _ _ _ (by kernel_rfl) (conv_u64 (nb : Int) (by omega) (by have := hm'.out; omega) _)) ?_
  simp only [Act.put, fl1, fl2, fl3]
  refine sl_run rfl (.int .u64 (j : Int)) w12 ((exec_remU _ _ rfl cu nb (by omega) hcu2 (by kernel_rfl) (by kernel_rfl)).trans (by rw [← hjH.out])) ?_
  simp only [Act.put, fl1, fl2, fl3]
  refine sl_run rfl (.int .i64 (j : Int)) w12 (exec_convU _ rfl j (by have := hm'.out; omega) (by kernel_rfl)) ?_
  simp only [Act.put, fl1, fl2, fl3]
  refine sl_run rfl (.int .i64 (j : Int)) w12 (by kernel_rfl) ?_
  simp only [Act.put, fl1, fl2, fl3]
  refine wpList_nil ?_
  obtain ⟨A9, hA9⟩ : ∃ A9, A9 = (if cb = 0 then Ab else Ab.map (·.add 0)) := ⟨_, rfl⟩
  obtain ⟨hjc, ht9⟩ := rw_take hnb.out hrw12.out j (by omega)
  rw [← hA9] at ht9
  have htkw12 : Hid (Rw 1 encB w12 (.slice A9 j cb) (bs.take j)) := ht9
  have hA9H : Hid (A9 = (if cb = 0 then Ab else Ab.map (·.add 0))) := hA9
  have hsc2 : Hid (scan0 (bs.take j) = (0, [], 0)) := by show _ = _; rw [hbk.out]; exact scan_cut k p (by have := hm'.out; omega) j (by omega)
  clear hA9 ht9
  go_upto_region 12 with fail
  refine wp_region_lit ?_
  refine sl_run rfl (.slice Ab nb cb) w12 (by kernel_rfl) ?_
  simp only [Act.put, fl1, fl2, fl3]
  refine sl_run rfl (.int .i64 (j : Int)) w12 (by kernel_rfl) ?_
  simp only [Act.put, fl1, fl2, fl3]
  refine sl_run rfl (.slice A9 j cb) w12 ((exec_takeS un22 sz22 _ _ rfl Ab nb cb j (by kernel_rfl) (by kernel_rfl) hjc _).trans (by rw [← hA9H.out])) ?_
  simp only [Act.put, fl1, fl2, fl3]
  refine sg_call (by kernel_rfl) 12 #[.slice A9 j cb] (by kernel_rfl) (R := fun v w' => ∃ u, v = .tuple #[.int .i64 ((0 : Nat) : Int), u, .int .i64 ((0 : Nat) : Int)] ∧ PLo w' w12.heap.size u [] ∧ Below w12.heap.size w12 w') ?hlc4 ?_
  case hlc4 =>
    have h8 := Scan_calls (bs.take j) (sub_take hbb.out) A9 j cb (by rw [List.length_take]; have := hnb.out; omega) (by have := hm'.out; omega) w12 htkw12.out
    rw [hsc2.out] at h8
    exact h8.mono fun e w' h => by
      obtain ⟨v, h1, h2, h3⟩ := h
      exact ⟨_, h1, v, rfl, h2, h3⟩
  rintro _ w13 ⟨r9, rfl, hr0, hb⟩
  simp only [Act.put, fl1, fl2, fl3]
  have hr1 := hr0.mono hBw12.out.size
  have hBw13 : Hid (Below w.heap.size w w13) := (hBw12.out).trans ((hb).mono (hBw12.out).size)
  have hyw13 : Hid (Rw 1 encB w13 (.slice A m c) p) := (hyw12.out).below hb
  have hzw13 : Hid (Rw 1 encB w13 (.slice A2 m2 c2) q) := (hzw12.out).below hb
  have hxw13 : Hid (w13.heap[Xb]? = some (.cells #[.int .i64 (k : Int), .slice A m c, .slice A2 m2 c2, .int .i64 cut] 36 (0, 0))) := heap_kept (hxw12.out) hb
  have hrw13 : Hid (Rw 1 encB w13 (.slice Ab nb cb) bs) := (hrw12.out).below hb
  have htkw13 : Hid (Rw 1 encB w13 (.slice A9 j cb) (bs.take j)) := (htkw12.out).below hb
  clear hBw12 hyw12 hzw12 hxw12 hrw12 htkw12
  obtain ⟨Ae, ce, rfl⟩ := hr1.form
  obtain ⟨ne, hn5⟩ : ∃ k, k = ([]).length := ⟨_, rfl⟩
  rw [← hn5] at hr1 ⊢
  have hne : Hid (ne = ([]).length) := hn5
  have hew13 : Hid (PLo w13 w.heap.size (.slice Ae ne ce) ([])) := hr1
  clear hr0 hr1 hb hn5
  refine sl_run rfl (.tuple #[.int .i64 ((0 : Nat) : Int), .slice Ae ne ce, .int .i64 ((0 : Nat) : Int)]) w13 (by kernel_rfl) ?_
  simp only [Act.put, fl1, fl2, fl3]
  refine sl_run rfl (.int .i64 ((0 : Nat) : Int)) w13 (by kernel_rfl) ?_
  simp only [Act.put, fl1, fl2, fl3]
  refine sl_run rfl (.slice Ae ne ce) w13 (by kernel_rfl) ?_
  simp only [Act.put, fl1, fl2, fl3]
  refine sl_run rfl (.int .i64 ((0 : Nat) : Int)) w13 (by kernel_rfl) ?_
  simp only [Act.put, fl1, fl2, fl3]
  refine sl_run rfl (.int .i64 ((0 : Nat) : Int)) w13 (by kernel_rfl) ?_
  simp only [Act.put, fl1, fl2, fl3]
  refine sl_run rfl (.slice Ae ne ce) w13 (by kernel_rfl) ?_
  simp only [Act.put, fl1, fl2, fl3]
  refine sl_run rfl (.int .i64 ((0 : Nat) : Int)) w13 (by kernel_rfl) ?_
  simp only [Act.put, fl1, fl2, fl3]
  refine wpList_nil ?_
  have hne0 : ne = 0 := hne.out
  go_upto_region 13 with fail
  refine wp_region_lit ?_
  refine sl_run rfl (.int .i64 ((0 : Nat) : Int)) w13 (by kernel_rfl) ?_
  simp only [Act.put, fl1, fl2, fl3]
  refine sl_run rfl (.bool true) w13 (by kernel_rfl) ?_
  simp only [Act.put, fl1, fl2, fl3]
  refine sl_run rfl (.bool true) w13 (by kernel_rfl) ?_
  simp only [Act.put, fl1, fl2, fl3]
  refine sg_run (by kernel_rfl) (.slice Ae ne ce) w13 (by kernel_rfl) ?_
  simp only [Act.put, fl1, fl2, fl3]
  refine sg_run (by kernel_rfl) (.int .i64 (ne : Int)) w13 (by kernel_rfl) ?_
  simp only [Act.put, fl1, fl2, fl3]
  refine sg_run (by kernel_rfl) (.bool true) w13 (exec_eqI _ _ _ rfl (ne : Int) 0 (by kernel_rfl) (by kernel_rfl) true (by rw [hne0]; rfl)) ?_
  simp only [Act.put, fl1, fl2, fl3]
  refine sl_run rfl (.bool true) w13 (by kernel_rfl) ?_
  simp only [Act.put, fl1, fl2, fl3]
  refine sl_run rfl (.bool true) w13 (by kernel_rfl) ?_
  simp only [Act.put, fl1, fl2, fl3]
  refine sg_run (by kernel_rfl) (.int .i64 ((0 : Nat) : Int)) w13 (by kernel_rfl) ?_
  simp only [Act.put, fl1, fl2, fl3]
  refine sg_run (by kernel_rfl) (.bool true) w13 (by kernel_rfl) ?_
  simp only [Act.put, fl1, fl2, fl3]
  refine sl_run rfl (.bool true) w13 (by kernel_rfl) ?_
  simp only [Act.put, fl1, fl2, fl3]
  refine sl_run rfl (.bool true) w13 (by kernel_rfl) ?_
  simp only [Act.put, fl1, fl2, fl3]
  refine wpList_nil ?_
  clear hne0 hA9H hjH hcuH hsc2 hbq hbb hscH hbk hnb hnl hne her hnb0
  have hF := hBw13
  clear hBw13 hyw13 hzw13 hxw13 hrw13 htkw13 hew13 hm' hm2' hpH hqH
  go_wp2_with fail
  go_ret
  exact ⟨rfl, hF.out⟩
end Go.Proofs.Ytdkaaieenbmihaa
namespace Go.Proofs.Ytdkaaieenbmihaa
open Go.RowKit Go.ChangeShapes Go.WideShapes
section
variable {H : Type} {enc : TypeId × Value → H} {W : World}
theorem trod_struct4 {t : TypeId} {f0 f1 f2 f3 : Field} {fuel : Nat} {cs : List Value} {x : DataW H × List MemPlace} (ht : Try.prog.underlying t = some (.struct #[f0, f1, f2, f3])) (h : DataW.trod enc Try.prog W 0 (fun _ => true) true fuel t cs = some x) :
    ∃ y0 y1 y2 y3 n, cs.length = Try.prog.cellsOf t ∧ DataW.trod enc Try.prog W 0 (fun _ => true) true n f0.type ((cs.drop f0.offset).take (Try.prog.cellsOf f0.type)) = some y0 ∧
      DataW.trod enc Try.prog W 0 (fun _ => true) true n f1.type ((cs.drop f1.offset).take (Try.prog.cellsOf f1.type)) = some y1 ∧ DataW.trod enc Try.prog W 0 (fun _ => true) true n f2.type ((cs.drop f2.offset).take (Try.prog.cellsOf f2.type)) = some y2 ∧
      DataW.trod enc Try.prog W 0 (fun _ => true) true n f3.type ((cs.drop f3.offset).take (Try.prog.cellsOf f3.type)) = some y3 := by
  obtain ⟨xs, n, _, rfl, hl, hlen, hf⟩ := DataW.trod_struct ht h
  match xs, hlen with
  | [y0, y1, y2, y3], _ => exact ⟨y0, y1, y2, y3, n, hl, by simpa using hf 0 f0 rfl, by simpa using hf 1 f1 rfl, by simpa using hf 2 f2 rfl, by simpa using hf 3 f3 rfl⟩
theorem split4 {cs : List Value} (h : cs.length = 4) : cs = (cs.drop 0).take 1 ++ ((cs.drop 1).take 1 ++ ((cs.drop 2).take 1 ++ (cs.drop 3).take 1)) := by
  match cs, h with
  | [a, b, c, d], _ => rfl
theorem bx4_of {n : Nat} {cs : List Value} {y : DataW H × List MemPlace} (h : DataW.trod enc Try.prog W 0 (fun _ => true) true n 36 cs = some y) : ∃ (k m : Int) (A : Option Addr) (len cap : Nat) (l : List Nat) (A2 : Option Addr) (len2 cap2 : Nat) (l2 : List Nat), cs = [.int .i64 k, .slice A len cap, .slice A2 len2 cap2, .int .i64 m] ∧ len = l.length ∧ Rw 1 encB W (.slice A len cap) l ∧ (∀ x ∈ l, x < 256) ∧ len2 = l2.length ∧ Rw 1 encB W (.slice A2 len2 cap2) l2 ∧ (∀ x ∈ l2, x < 256) ∧ k < 9223372036854775808 ∧ -9223372036854775808 ≤ k := by
  obtain ⟨y0, y1, y2, y3, m, hl, h0, h1, h2, h3⟩ := trod_struct4 Try.underlying36 h
  have hc : Try.prog.cellsOf 36 = 4 := by kernel_rfl
  have hc3 : Try.prog.cellsOf 3 = 1 := by kernel_rfl
  have hc22 : Try.prog.cellsOf 22 = 1 := by kernel_rfl
  rw [hc] at hl
  obtain ⟨k, hk, _, hwk⟩ := DataW.trod_int Try.underlying3 h0
  obtain ⟨A, len, cap, l, hA, hlen, hrw, hlt, _⟩ := bytes_of h1
  obtain ⟨A2, len2, cap2, l2, hA2, hlen2, hrw2, hlt2, _⟩ := bytes_of h2
  obtain ⟨b, hb, _, hwb⟩ := DataW.trod_int Try.underlying3 h3
  have e1 : (cs.drop 0).take 1 = [.int .i64 k] := by rw [← hk, ← hc3]
  have e2 : (cs.drop 1).take 1 = [.slice A len cap] := by rw [← hA, ← hc22]
  have e3 : (cs.drop 2).take 1 = [.slice A2 len2 cap2] := by rw [← hA2, ← hc22]
  have e4 : (cs.drop 3).take 1 = [.int .i64 b] := by rw [← hb, ← hc3]
  have i0 : IntKind.i64.min = -9223372036854775808 := by kernel_rfl
  have i1 : IntKind.i64.max = 9223372036854775807 := by kernel_rfl
  simp only [Lit.wf, Bool.and_eq_true, decide_eq_true_eq, i0, i1] at hwk hwb
  refine ⟨k, b, A, len, cap, l, A2, len2, cap2, l2, ?_, hlen, hrw, hlt, hlen2, hrw2, hlt2, by omega, by omega⟩
  rw [split4 hl, e1, e2, e3, e4]
  rfl
variable {base : Nat} {v : Value} {d : DataW H} {p : List MemPlace}
set_option maxRecDepth 100000 in
theorem arg_bx (hok : Value.okWide Try.prog W .any base 36 v) (h : DataW.Trod enc Try.prog W 0 (fun _ => true) true 36 v d p) : ∃ (k m : Int) (A : Option Addr) (len cap : Nat) (l : List Nat) (A2 : Option Addr) (len2 cap2 : Nat) (l2 : List Nat), v = .agg #[.int .i64 k, .slice A len cap, .slice A2 len2 cap2, .int .i64 m] ∧ len = l.length ∧ Rw 1 encB W (.slice A len cap) l ∧ (∀ x ∈ l, x < 256) ∧ len2 = l2.length ∧ Rw 1 encB W (.slice A2 len2 cap2) l2 ∧ (∀ x ∈ l2, x < 256) ∧ k < 9223372036854775808 ∧ -9223372036854775808 ≤ k := by
  obtain ⟨cs, rfl, _⟩ := okWide_struct Try.underlying36 hok
  obtain ⟨fuel, hf⟩ := h
  obtain ⟨k, m, A, len, cap, l, A2, len2, cap2, l2, hx, hr⟩ := bx4_of hf
  exact ⟨k, m, A, len, cap, l, A2, len2, cap2, l2, congrArg Value.agg (Array.toList_inj.1 hx), hr⟩
end
end Go.Proofs.Ytdkaaieenbmihaa
namespace Go.Proofs.Ytdkaaieenbmihaa.walBack
open Go.ChangeShapes Go.WideShapes Go.ChangeAt Go.RowKit

theorem own : ownKnob Try.prog.godebug = none := by kernel_rfl
theorem laidOut : laidOutB Try.prog = true := by kernel_rfl
set_option maxRecDepth 100000 in
theorem lifted (os : Os) (started : os.Started) (H : Type) (enc : TypeId × Value → H) :
    ReturnsInHanded {} Try.checked os 5 .any (Rows.walBackSpec.pre6 enc Try.prog Try.f5 Rows.walBackRow.domain false) (Rows.walBackSpec.post enc Try.prog Try.f5 false true false false) := by
  refine returnsInHanded_of_change (C := Try.checked) own started (by kernel_rfl) Try.func5
    (ChangeSpec.witness6 (enc := enc) (C := Try.checked) false ⟨#[], #[.agg #[.int .i64 0, .slice none 0 0, .slice none 0 0, .int .i64 0]], []⟩ 8 (by kernel_rfl) (by kernel_rfl) (by kernel_rfl) (by kernel_rfl)) ?_
  intro W base args ds gs before hval0 hW hcnd _
  have hval : ∀ (j : Nat) t v, Try.f5.params[j]? = some t → args[j]? = some v → Value.okWide Try.prog W .any base t v := hval0
  have hW' := hW
  obtain ⟨p, q, hA0, hV, rfl, hfz, hnd⟩ := hW
  have hA : DataW.TrodAll enc Try.prog W 0 (fun _ => true) true Try.f5.params.toList args.toList ds p := hA0
  rw [Try.params5] at hA hval
  obtain ⟨v0, vs0, d0, ds0, p0, q0, hargs, rfl, rfl, h0, r0⟩ := trodAll_cons hA
  obtain ⟨rfl, rfl, rfl⟩ := trodAll_nil r0
  obtain rfl : args = #[v0] := by cases args; simp_all
  obtain ⟨rfl, rfl⟩ := trodVars_none hV
  have k0 := h0
  have lt0 : ∀ x ∈ p0, x.block < W.heap.size := by obtain ⟨m, hm⟩ := k0; exact DataW.trod_lt m _ _ _ hm
  obtain ⟨k00, m0, a0, n0, c0, l0, a02, n02, c02, l02, rfl, e0, y0, g0, e02, y02, g02, b0, b02⟩ := arg_bx (hval 0 36 v0 rfl rfl) h0
  clear hA0 hval0
  refine (WalBack_calls k00 m0 b0 b02 l0 l02 g0 g02 a0 n0 c0 e0 a02 n02 c02 e02 W y0 y02).mono fun e W' ⟨he, bel⟩ => ?_
  subst he
  exact ⟨_, rfl, _, _, _, [], _, [], hW', trodAll_mk1 (shut_bool Try.underlying4 _), (trodAll_cons_mk (Below.trod laidOut (by kernel_rfl) (of_decide_eq_true (by kernel_rfl)) k0 bel lt0) trodAll_mk0), rfl, bel.frame _, fun h => by cases h⟩
theorem over : Rows.walBackRow.holds Try.pinned (OpenSpec.ofChange Rows.walBackSpec) :=
  OpenClaim.holds_of_wide 5 Try.f5 rfl rfl rfl rfl rfl rfl rfl ⟨rfl, rfl, rfl, rfl, rfl⟩ rfl rfl rfl rfl rfl (by kernel_rfl) Try.func5 (by kernel_rfl)
    (of_decide_eq_true (by kernel_rfl)) (by unfold Func.isWrapper; first | (rw [if_pos (by decide +kernel)]; kernel_rfl) | (rw [if_neg (by decide +kernel)]; exact ⟨rfl, rfl⟩))
    (fun os started H enc _ => lifted os started H enc)
end Go.Proofs.Ytdkaaieenbmihaa.walBack
namespace Go.Proofs.Ytdkaaieenbmihaa
/-- The statement. -/
theorem walBack_holds : Rows.WalBackSaid := walBack.over
#print axioms walBack_holds
end Go.Proofs.Ytdkaaieenbmihaa
