/-
  Contracts of functions that the laws of this chapter reach, joined.
-/
import Derived.Test.YtdkaaieenbmihaaMgF
set_option linter.unusedVariables false
set_option linter.unusedSimpArgs false
namespace Go.Proofs.Ytdkaaieenbmihaa
open Go.RowKit
open Sha (vals Bytes Lies bytesC sumB)
open Go.Proofs.Ytdkaaieenbmihaa.Pure (nameB)
def scan0 (l : List Nat) : Nat × List (List Nat) × Nat := scanS l 0 [] 0
/-- What holds between two records. -/
structure SJ (w : World) (l : List Nat) (R : Nat × List (List Nat) × Nat) (D f : Nat) (ps : List (List Nat)) (e : Nat) (v : Value) (w' : World) : Prop where
  le : e ≤ l.length
  res : scanS l f ps e = R
  f40 : f ≤ 1099511627776
  len : ps.length * 17 ≤ e
  z : f = 0 → ps = []
  pl : PLo w' w.heap.size v ps
  bel : Below w.heap.size w w'
  dd : w.heap.size ≤ D ∧ ∃ S : List Nat, S.length = 32 ∧ w'.heap[D]? = some (.cells (bytesC S) 56 (0, 0))
structure SE (w : World) (R : Nat × List (List Nat) × Nat) (f : Nat) (ps : List (List Nat)) (e : Nat) (v : Value) (w' : World) : Prop where
  res : R = (f, ps, e)
  pl : PLo w' w.heap.size v ps
  bel : Below w.heap.size w w'
def intOf' : Value → Int | .int _ q => q | _ => 0
def frA (A : Option Addr) (n c D f e : Nat) (v : Value) (u : Nat → Value) : Act := { tmps := (.slice A n c :: u 1 :: .int .i64 (f : Int) :: v :: .int .i64 (e : Int) :: u 5 :: u 6 :: u 7 :: .pointer (some ⟨D, 0, none⟩) :: u 9 :: u 10 :: u 11 :: u 12 :: u 13 :: u 14 :: u 15 :: u 16 :: u 17 :: u 18 :: u 19 :: u 20 :: u 21 :: u 22 :: u 23 :: u 24 :: u 25 :: u 26 :: u 27 :: u 28 :: u 29 :: u 30 :: u 31 :: u 32 :: u 33 :: u 34 :: u 35 :: u 36 :: u 37 :: u 38 :: u 39 :: u 40 :: u 41 :: u 42 :: u 43 :: u 44 :: u 45 :: u 46 :: u 47 :: u 48 :: u 49 :: u 50 :: u 51 :: u 52 :: u 53 :: u 54 :: u 55 :: u 56 :: u 57 :: u 58 :: u 59 :: u 60 :: u 61 :: u 62 :: u 63 :: u 64 :: u 65 :: u 66 :: u 67 :: u 68 :: u 69 :: u 70 :: u 71 :: u 72 :: u 73 :: u 74 :: u 75 :: u 76 :: u 77 :: u 78 :: u 79 :: u 80 :: u 81 :: u 82 :: u 83 :: u 84 :: u 85 :: u 86 :: u 87 :: u 88 :: u 89 :: u 90 :: u 91 :: u 92 :: u 93 :: u 94 :: u 95 :: u 96 :: u 97 :: u 98 :: u 99 :: u 100 :: u 101 :: u 102 :: u 103 :: u 104 :: u 105 :: u 106 :: u 107 :: u 108 :: u 109 :: u 110 :: u 111 :: []).toArray, defers := [] }
def frE (A : Option Addr) (n c f e : Nat) (v : Value) (u : Nat → Value) : Act := { tmps := (.slice A n c :: u 1 :: .int .i64 (f : Int) :: v :: .int .i64 (e : Int) :: u 5 :: u 6 :: u 7 :: u 8 :: u 9 :: u 10 :: u 11 :: u 12 :: u 13 :: u 14 :: u 15 :: u 16 :: u 17 :: u 18 :: u 19 :: u 20 :: u 21 :: u 22 :: u 23 :: u 24 :: u 25 :: u 26 :: u 27 :: u 28 :: u 29 :: u 30 :: u 31 :: u 32 :: u 33 :: u 34 :: u 35 :: u 36 :: u 37 :: u 38 :: u 39 :: u 40 :: u 41 :: u 42 :: u 43 :: u 44 :: u 45 :: u 46 :: u 47 :: u 48 :: u 49 :: u 50 :: u 51 :: u 52 :: u 53 :: u 54 :: u 55 :: u 56 :: u 57 :: u 58 :: u 59 :: u 60 :: u 61 :: u 62 :: u 63 :: u 64 :: u 65 :: u 66 :: u 67 :: u 68 :: u 69 :: u 70 :: u 71 :: u 72 :: u 73 :: u 74 :: u 75 :: u 76 :: u 77 :: u 78 :: u 79 :: u 80 :: u 81 :: u 82 :: u 83 :: u 84 :: u 85 :: u 86 :: u 87 :: u 88 :: u 89 :: u 90 :: u 91 :: u 92 :: u 93 :: u 94 :: u 95 :: u 96 :: u 97 :: u 98 :: u 99 :: u 100 :: u 101 :: u 102 :: u 103 :: u 104 :: u 105 :: u 106 :: u 107 :: u 108 :: u 109 :: u 110 :: u 111 :: []).toArray, defers := [] }
def JA (w : World) (l : List Nat) (R : Nat × List (List Nat) × Nat) (A : Option Addr) (n c : Nat) (a' : Act) (w' : World) : Prop :=
  ∃ (D f : Nat) (ps : List (List Nat)) (e : Nat) (v : Value) (u : Nat → Value), a' = frA A n c D f e v u ∧ SJ w l R D f ps e v w'
def JE (w : World) (R : Nat × List (List Nat) × Nat) (A : Option Addr) (n c : Nat) (a' : Act) (w' : World) : Prop :=
  ∃ (f : Nat) (ps : List (List Nat)) (e : Nat) (v : Value) (u : Nat → Value), a' = frE A n c f e v u ∧ SE w R f ps e v w'
theorem JA.of {w : World} {l : List Nat} {R : Nat × List (List Nat) × Nat} {A : Option Addr} {n c : Nat} {a' : Act} {w' : World} (D f : Nat) (ps : List (List Nat)) (e : Nat) (v : Value) (h : a' = frA A n c D f e v fun i => a'.tmps.getD i undef) (hs : SJ w l R D f ps e v w') : JA w l R A n c a' w' :=
  ⟨D, f, ps, e, v, _, h, hs⟩
theorem JE.of {w : World} {R : Nat × List (List Nat) × Nat} {A : Option Addr} {n c : Nat} {a' : Act} {w' : World} (f : Nat) (ps : List (List Nat)) (e : Nat) (v : Value) (h : a' = frE A n c f e v fun i => a'.tmps.getD i undef) (hs : SE w R f ps e v w') : JE w R A n c a' w' :=
  ⟨f, ps, e, v, _, h, hs⟩
set_option maxRecDepth 100000 in
set_option maxHeartbeats 16000000 in
theorem Scan_calls (l : List Nat) (hb : ∀ x ∈ l, x < 256) (A : Option Addr) (n c : Nat) (hn : n = l.length) (hn9 : n ≤ 1000000000) (w : World) (hy : Rw 1 encB w (.slice A n c) l) :
    Calls Try.prog 12 #[.slice A n c] w fun e w' => ∃ v, e = .returned (.tuple #[.int .i64 ((scan0 l).1 : Int), v, .int .i64 ((scan0 l).2.2 : Int)]) ∧ PLo w' w.heap.size v (scan0 l).2.1 ∧ Below w.heap.size w w' := by
  obtain ⟨R, hR⟩ : ∃ R, R = scan0 l := ⟨_, rfl⟩
  rw [← hR]
  have hRH : Hid (R = scan0 l) := hR
  have hn' : Hid (n = l.length) := hn
  have hbH : Hid (∀ x ∈ l, x < 256) := hb
  have hyw : Hid (Rw 1 encB w (.slice A n c) l) := hy
  clear hy hn hb hR
  go_enter Try.func12, Try.ntmps12
  go_wp2
  refine wp_scope_loop_end (JA w l R A n c) (JE w R A n c) (fun a' _ => n - (intOf' (a'.tmps.getD 4 undef)).toNat) rfl rfl ?pass1 ?last0 ?first
  case last0 =>
    rintro a' w' ⟨f, ps, e, v, u, rfl, hE⟩
    unfold frE
    obtain ⟨rfl, hp, hB⟩ := hE
    clear hRH
    have hpH : Hid (PLo w' w.heap.size v ps) := hp
    have hBH : Hid (Below w.heap.size w w') := hB
    clear hp hB
    go_wp2_with fail
    simp only [Exit.jmp]
    go_ret3
    exact ⟨v, rfl, hpH.out, hBH.out⟩
  case first =>
    intro pass
    go_wp2
    go_step3
    rename_i hK
    refine hK _ _ ?_
    refine pass _ _ (JA.of w.heap.size 0 [] 0 (.slice none 0 0) (by kernel_rfl) ?_)
    exact ⟨Nat.zero_le _, by rw [hRH.out]; rfl, by decide, by simp, fun _ => rfl, PLo.nil _ _, (Below.refl _ _).alloc (Nat.le_refl _) _, Nat.le_refl _, Sha.zeros 32, rfl, heap_alloc_new _ _⟩
  case pass1 =>
    rintro a' w1 ⟨D, f, ps, e, v, u, rfl, hJ⟩
    unfold frA
    obtain ⟨hle, hres, hf40, hlen, hz, hpl, hbel, hDw, S0, hS0, hd0⟩ := hJ
    have hen : e ≤ n := by rw [hn'.out]; exact hle
    refine jmp_split fun Q2 hA0 hE0 => ?_
    have hA : Hid (∀ a'' w'', JA w l R A n c a'' w'' → n - (intOf' (a''.tmps.getD 4 undef)).toNat < n - e → Q2 (.goto 1) a'' w'') := fun a'' w'' h1 h2 => hA0 _ _ ⟨h1, h2⟩
    have hE : Hid (∀ a'' w'', JE w R A n c a'' w'' → Q2 (.goto 0) a'' w'') := hE0
    clear hA0 hE0
    have hplw1 : Hid (PLo w1 w.heap.size v ps) := hpl
    have hBw1 : Hid (Below w.heap.size w w1) := hbel
    have hDw1 : Hid (w1.heap[D]? = some (.cells (bytesC S0) 56 (0, 0))) := hd0
    have hresH : Hid (scanS l f ps e = R) := hres
    have hzH : Hid (f = 0 → ps = []) := hz
    obtain ⟨L, hL⟩ : ∃ L, L = l.drop e := ⟨_, rfl⟩
    have hLl : L.length = n - e := by rw [hL, List.length_drop, hn'.out]
    have hLH : Hid (L = l.drop e) := hL
    have hLb : Hid (∀ x ∈ L, x < 256) := fun x hx => hbH.out x (by rw [hL] at hx; exact List.mem_of_mem_drop hx)
    clear hpl hbel hd0 hle hres hz hL
    go_upto_region 5 with fail
    refine wp_region_lit ?_
    by_cases h17 : n - e < 17
    case pos =>
      refine sl_run rfl (.slice A n c) w1 (by kernel_rfl) ?_
      simp only [Act.put, fl1, fl2, fl3]
      refine sl_run rfl (.int .i64 (n : Int)) w1 (by kernel_rfl) ?_
      simp only [Act.put, fl1, fl2, fl3]
      refine sl_run rfl (.int .i64 (e : Int)) w1 (by kernel_rfl) ?_
      simp only [Act.put, fl1, fl2, fl3]
      refine sl_run rfl (.int .i64 ((n : Int) - (e : Int))) w1 (exec_sub2 _ _ rfl (n : Int) (e : Int) (by kernel_rfl) (by kernel_rfl) (by omega) (by omega)) ?_
      simp only [Act.put, fl1, fl2, fl3]
      refine sl_run rfl (.bool true) w1 (exec_lss _ _ _ rfl ((n : Int) - (e : Int)) (17) (by kernel_rfl) (by kernel_rfl) true (decide_eq_true (by omega))) ?_
      simp only [Act.put, fl1, fl2, fl3]
      refine wpList_nil ?_
      have hs : oneS L = none := by
        unfold oneS
        rw [if_pos (by omega)]
      have hRe : Hid (R = (f, ps, e)) := hresH.out.symm.trans (scanS_none (by rw [← hLH.out]; exact hs))
      clear hs
      clear hresH hzH hLH hLb hA hyw hbH hRH hn' 
      clear hDw1
      go_wp2
      try go_step3
      exact hE.out _ _ (JE.of f ps e v (by kernel_rfl) ⟨hRe.out, hplw1.out, hBw1.out⟩)
    case neg =>
    refine sl_run rfl (.slice A n c) w1 (by kernel_rfl) ?_
    simp only [Act.put, fl1, fl2, fl3]
    refine sl_run rfl (.int .i64 (n : Int)) w1 (by kernel_rfl) ?_
    simp only [Act.put, fl1, fl2, fl3]
    refine sl_run rfl (.int .i64 (e : Int)) w1 (by kernel_rfl) ?_
    simp only [Act.put, fl1, fl2, fl3]
    refine sl_run rfl (.int .i64 ((n : Int) - (e : Int))) w1 (exec_sub2 _ _ rfl (n : Int) (e : Int) (by kernel_rfl) (by kernel_rfl) (by omega) (by omega)) ?_
    simp only [Act.put, fl1, fl2, fl3]
    refine sl_run rfl (.bool false) w1 (exec_lss _ _ _ rfl ((n : Int) - (e : Int)) (17) (by kernel_rfl) (by kernel_rfl) false (decide_eq_false (by omega))) ?_
    simp only [Act.put, fl1, fl2, fl3]
    refine wpList_nil ?_
    obtain ⟨g, o, rfl, hnc, hg, _⟩ := hyw.out.elem 0 (by have := hn'.out; omega)
    clear hg
    obtain ⟨sz, hsz⟩ : ∃ s, s = beN (L.take 4) := ⟨_, rfl⟩
    have hsz2 : sz < 4294967296 := by rw [hsz]; exact beN4_lt hLb.out
    have hszH : Hid (sz = beN (L.take 4)) := hsz
    have hyLw : Hid (Rw 1 encB w (.slice (some ⟨g, o + e, none⟩) (n - e) (c - e)) L) := by
      have h8 := rw_mid hn'.out hyw.out e (n - e) (by omega)
      rw [List.take_of_length_le (by rw [List.length_drop, hn'.out]; exact Nat.le_refl _), ← hLH.out] at h8
      exact h8
    have hcell : Hid (∀ (i : Nat) (w' : World), i < n → Below w.heap.size w w' → w'.cell? ⟨g, o + i * 1, none⟩ = some (.int .u8 ((l.getD i 0 : Nat) : Int))) := fun i w' hi hb => by
      rw [Nat.mul_one]; exact Rw.one (hyw.out.below hb) i (by have := hn'.out; omega)
    clear hsz
    go_upto_region 6 with fail
    refine wp_region_lit ?_
    refine sl_run rfl (.slice (some ⟨g, o, none⟩) n c) w1 (by kernel_rfl) ?_
    simp only [Act.put, fl1, fl2, fl3]
    refine sl_run rfl (.int .i64 (e : Int)) w1 (by kernel_rfl) ?_
    simp only [Act.put, fl1, fl2, fl3]
    refine sl_run rfl (.slice (some ⟨g, o + e, none⟩) (n - e) (c - e)) w1 ((Sha.exec_slice_l _ _ rfl g o n c e (by kernel_rfl) (by kernel_rfl) hen w1).trans (by rw [if_neg (by omega)])) ?_
    simp only [Act.put, fl1, fl2, fl3]
    refine sg_call (by kernel_rfl) 29 #[.slice (some ⟨g, o + e, none⟩) (n - e) (c - e), .int .i64 4] (by kernel_rfl) (R := fun v w' => v = .int .u64 (sz : Int) ∧ Below w1.heap.size w1 w') ?hcd1 ?_
    case hcd1 =>
      have h8 := number_calls L hLb.out (some ⟨g, o + e, none⟩) (n - e) (c - e) hLl.symm (by omega) 4 (by omega) (by decide) w1 (hyLw.out.below hBw1.out)
      rw [← hszH.out] at h8
      exact h8.mono fun e w' h => ⟨_, h.1, rfl, h.2⟩
    rintro _ w2 ⟨rfl, hb⟩
    simp only [Act.put, fl1, fl2, fl3]
    have hBw2 : Hid (Below w.heap.size w w2) := (hBw1.out).trans ((hb).mono (hBw1.out).size)
    have hplw2 : Hid (PLo w2 w.heap.size v ps) := (hplw1.out).below hb
    have hDw2 : Hid (w2.heap[D]? = some (.cells (bytesC S0) 56 (0, 0))) := heap_kept (hDw1.out) hb
    clear hBw1 hplw1 hDw1
    clear hb
    refine sl_run rfl (.int .i64 (sz : Int)) w2 (exec_convU _ rfl sz (by omega) (by kernel_rfl)) ?_
    simp only [Act.put, fl1, fl2, fl3]
    refine sl_run rfl (.int .i64 (sz : Int)) w2 (by kernel_rfl) ?_
    simp only [Act.put, fl1, fl2, fl3]
    refine wpList_nil ?_
    by_cases hc1 : sz < 8
    case pos =>
      go_upto_region 7 with fail
      refine wp_region_lit ?_
      refine sl_run rfl (.int .i64 (sz : Int)) w2 (by kernel_rfl) ?_
      simp only [Act.put, fl1, fl2, fl3]
      refine sl_run rfl (.bool true) w2 (exec_lss _ _ _ rfl ((sz : Int)) (8) (by kernel_rfl) (by kernel_rfl) true (decide_eq_true (by omega))) ?_
      simp only [Act.put, fl1, fl2, fl3]
      refine sl_run rfl (.bool true) w2 (by kernel_rfl) ?_
      simp only [Act.put, fl1, fl2, fl3]
      rw [wpList, if_neg (by rw [show Region.wanted _ _ = false by kernel_rfl]; decide)]
      simp only [Act.put, fl1, fl2, fl3]
      rw [wpList, if_neg (by rw [show Region.wanted _ _ = false by kernel_rfl]; decide)]
      simp only [Act.put, fl1, fl2, fl3]
      refine sl_run rfl (.bool true) w2 (by kernel_rfl) ?_
      simp only [Act.put, fl1, fl2, fl3]
      refine sl_run rfl (.bool true) w2 (by kernel_rfl) ?_
      simp only [Act.put, fl1, fl2, fl3]
      rw [wpList, if_neg (by rw [show Region.wanted _ _ = false by kernel_rfl]; decide)]
      simp only [Act.put, fl1, fl2, fl3]
      rw [wpList, if_neg (by rw [show Region.wanted _ _ = false by kernel_rfl]; decide)]
      simp only [Act.put, fl1, fl2, fl3]
      rw [wpList, if_neg (by rw [show Region.wanted _ _ = false by kernel_rfl]; decide)]
      simp only [Act.put, fl1, fl2, fl3]
      rw [wpList, if_neg (by rw [show Region.wanted _ _ = false by kernel_rfl]; decide)]
      simp only [Act.put, fl1, fl2, fl3]
      rw [wpList, if_neg (by rw [show Region.wanted _ _ = false by kernel_rfl]; decide)]
      simp only [Act.put, fl1, fl2, fl3]
      rw [wpList, if_neg (by rw [show Region.wanted _ _ = false by kernel_rfl]; decide)]
      simp only [Act.put, fl1, fl2, fl3]
      rw [wpList, if_neg (by rw [show Region.wanted _ _ = false by kernel_rfl]; decide)]
      simp only [Act.put, fl1, fl2, fl3]
      rw [wpList, if_neg (by rw [show Region.wanted _ _ = false by kernel_rfl]; decide)]
      simp only [Act.put, fl1, fl2, fl3]
      refine sl_run rfl (.bool true) w2 (by kernel_rfl) ?_
      simp only [Act.put, fl1, fl2, fl3]
      refine wpList_nil ?_
      have hs : oneS L = none := by
        unfold oneS
        rw [if_neg (by omega), ← hszH.out, if_pos (by omega)]
      have hRe : Hid (R = (f, ps, e)) := hresH.out.symm.trans (scanS_none (by rw [← hLH.out]; exact hs))
      clear hs
      clear hresH hzH hLH hLb hA hyw hbH hRH hn' hszH hyLw hcell
      clear hDw2
      go_wp2
      try go_step3
      exact hE.out _ _ (JE.of f ps e v (by kernel_rfl) ⟨hRe.out, hplw2.out, hBw2.out⟩)
    case neg =>
    by_cases hc2 : 8200 < sz
    case pos =>
      go_upto_region 7 with fail
      refine wp_region_lit ?_
      refine sl_run rfl (.int .i64 (sz : Int)) w2 (by kernel_rfl) ?_
      simp only [Act.put, fl1, fl2, fl3]
      refine sl_run rfl (.bool false) w2 (exec_lss _ _ _ rfl ((sz : Int)) (8) (by kernel_rfl) (by kernel_rfl) false (decide_eq_false (by omega))) ?_
      simp only [Act.put, fl1, fl2, fl3]
      refine sl_run rfl (.bool false) w2 (by kernel_rfl) ?_
      simp only [Act.put, fl1, fl2, fl3]
      refine sg_run (by kernel_rfl) (.int .i64 (sz : Int)) w2 (by kernel_rfl) ?_
      simp only [Act.put, fl1, fl2, fl3]
      refine sg_run (by kernel_rfl) (.bool true) w2 (exec_gtr _ _ _ rfl ((sz : Int)) (8200) (by kernel_rfl) (by kernel_rfl) true (decide_eq_true (by omega))) ?_
      simp only [Act.put, fl1, fl2, fl3]
      refine sl_run rfl (.bool true) w2 (by kernel_rfl) ?_
      simp only [Act.put, fl1, fl2, fl3]
      refine sl_run rfl (.bool true) w2 (by kernel_rfl) ?_
      simp only [Act.put, fl1, fl2, fl3]
      rw [wpList, if_neg (by rw [show Region.wanted _ _ = false by kernel_rfl]; decide)]
      simp only [Act.put, fl1, fl2, fl3]
      rw [wpList, if_neg (by rw [show Region.wanted _ _ = false by kernel_rfl]; decide)]
      simp only [Act.put, fl1, fl2, fl3]
      rw [wpList, if_neg (by rw [show Region.wanted _ _ = false by kernel_rfl]; decide)]
      simp only [Act.put, fl1, fl2, fl3]
      rw [wpList, if_neg (by rw [show Region.wanted _ _ = false by kernel_rfl]; decide)]
      simp only [Act.put, fl1, fl2, fl3]
      rw [wpList, if_neg (by rw [show Region.wanted _ _ = false by kernel_rfl]; decide)]
      simp only [Act.put, fl1, fl2, fl3]
      rw [wpList, if_neg (by rw [show Region.wanted _ _ = false by kernel_rfl]; decide)]
      simp only [Act.put, fl1, fl2, fl3]
      rw [wpList, if_neg (by rw [show Region.wanted _ _ = false by kernel_rfl]; decide)]
      simp only [Act.put, fl1, fl2, fl3]
      rw [wpList, if_neg (by rw [show Region.wanted _ _ = false by kernel_rfl]; decide)]
      simp only [Act.put, fl1, fl2, fl3]
      refine sl_run rfl (.bool true) w2 (by kernel_rfl) ?_
      simp only [Act.put, fl1, fl2, fl3]
      refine wpList_nil ?_
      have hs : oneS L = none := by
        unfold oneS
        rw [if_neg (by omega), ← hszH.out, if_pos (by omega)]
      have hRe : Hid (R = (f, ps, e)) := hresH.out.symm.trans (scanS_none (by rw [← hLH.out]; exact hs))
      clear hs
      clear hresH hzH hLH hLb hA hyw hbH hRH hn' hszH hyLw hcell
      clear hDw2
      go_wp2
      try go_step3
      exact hE.out _ _ (JE.of f ps e v (by kernel_rfl) ⟨hRe.out, hplw2.out, hBw2.out⟩)
    case neg =>
    by_cases hc3 : n - e < sz + 9
    case pos =>
      go_upto_region 7 with fail
      refine wp_region_lit ?_
      refine sl_run rfl (.int .i64 (sz : Int)) w2 (by kernel_rfl) ?_
      simp only [Act.put, fl1, fl2, fl3]
      refine sl_run rfl (.bool false) w2 (exec_lss _ _ _ rfl ((sz : Int)) (8) (by kernel_rfl) (by kernel_rfl) false (decide_eq_false (by omega))) ?_
      simp only [Act.put, fl1, fl2, fl3]
      refine sl_run rfl (.bool false) w2 (by kernel_rfl) ?_
      simp only [Act.put, fl1, fl2, fl3]
      refine sg_run (by kernel_rfl) (.int .i64 (sz : Int)) w2 (by kernel_rfl) ?_
      simp only [Act.put, fl1, fl2, fl3]
      refine sg_run (by kernel_rfl) (.bool false) w2 (exec_gtr _ _ _ rfl ((sz : Int)) (8200) (by kernel_rfl) (by kernel_rfl) false (decide_eq_false (by omega))) ?_
      simp only [Act.put, fl1, fl2, fl3]
      refine sl_run rfl (.bool false) w2 (by kernel_rfl) ?_
      simp only [Act.put, fl1, fl2, fl3]
      refine sl_run rfl (.bool false) w2 (by kernel_rfl) ?_
      simp only [Act.put, fl1, fl2, fl3]
      refine sg_run (by kernel_rfl) (.slice (some ⟨g, o, none⟩) n c) w2 (by kernel_rfl) ?_
      simp only [Act.put, fl1, fl2, fl3]
      refine sg_run (by kernel_rfl) (.int .i64 (n : Int)) w2 (by kernel_rfl) ?_
      simp only [Act.put, fl1, fl2, fl3]
      refine sg_run (by kernel_rfl) (.int .i64 (e : Int)) w2 (by kernel_rfl) ?_
      simp only [Act.put, fl1, fl2, fl3]
      refine sg_run (by kernel_rfl) (.int .i64 ((n : Int) - (e : Int))) w2 (exec_sub2 _ _ rfl (n : Int) (e : Int) (by kernel_rfl) (by kernel_rfl) (by omega) (by omega)) ?_
      simp only [Act.put, fl1, fl2, fl3]
      refine sg_run (by kernel_rfl) (.int .i64 (sz : Int)) w2 (by kernel_rfl) ?_
      simp only [Act.put, fl1, fl2, fl3]
      refine sg_run (by kernel_rfl) (.int .i64 ((sz : Int) + 17)) w2 (exec_add2 _ _ rfl ((sz : Int)) (17) (by kernel_rfl) (by kernel_rfl) (by omega) (by omega) _) ?_
      simp only [Act.put, fl1, fl2, fl3]
      refine sg_run (by kernel_rfl) (.int .i64 ((sz : Int) + 17 - 8)) w2 (exec_sub2 _ _ rfl ((sz : Int) + 17) 8 (by kernel_rfl) (by kernel_rfl) (by omega) (by omega)) ?_
      simp only [Act.put, fl1, fl2, fl3]
      refine sg_run (by kernel_rfl) (.bool true) w2 (exec_lss _ _ _ rfl ((n : Int) - (e : Int)) ((sz : Int) + 17 - 8) (by kernel_rfl) (by kernel_rfl) true (decide_eq_true (by omega))) ?_
      simp only [Act.put, fl1, fl2, fl3]
      refine sl_run rfl (.bool true) w2 (by kernel_rfl) ?_
      simp only [Act.put, fl1, fl2, fl3]
      refine wpList_nil ?_
      have hs : oneS L = none := by
        unfold oneS
        rw [if_neg (by omega), ← hszH.out, if_pos (by omega)]
      have hRe : Hid (R = (f, ps, e)) := hresH.out.symm.trans (scanS_none (by rw [← hLH.out]; exact hs))
      clear hs
      clear hresH hzH hLH hLb hA hyw hbH hRH hn' hszH hyLw hcell
      clear hDw2
      go_wp2
      try go_step3
      exact hE.out _ _ (JE.of f ps e v (by kernel_rfl) ⟨hRe.out, hplw2.out, hBw2.out⟩)
    case neg =>
    go_upto_region 7 with fail
    refine wp_region_lit ?_
    refine sl_run rfl (.int .i64 (sz : Int)) w2 (by kernel_rfl) ?_
    simp only [Act.put, fl1, fl2, fl3]
    refine sl_run rfl (.bool false) w2 (exec_lss _ _ _ rfl ((sz : Int)) (8) (by kernel_rfl) (by kernel_rfl) false (decide_eq_false (by omega))) ?_
    simp only [Act.put, fl1, fl2, fl3]
    refine sl_run rfl (.bool false) w2 (by kernel_rfl) ?_
    simp only [Act.put, fl1, fl2, fl3]
    refine sg_run (by kernel_rfl) (.int .i64 (sz : Int)) w2 (by kernel_rfl) ?_
    simp only [Act.put, fl1, fl2, fl3]
    refine sg_run (by kernel_rfl) (.bool false) w2 (exec_gtr _ _ _ rfl ((sz : Int)) (8200) (by kernel_rfl) (by kernel_rfl) false (decide_eq_false (by omega))) ?_
    simp only [Act.put, fl1, fl2, fl3]
    refine sl_run rfl (.bool false) w2 (by kernel_rfl) ?_
    simp only [Act.put, fl1, fl2, fl3]
    refine sl_run rfl (.bool false) w2 (by kernel_rfl) ?_
    simp only [Act.put, fl1, fl2, fl3]
    refine sg_run (by kernel_rfl) (.slice (some ⟨g, o, none⟩) n c) w2 (by kernel_rfl) ?_
    simp only [Act.put, fl1, fl2, fl3]
    refine sg_run (by kernel_rfl) (.int .i64 (n : Int)) w2 (by kernel_rfl) ?_
    simp only [Act.put, fl1, fl2, fl3]
    refine sg_run (by kernel_rfl) (.int .i64 (e : Int)) w2 (by kernel_rfl) ?_
    simp only [Act.put, fl1, fl2, fl3]
    refine sg_run (by kernel_rfl) (.int .i64 ((n : Int) - (e : Int))) w2 (exec_sub2 _ _ rfl (n : Int) (e : Int) (by kernel_rfl) (by kernel_rfl) (by omega) (by omega)) ?_
    simp only [Act.put, fl1, fl2, fl3]
    refine sg_run (by kernel_rfl) (.int .i64 (sz : Int)) w2 (by kernel_rfl) ?_
    simp only [Act.put, fl1, fl2, fl3]
    refine sg_run (by kernel_rfl) (.int .i64 ((sz : Int) + 17)) w2 (exec_add2 _ _ rfl ((sz : Int)) (17) (by kernel_rfl) (by kernel_rfl) (by omega) (by omega) _) ?_
    simp only [Act.put, fl1, fl2, fl3]
    refine sg_run (by kernel_rfl) (.int .i64 ((sz : Int) + 17 - 8)) w2 (exec_sub2 _ _ rfl ((sz : Int) + 17) 8 (by kernel_rfl) (by kernel_rfl) (by omega) (by omega)) ?_
    simp only [Act.put, fl1, fl2, fl3]
    refine sg_run (by kernel_rfl) (.bool false) w2 (exec_lss _ _ _ rfl ((n : Int) - (e : Int)) ((sz : Int) + 17 - 8) (by kernel_rfl) (by kernel_rfl) false (decide_eq_false (by omega))) ?_
    simp only [Act.put, fl1, fl2, fl3]
    refine sl_run rfl (.bool false) w2 (by kernel_rfl) ?_
    simp only [Act.put, fl1, fl2, fl3]
    refine wpList_nil ?_
    obtain ⟨bd, hbd⟩ : ∃ b, b = (L.drop 4).take sz := ⟨_, rfl⟩
    have hbl : bd.length = sz := by rw [hbd, List.length_take, List.length_drop]; omega
    have hbb : Hid (∀ x ∈ bd, x < 256) := fun x hx => hLb.out x (by rw [hbd] at hx; exact List.mem_of_mem_drop (List.mem_of_mem_take hx))
    have hybw : Hid (Rw 1 encB w (.slice (some ⟨g, o + (e + 4), none⟩) sz (c - (e + 4))) bd) := by
      have h8 := rw_mid hn'.out hyw.out (e + 4) sz (by omega)
      rw [← List.drop_drop, ← hLH.out, ← hbd] at h8
      exact h8
    obtain ⟨S, hS⟩ : ∃ S, S = sumB bd := ⟨_, rfl⟩
    have hSl : S.length = 32 := by rw [hS]; exact Sha.sumB_length _
    have hSb : Hid (∀ x ∈ S.take 4, x < 256) := fun x hx => by
      have hx2 := List.mem_of_mem_take hx
      rw [hS] at hx2
      obtain ⟨j, hj, rfl⟩ := List.getElem_of_mem hx2
      have := Sha.sumB_lt bd j
      simpa [List.getD_eq_getElem?_getD, hj] using this
    have hSH : Hid (S = sumB bd) := hS
    obtain ⟨Y, hY⟩ : ∃ Y, Y = (l.drop (e + 4 + sz)).take 4 := ⟨_, rfl⟩
    have hYl : Y.length = 4 := by rw [hY, List.length_take, List.length_drop, ← hn'.out]; omega
    have hYb : Hid (∀ x ∈ Y, x < 256) := fun x hx => hbH.out x (by rw [hY] at hx; exact List.mem_of_mem_drop (List.mem_of_mem_take hx))
    have hyYw : Hid (Rw 1 encB w (.slice (some ⟨g, o + (e + 4 + sz), none⟩) 4 (c - (e + 4 + sz))) Y) := by
      have h8 := rw_mid hn'.out hyw.out (e + 4 + sz) 4 (by omega)
      rw [← hY] at h8
      exact h8
    have hTv : Hid (oneS L = if Y ≠ S.take 4 ∨ l.getD (e + 8 + sz) 0 ≠ 197 then none else some (beN (bd.take 8), bd.drop 8, sz + 9)) := by
      show _ = _
      unfold oneS
      have e1 : beN ((L.drop 4).take 8) = beN (bd.take 8) := by rw [hbd, List.take_take, Nat.min_eq_left (by omega)]
      have e2 : (L.drop (4 + sz)).take 4 = Y := by rw [hY, hLH.out, List.drop_drop]; congr 2; omega
      have e3 : L.getD (8 + sz) 0 = l.getD (e + 8 + sz) 0 := by rw [hLH.out, getD_drop]; congr 1; omega
      rw [← hszH.out, if_neg (by omega), if_neg (by omega), ← hbd, ← hS, e1, e2, e3]
    clear hbd hS hY hszH
    go_upto_region 8 with fail
    refine wp_region_lit ?_
    refine sl_run rfl (.slice (some ⟨g, o, none⟩) n c) w2 (by kernel_rfl) ?_
    simp only [Act.put, fl1, fl2, fl3]
    refine sl_run rfl (.int .i64 (e : Int)) w2 (by kernel_rfl) ?_
    simp only [Act.put, fl1, fl2, fl3]
    refine sl_run rfl (.int .i64 ((e : Int) + 4)) w2 (exec_add2 _ _ rfl ((e : Int)) (4) (by kernel_rfl) (by kernel_rfl) (by omega) (by omega) _) ?_
    simp only [Act.put, fl1, fl2, fl3]
    refine sl_run rfl (.int .i64 (e : Int)) w2 (by kernel_rfl) ?_
    simp only [Act.put, fl1, fl2, fl3]
    refine sl_run rfl (.int .i64 ((e : Int) + 4)) w2 (exec_add2 _ _ rfl ((e : Int)) (4) (by kernel_rfl) (by kernel_rfl) (by omega) (by omega) _) ?_
    simp only [Act.put, fl1, fl2, fl3]
    refine sl_run rfl (.int .i64 (sz : Int)) w2 (by kernel_rfl) ?_
    simp only [Act.put, fl1, fl2, fl3]
    refine sl_run rfl (.int .i64 ((e : Int) + 4 + (sz : Int))) w2 (exec_add2 _ _ rfl ((e : Int) + 4) ((sz : Int)) (by kernel_rfl) (by kernel_rfl) (by omega) (by omega) _) ?_
    simp only [Act.put, fl1, fl2, fl3]
    refine sl_run rfl (.slice (some ⟨g, o + (e + 4), none⟩) sz (c - (e + 4))) w2 ((Sha.exec_slice_lh _ _ _ rfl g o n c (e + 4) (e + 4 + sz) (by kernel_rfl) (by kernel_rfl) (by kernel_rfl) (by omega) (by omega) w2).trans (by rw [Nat.add_sub_cancel_left])) ?_
    simp only [Act.put, fl1, fl2, fl3]
    refine sl_run rfl (.slice (some ⟨g, o + (e + 4), none⟩) sz (c - (e + 4))) w2 (by kernel_rfl) ?_
    simp only [Act.put, fl1, fl2, fl3]
    refine wpList_nil ?_
    go_upto_region 9 with fail
    refine wp_region_lit ?_
    refine sl_run rfl (.slice (some ⟨g, o + (e + 4), none⟩) sz (c - (e + 4))) w2 (by kernel_rfl) ?_
    simp only [Act.put, fl1, fl2, fl3]
    refine sg_call (by kernel_rfl) 25 #[.slice (some ⟨g, o + (e + 4), none⟩) sz (c - (e + 4))] (by kernel_rfl) (R := fun v w' => v = .agg (bytesC S) ∧ Below w2.heap.size w2 w') ?hcd2 ?_
    case hcd2 =>
      have h8 := Sha.one_calls bd (getD_of hbb.out) (by omega) _ w2 (rw_bytes.1 (hybw.out.below hBw2.out))
      rw [← hSH.out] at h8
      exact h8.mono fun e w' h => ⟨_, h.1, rfl, h.2⟩
    rintro _ w3 ⟨rfl, hb⟩
    simp only [Act.put, fl1, fl2, fl3]
    have hBw3 : Hid (Below w.heap.size w w3) := (hBw2.out).trans ((hb).mono (hBw2.out).size)
    have hplw3 : Hid (PLo w3 w.heap.size v ps) := (hplw2.out).below hb
    have hDw3 : Hid (w3.heap[D]? = some (.cells (bytesC S0) 56 (0, 0))) := heap_kept (hDw2.out) hb
    clear hBw2 hplw2 hDw2
    clear hb
    refine wpList_store_row rfl 56 _ _ rfl D (bytesC S) (by kernel_rfl) (by kernel_rfl) 56 (bytesC S0) hDw3.out (by rw [Sha.bytesC_size, hSl]; kernel_rfl) (by rw [Sha.bytesC_size, Sha.bytesC_size, hSl, hS0]) (Sha.bytesC_one _) ?_
    simp only [Act.put, fl1, fl2, fl3]
    have hDw4 : Hid ((w3.setRow D (bytesC S)).heap[D]? = some (.cells (bytesC S) 56 (0, 0))) := setRow_heap _ _ _ _ _ _ hDw3.out
    have hBw4 : Hid (Below w.heap.size w (w3.setRow D (bytesC S))) := below_setRow hBw3.out hDw _
    have hplw4 : Hid (PLo (w3.setRow D (bytesC S)) w.heap.size v ps) := hplw3.out.kept hDw3.out (by decide) (by decide) (grown_setRow _ _ _)
    generalize (w3.setRow D (bytesC S)) = w4 at hDw4 hBw4 hplw4 ⊢
    clear hDw3 hBw3 hplw3
    refine wpList_nil ?_
    go_upto_region 10 with fail
    refine wp_normalG ?_
    refine wp_region_held_drew (S := fun w' => Below w4.heap.size w4 w') (by kernel_rfl) (Below.refl _ _).drew (fun hS => ?_)
    change wpAnyH _ _ _ _ _ 23 (Array.replicate 23 false) _ _
    generalize hx : w4.drew = y0 at hS ⊢
    clear hx
    refine held_take 0 rfl (by kernel_rfl) (by kernel_rfl) (by kernel_rfl) (.slice (some ⟨D, 0, none⟩) 4 32) (fun _ _ _ h => nomatch h.1) (by kernel_rfl) (fun w' h => exec_sliceA w' _ _ rfl D 4 (by kernel_rfl) (by kernel_rfl) (by omega)) hS ?_
    simp only [Act.put, fl1, fl2, fl3, fl4, fl5, fl6]
    refine held_take 1 rfl (by kernel_rfl) (by kernel_rfl) (by kernel_rfl) (.slice (some ⟨g, o, none⟩) n c) (fun _ _ _ h => nomatch h.1) (by kernel_rfl) (fun w' h => (by kernel_rfl)) hS ?_
    simp only [Act.put, fl1, fl2, fl3, fl4, fl5, fl6]
    refine held_take 2 rfl (by kernel_rfl) (by kernel_rfl) (by kernel_rfl) (.int .i64 (e : Int)) (fun _ _ _ h => nomatch h.1) (by kernel_rfl) (fun w' h => (by kernel_rfl)) hS ?_
    simp only [Act.put, fl1, fl2, fl3, fl4, fl5, fl6]
    refine held_take 3 rfl (by kernel_rfl) (by kernel_rfl) (by kernel_rfl) (.int .i64 ((e : Int) + 4)) (fun _ _ _ h => nomatch h.1) (by kernel_rfl) (fun w' h => (exec_add2 _ _ rfl ((e : Int)) (4) (by kernel_rfl) (by kernel_rfl) (by omega) (by omega) _)) hS ?_
    simp only [Act.put, fl1, fl2, fl3, fl4, fl5, fl6]
    refine held_take 4 rfl (by kernel_rfl) (by kernel_rfl) (by kernel_rfl) (.int .i64 (sz : Int)) (fun _ _ _ h => nomatch h.1) (by kernel_rfl) (fun w' h => (by kernel_rfl)) hS ?_
    simp only [Act.put, fl1, fl2, fl3, fl4, fl5, fl6]
    refine held_take 5 rfl (by kernel_rfl) (by kernel_rfl) (by kernel_rfl) (.int .i64 ((e : Int) + 4 + (sz : Int))) (fun _ _ _ h => nomatch h.1) (by kernel_rfl) (fun w' h => (exec_add2 _ _ rfl ((e : Int) + 4) ((sz : Int)) (by kernel_rfl) (by kernel_rfl) (by omega) (by omega) _)) hS ?_
    simp only [Act.put, fl1, fl2, fl3, fl4, fl5, fl6]
    refine held_take 6 rfl (by kernel_rfl) (by kernel_rfl) (by kernel_rfl) (.int .i64 (e : Int)) (fun _ _ _ h => nomatch h.1) (by kernel_rfl) (fun w' h => (by kernel_rfl)) hS ?_
    simp only [Act.put, fl1, fl2, fl3, fl4, fl5, fl6]
    refine held_take 7 rfl (by kernel_rfl) (by kernel_rfl) (by kernel_rfl) (.int .i64 ((e : Int) + 8)) (fun _ _ _ h => nomatch h.1) (by kernel_rfl) (fun w' h => (exec_add2 _ _ rfl ((e : Int)) (8) (by kernel_rfl) (by kernel_rfl) (by omega) (by omega) _)) hS ?_
    simp only [Act.put, fl1, fl2, fl3, fl4, fl5, fl6]
    refine held_take 8 rfl (by kernel_rfl) (by kernel_rfl) (by kernel_rfl) (.int .i64 (sz : Int)) (fun _ _ _ h => nomatch h.1) (by kernel_rfl) (fun w' h => (by kernel_rfl)) hS ?_
    simp only [Act.put, fl1, fl2, fl3, fl4, fl5, fl6]
    refine held_take 9 rfl (by kernel_rfl) (by kernel_rfl) (by kernel_rfl) (.int .i64 ((e : Int) + 8 + (sz : Int))) (fun _ _ _ h => nomatch h.1) (by kernel_rfl) (fun w' h => (exec_add2 _ _ rfl ((e : Int) + 8) ((sz : Int)) (by kernel_rfl) (by kernel_rfl) (by omega) (by omega) _)) hS ?_
    simp only [Act.put, fl1, fl2, fl3, fl4, fl5, fl6]
    refine held_take 10 rfl (by kernel_rfl) (by kernel_rfl) (by kernel_rfl) (.slice (some ⟨g, o + (e + 4 + sz), none⟩) 4 (c - (e + 4 + sz))) (fun _ _ _ h => nomatch h.1) (by kernel_rfl) (fun w' h => ((Sha.exec_slice_lh _ _ _ rfl g o n c (e + 4 + sz) (e + 8 + sz) (by kernel_rfl) (by kernel_rfl) (by kernel_rfl) (by omega) (by omega) w').trans (by rw [show e + 8 + sz - (e + 4 + sz) = 4 by omega]))) hS ?_
    simp only [Act.put, fl1, fl2, fl3, fl4, fl5, fl6]
    obtain ⟨q, hq⟩ : ∃ q, q = decide (S.take 4 = Y) := ⟨_, rfl⟩
    refine held_call 11 rfl (by kernel_rfl) (by kernel_rfl) 30 #[.slice (some ⟨D, 0, none⟩) 4 32, .slice (some ⟨g, o + (e + 4 + sz), none⟩) 4 (c - (e + 4 + sz))] (by kernel_rfl) (R := fun v w' => v = .bool q ∧ Below y0.heap.size y0 w') ((equal_calls (S.take 4) Y hSb.out hYb.out (by rw [List.length_take]; omega) (by omega) _ _ y0 (rw_bytes.1 (arr_take hSl (heap_kept hDw4.out hS))) (rw_bytes.1 (hyYw.out.below (hBw4.out.trans (hS.mono hBw4.out.size))))).mono fun e w' h => ⟨_, h.1, by rw [hq], h.2⟩) ?_
    rintro _ y1 ⟨rfl, hb⟩
    have hS9 : Below w4.heap.size w4 y1 := hS.trans (hb.mono hS.size)
    clear hS
    have hS := hS9
    clear hS9 hb
    refine ⟨hS, ?_⟩
    simp only [Act.put, fl1, fl2, fl3, fl4, fl5, fl6]
    cases q with
    | false =>
      refine held_take 12 rfl (by kernel_rfl) (by kernel_rfl) (by kernel_rfl) (.bool true) (fun _ _ _ h => nomatch h.1) (by kernel_rfl) (fun w' h => (by kernel_rfl)) hS ?_
      simp only [Act.put, fl1, fl2, fl3, fl4, fl5, fl6]
      refine held_take 13 rfl (by kernel_rfl) (by kernel_rfl) (by kernel_rfl) (.bool true) (fun _ _ _ h => nomatch h.1) (by kernel_rfl) (fun w' h => (by kernel_rfl)) hS ?_
      simp only [Act.put, fl1, fl2, fl3, fl4, fl5, fl6]
      refine held_skip 14 rfl (by kernel_rfl) (by kernel_rfl) (by kernel_rfl) (fun _ _ _ h => nomatch h.1) (by kernel_rfl) hS ?_
      simp only [Act.put, fl1, fl2, fl3, fl4, fl5, fl6]
      refine held_skip 15 rfl (by kernel_rfl) (by kernel_rfl) (by kernel_rfl) (fun _ _ _ h => nomatch h.1) (by kernel_rfl) hS ?_
      simp only [Act.put, fl1, fl2, fl3, fl4, fl5, fl6]
      refine held_skip 16 rfl (by kernel_rfl) (by kernel_rfl) (by kernel_rfl) (fun _ _ _ h => nomatch h.1) (by kernel_rfl) hS ?_
      simp only [Act.put, fl1, fl2, fl3, fl4, fl5, fl6]
      refine held_skip 17 rfl (by kernel_rfl) (by kernel_rfl) (by kernel_rfl) (fun _ _ _ h => nomatch h.1) (by kernel_rfl) hS ?_
      simp only [Act.put, fl1, fl2, fl3, fl4, fl5, fl6]
      refine held_skip 18 rfl (by kernel_rfl) (by kernel_rfl) (by kernel_rfl) (fun _ _ _ h => nomatch h.1) (by kernel_rfl) hS ?_
      simp only [Act.put, fl1, fl2, fl3, fl4, fl5, fl6]
      refine held_skip 19 rfl (by kernel_rfl) (by kernel_rfl) (by kernel_rfl) (fun _ _ _ h => nomatch h.1) (by kernel_rfl) hS ?_
      simp only [Act.put, fl1, fl2, fl3, fl4, fl5, fl6]
      refine held_skip 20 rfl (by kernel_rfl) (by kernel_rfl) (by kernel_rfl) (fun _ _ _ h => nomatch h.1) (by kernel_rfl) hS ?_
      simp only [Act.put, fl1, fl2, fl3, fl4, fl5, fl6]
      refine held_skip 21 rfl (by kernel_rfl) (by kernel_rfl) (by kernel_rfl) (fun _ _ _ h => nomatch h.1) (by kernel_rfl) hS ?_
      simp only [Act.put, fl1, fl2, fl3, fl4, fl5, fl6]
      refine held_take 22 rfl (by kernel_rfl) (by kernel_rfl) (by kernel_rfl) (.bool true) (fun _ _ _ h => nomatch h.1) (by kernel_rfl) (fun w' h => (by kernel_rfl)) hS ?_
      simp only [Act.put, fl1, fl2, fl3, fl4, fl5, fl6]
      have hBy1 : Hid (Below w.heap.size w y1) := (hBw4.out).trans ((hS).mono (hBw4.out).size)
      have hply1 : Hid (PLo y1 w.heap.size v ps) := (hplw4.out).below hS
      have hDy1 : Hid (y1.heap[D]? = some (.cells (bytesC S) 56 (0, 0))) := heap_kept (hDw4.out) hS
      clear hS hBw4 hplw4 hDw4
      refine wpAnyH_done (by kernel_rfl) ?_ _
      refine ⟨rfl, ?_⟩
      rename_i hK
      refine hK _ _ ?_
      clear hK
      have hs : oneS L = none := by
        rw [hTv.out, if_pos (.inl (fun h => of_decide_eq_false hq.symm h.symm))]
      have hRe : Hid (R = (f, ps, e)) := hresH.out.symm.trans (scanS_none (by rw [← hLH.out]; exact hs))
      clear hs
      clear hresH hzH hLH hLb hA hyw hbH hRH hn' hTv hyLw hcell hybw hbb hSb hSH hYb hyYw hq
      clear hDy1
      go_wp2
      try go_step3
      exact hE.out _ _ (JE.of f ps e v (by kernel_rfl) ⟨hRe.out, hply1.out, hBy1.out⟩)
    | true =>
      refine held_take 12 rfl (by kernel_rfl) (by kernel_rfl) (by kernel_rfl) (.bool false) (fun _ _ _ h => nomatch h.1) (by kernel_rfl) (fun w' h => (by kernel_rfl)) hS ?_
      simp only [Act.put, fl1, fl2, fl3, fl4, fl5, fl6]
      refine held_take 13 rfl (by kernel_rfl) (by kernel_rfl) (by kernel_rfl) (.bool false) (fun _ _ _ h => nomatch h.1) (by kernel_rfl) (fun w' h => (by kernel_rfl)) hS ?_
      simp only [Act.put, fl1, fl2, fl3, fl4, fl5, fl6]
      refine held_take 14 rfl (by kernel_rfl) (by kernel_rfl) (by kernel_rfl) (.slice (some ⟨g, o, none⟩) n c) (fun _ _ _ h => nomatch h.1) (by kernel_rfl) (fun w' h => (by kernel_rfl)) hS ?_
      simp only [Act.put, fl1, fl2, fl3, fl4, fl5, fl6]
      refine held_take 15 rfl (by kernel_rfl) (by kernel_rfl) (by kernel_rfl) (.int .i64 (e : Int)) (fun _ _ _ h => nomatch h.1) (by kernel_rfl) (fun w' h => (by kernel_rfl)) hS ?_
      simp only [Act.put, fl1, fl2, fl3, fl4, fl5, fl6]
      refine held_take 16 rfl (by kernel_rfl) (by kernel_rfl) (by kernel_rfl) (.int .i64 ((e : Int) + 8)) (fun _ _ _ h => nomatch h.1) (by kernel_rfl) (fun w' h => (exec_add2 _ _ rfl ((e : Int)) (8) (by kernel_rfl) (by kernel_rfl) (by omega) (by omega) _)) hS ?_
      simp only [Act.put, fl1, fl2, fl3, fl4, fl5, fl6]
      refine held_take 17 rfl (by kernel_rfl) (by kernel_rfl) (by kernel_rfl) (.int .i64 (sz : Int)) (fun _ _ _ h => nomatch h.1) (by kernel_rfl) (fun w' h => (by kernel_rfl)) hS ?_
      simp only [Act.put, fl1, fl2, fl3, fl4, fl5, fl6]
      refine held_take 18 rfl (by kernel_rfl) (by kernel_rfl) (by kernel_rfl) (.int .i64 ((e : Int) + 8 + (sz : Int))) (fun _ _ _ h => nomatch h.1) (by kernel_rfl) (fun w' h => (exec_add2 _ _ rfl ((e : Int) + 8) ((sz : Int)) (by kernel_rfl) (by kernel_rfl) (by omega) (by omega) _)) hS ?_
      simp only [Act.put, fl1, fl2, fl3, fl4, fl5, fl6]
      refine held_take 19 rfl (by kernel_rfl) (by kernel_rfl) (by kernel_rfl) (.pointer (some ⟨g, o + (e + 8 + sz) * 1, none⟩)) (fun _ _ _ h => nomatch h.1) (by kernel_rfl) (fun w' h => exec_index un22 sz22 _ _ rfl g o n c (e + 8 + sz) (by kernel_rfl) (by kernel_rfl) (by omega) w') hS ?_
      simp only [Act.put, fl1, fl2, fl3, fl4, fl5, fl6]
      refine held_take 20 rfl (by kernel_rfl) (by kernel_rfl) (by kernel_rfl) (.int .u8 ((l.getD (e + 8 + sz) 0 : Nat) : Int)) (fun _ _ _ h => nomatch h.1) (by kernel_rfl) (fun w' h => exec_load_cell 5 w' _ rfl ⟨g, o + (e + 8 + sz) * 1, none⟩ (by kernel_rfl) _ (hcell.out (e + 8 + sz) w' (by omega) (hBw4.out.trans (h.mono hBw4.out.size))) (fun _ => by kernel_rfl)) hS ?_
      simp only [Act.put, fl1, fl2, fl3, fl4, fl5, fl6]
      refine held_take 21 rfl (by kernel_rfl) (by kernel_rfl) (by kernel_rfl) (.bool (decide (l.getD (e + 8 + sz) 0 ≠ 197))) (fun _ _ _ h => nomatch h.1) (by kernel_rfl) (fun w' h => exec_ne8 _ _ _ rfl _ 197 (by kernel_rfl) (by kernel_rfl) _ rfl) hS ?_
      simp only [Act.put, fl1, fl2, fl3, fl4, fl5, fl6]
      refine held_take 22 rfl (by kernel_rfl) (by kernel_rfl) (by kernel_rfl) (.bool (decide (l.getD (e + 8 + sz) 0 ≠ 197))) (fun _ _ _ h => nomatch h.1) (by kernel_rfl) (fun w' h => (by kernel_rfl)) hS ?_
      simp only [Act.put, fl1, fl2, fl3, fl4, fl5, fl6]
      have hBy1 : Hid (Below w.heap.size w y1) := (hBw4.out).trans ((hS).mono (hBw4.out).size)
      have hply1 : Hid (PLo y1 w.heap.size v ps) := (hplw4.out).below hS
      have hDy1 : Hid (y1.heap[D]? = some (.cells (bytesC S) 56 (0, 0))) := heap_kept (hDw4.out) hS
      clear hS hBw4 hplw4 hDw4
      refine wpAnyH_done (by kernel_rfl) ?_ _
      refine ⟨rfl, ?_⟩
      rename_i hK
      refine hK _ _ ?_
      clear hK
      by_cases hx : l.getD (e + 8 + sz) 0 = 197
      case neg =>
        have hd : decide (l.getD (e + 8 + sz) 0 ≠ 197) = true := decide_eq_true hx
        rw [hd]
        clear hd
        have hs : oneS L = none := by
          rw [hTv.out, if_pos (.inr hx)]
        have hRe : Hid (R = (f, ps, e)) := hresH.out.symm.trans (scanS_none (by rw [← hLH.out]; exact hs))
        clear hs
        clear hresH hzH hLH hLb hA hyw hbH hRH hn' hTv hyLw hcell hybw hbb hSb hSH hYb hyYw hq hx
        clear hDy1
        go_wp2
        try go_step3
        exact hE.out _ _ (JE.of f ps e v (by kernel_rfl) ⟨hRe.out, hply1.out, hBy1.out⟩)
      case pos =>
      have hd : decide (l.getD (e + 8 + sz) 0 ≠ 197) = false := decide_eq_false (fun h => h hx)
      rw [hd]
      clear hd
      obtain ⟨nm, hnm⟩ : ∃ nm, nm = beN (bd.take 8) := ⟨_, rfl⟩
      obtain ⟨pl, hpl⟩ : ∃ pl, pl = bd.drop 8 := ⟨_, rfl⟩
      have hpll : pl.length = sz - 8 := by rw [hpl, List.length_drop, hbl]
      have hnm2 : nm < 18446744073709551616 := by
        have h1 := beN_lt (bd.take 8) fun x hx => hbb.out x (List.mem_of_mem_take hx)
        have h2 : 256 ^ (bd.take 8).length ≤ 256 ^ 8 := Nat.pow_le_pow_right (by decide) (by rw [List.length_take]; omega)
        have h3 : (256 : Nat) ^ 8 = 18446744073709551616 := by decide
        omega
      have hs1 : oneS L = some (nm, pl, sz + 9) := by
        rw [hTv.out, if_neg, hnm, hpl]
        rintro (h | h)
        · exact h (of_decide_eq_true hq.symm).symm
        · exact h hx
      have hRs : Hid (R = if (f = 0 ∧ (nm < 1 ∨ 1099511627776 < nm)) ∨ (0 < f ∧ nm ≠ f + ps.length) then (f, ps, e) else scanS l (if f = 0 then nm else f) (ps ++ [pl]) (e + (sz + 9))) :=
        hresH.out.symm.trans (scanS_some (by rw [← hLH.out]; exact hs1))
      have hnmH : Hid (nm = beN (bd.take 8)) := hnm
      obtain ⟨A8, hA8⟩ : ∃ a, a = (if c - (e + 4) = 8 then some (⟨g, o + (e + 4), none⟩ : Addr) else (some (⟨g, o + (e + 4), none⟩ : Addr)).map (·.add (8 * 1))) := ⟨_, rfl⟩
      have hp8w : Hid (Rw 1 encB w (.slice A8 (sz - 8) (c - (e + 4) - 8)) pl) := by
        have h8 := rw_drop hbl.symm hybw.out 8 (by omega)
        rw [← hA8, ← hpl] at h8
        exact h8
      have hA8H : Hid (A8 = (if c - (e + 4) = 8 then some (⟨g, o + (e + 4), none⟩ : Addr) else (some (⟨g, o + (e + 4), none⟩ : Addr)).map (·.add (8 * 1)))) := hA8
      have hpb : Hid (∀ x ∈ pl, x < 256) := fun x hx => hbb.out x (by rw [hpl] at hx; exact List.mem_of_mem_drop hx)
      clear hnm hpl hs1 hA8 hTv hq hx hyLw hcell hSb hSH hYb hyYw hresH
      go_upto_region 11 with fail
      refine wp_region_lit ?_
      refine sl_run rfl (.slice (some ⟨g, o + (e + 4), none⟩) sz (c - (e + 4))) y1 (by kernel_rfl) ?_
      simp only [Act.put, fl1, fl2, fl3]
      refine sg_call (by kernel_rfl) 29 #[.slice (some ⟨g, o + (e + 4), none⟩) sz (c - (e + 4)), .int .i64 8] (by kernel_rfl) (R := fun v w' => v = .int .u64 (nm : Int) ∧ Below y1.heap.size y1 w') ?hcd3 ?_
      case hcd3 =>
        have h8 := number_calls bd hbb.out (some ⟨g, o + (e + 4), none⟩) sz (c - (e + 4)) hbl.symm (by omega) 8 (by omega) (by decide) y1 (hybw.out.below hBy1.out)
        rw [← hnmH.out] at h8
        exact h8.mono fun e w' h => ⟨_, h.1, rfl, h.2⟩
      rintro _ w5 ⟨rfl, hb⟩
      simp only [Act.put, fl1, fl2, fl3]
      have hBw5 : Hid (Below w.heap.size w w5) := (hBy1.out).trans ((hb).mono (hBy1.out).size)
      have hplw5 : Hid (PLo w5 w.heap.size v ps) := (hply1.out).below hb
      have hDw5 : Hid (w5.heap[D]? = some (.cells (bytesC S) 56 (0, 0))) := heap_kept (hDy1.out) hb
      clear hBy1 hply1 hDy1
      clear hb
      refine sl_run rfl (.int .u64 (nm : Int)) w5 (by kernel_rfl) ?_
      simp only [Act.put, fl1, fl2, fl3]
      refine wpList_nil ?_
      by_cases hf0 : f = 0
      case pos =>
        by_cases hn1 : nm < 1
        case pos =>
          go_upto_region 12 with fail
          refine wp_region_lit ?_
          refine sl_run rfl (.int .i64 (f : Int)) w5 (by kernel_rfl) ?_
          simp only [Act.put, fl1, fl2, fl3]
          refine sl_run rfl (.bool true) w5 (exec_eqI _ _ _ rfl (f : Int) 0 (by kernel_rfl) (by kernel_rfl) true (by simp; omega)) ?_
          simp only [Act.put, fl1, fl2, fl3]
          refine sl_run rfl (.bool true) w5 (by kernel_rfl) ?_
          simp only [Act.put, fl1, fl2, fl3]
          refine sg_run (by kernel_rfl) (.int .u64 (nm : Int)) w5 (by kernel_rfl) ?_
          simp only [Act.put, fl1, fl2, fl3]
          refine sg_run (by kernel_rfl) (.bool true) w5 (exec_lssU _ _ _ rfl ((nm : Int)) (1) (by kernel_rfl) (by kernel_rfl) true (decide_eq_true (by omega))) ?_
          simp only [Act.put, fl1, fl2, fl3]
          refine sg_run (by kernel_rfl) (.bool true) w5 (by kernel_rfl) ?_
          simp only [Act.put, fl1, fl2, fl3]
          rw [wpList, if_neg (by rw [show Region.wanted _ _ = false by kernel_rfl]; decide)]
          simp only [Act.put, fl1, fl2, fl3]
          rw [wpList, if_neg (by rw [show Region.wanted _ _ = false by kernel_rfl]; decide)]
          simp only [Act.put, fl1, fl2, fl3]
          refine sg_run (by kernel_rfl) (.bool true) w5 (by kernel_rfl) ?_
          simp only [Act.put, fl1, fl2, fl3]
          refine sl_run rfl (.bool true) w5 (by kernel_rfl) ?_
          simp only [Act.put, fl1, fl2, fl3]
          refine sl_run rfl (.bool true) w5 (by kernel_rfl) ?_
          simp only [Act.put, fl1, fl2, fl3]
          rw [wpList, if_neg (by rw [show Region.wanted _ _ = false by kernel_rfl]; decide)]
          simp only [Act.put, fl1, fl2, fl3]
          rw [wpList, if_neg (by rw [show Region.wanted _ _ = false by kernel_rfl]; decide)]
          simp only [Act.put, fl1, fl2, fl3]
          rw [wpList, if_neg (by rw [show Region.wanted _ _ = false by kernel_rfl]; decide)]
          simp only [Act.put, fl1, fl2, fl3]
          rw [wpList, if_neg (by rw [show Region.wanted _ _ = false by kernel_rfl]; decide)]
          simp only [Act.put, fl1, fl2, fl3]
          rw [wpList, if_neg (by rw [show Region.wanted _ _ = false by kernel_rfl]; decide)]
          simp only [Act.put, fl1, fl2, fl3]
          rw [wpList, if_neg (by rw [show Region.wanted _ _ = false by kernel_rfl]; decide)]
          simp only [Act.put, fl1, fl2, fl3]
          rw [wpList, if_neg (by rw [show Region.wanted _ _ = false by kernel_rfl]; decide)]
          simp only [Act.put, fl1, fl2, fl3]
          rw [wpList, if_neg (by rw [show Region.wanted _ _ = false by kernel_rfl]; decide)]
          simp only [Act.put, fl1, fl2, fl3]
          rw [wpList, if_neg (by rw [show Region.wanted _ _ = false by kernel_rfl]; decide)]
          simp only [Act.put, fl1, fl2, fl3]
          rw [wpList, if_neg (by rw [show Region.wanted _ _ = false by kernel_rfl]; decide)]
          simp only [Act.put, fl1, fl2, fl3]
          rw [wpList, if_neg (by rw [show Region.wanted _ _ = false by kernel_rfl]; decide)]
          simp only [Act.put, fl1, fl2, fl3]
          refine sl_run rfl (.bool true) w5 (by kernel_rfl) ?_
          simp only [Act.put, fl1, fl2, fl3]
          refine wpList_nil ?_
          have hRe : Hid (R = (f, ps, e)) := by
            show _ = _
            rw [hRs.out, if_pos (.inl ⟨hf0, .inl hn1⟩)]
          clear hRs hzH hLH hLb hA hyw hbH hRH hn' hybw hbb hnmH hA8H hp8w hpb
          clear hDw5
          go_wp2
          try go_step3
          exact hE.out _ _ (JE.of f ps e v (by kernel_rfl) ⟨hRe.out, hplw5.out, hBw5.out⟩)
        case neg =>
        by_cases hn4 : 1099511627776 < nm
        case pos =>
          go_upto_region 12 with fail
          refine wp_region_lit ?_
          refine sl_run rfl (.int .i64 (f : Int)) w5 (by kernel_rfl) ?_
          simp only [Act.put, fl1, fl2, fl3]
          refine sl_run rfl (.bool true) w5 (exec_eqI _ _ _ rfl (f : Int) 0 (by kernel_rfl) (by kernel_rfl) true (by simp; omega)) ?_
          simp only [Act.put, fl1, fl2, fl3]
          refine sl_run rfl (.bool true) w5 (by kernel_rfl) ?_
          simp only [Act.put, fl1, fl2, fl3]
          refine sg_run (by kernel_rfl) (.int .u64 (nm : Int)) w5 (by kernel_rfl) ?_
          simp only [Act.put, fl1, fl2, fl3]
          refine sg_run (by kernel_rfl) (.bool false) w5 (exec_lssU _ _ _ rfl ((nm : Int)) (1) (by kernel_rfl) (by kernel_rfl) false (decide_eq_false (by omega))) ?_
          simp only [Act.put, fl1, fl2, fl3]
          refine sg_run (by kernel_rfl) (.bool false) w5 (by kernel_rfl) ?_
          simp only [Act.put, fl1, fl2, fl3]
          refine sg_run (by kernel_rfl) (.int .u64 (nm : Int)) w5 (by kernel_rfl) ?_
          simp only [Act.put, fl1, fl2, fl3]
          refine sg_run (by kernel_rfl) (.bool true) w5 (exec_gtrU _ _ _ rfl ((nm : Int)) (1099511627776) (by kernel_rfl) (by kernel_rfl) true (decide_eq_true (by omega))) ?_
          simp only [Act.put, fl1, fl2, fl3]
          refine sg_run (by kernel_rfl) (.bool true) w5 (by kernel_rfl) ?_
          simp only [Act.put, fl1, fl2, fl3]
          refine sl_run rfl (.bool true) w5 (by kernel_rfl) ?_
          simp only [Act.put, fl1, fl2, fl3]
          refine sl_run rfl (.bool true) w5 (by kernel_rfl) ?_
          simp only [Act.put, fl1, fl2, fl3]
          rw [wpList, if_neg (by rw [show Region.wanted _ _ = false by kernel_rfl]; decide)]
          simp only [Act.put, fl1, fl2, fl3]
          rw [wpList, if_neg (by rw [show Region.wanted _ _ = false by kernel_rfl]; decide)]
          simp only [Act.put, fl1, fl2, fl3]
          rw [wpList, if_neg (by rw [show Region.wanted _ _ = false by kernel_rfl]; decide)]
          simp only [Act.put, fl1, fl2, fl3]
          rw [wpList, if_neg (by rw [show Region.wanted _ _ = false by kernel_rfl]; decide)]
          simp only [Act.put, fl1, fl2, fl3]
          rw [wpList, if_neg (by rw [show Region.wanted _ _ = false by kernel_rfl]; decide)]
          simp only [Act.put, fl1, fl2, fl3]
          rw [wpList, if_neg (by rw [show Region.wanted _ _ = false by kernel_rfl]; decide)]
          simp only [Act.put, fl1, fl2, fl3]
          rw [wpList, if_neg (by rw [show Region.wanted _ _ = false by kernel_rfl]; decide)]
          simp only [Act.put, fl1, fl2, fl3]
          rw [wpList, if_neg (by rw [show Region.wanted _ _ = false by kernel_rfl]; decide)]
          simp only [Act.put, fl1, fl2, fl3]
          rw [wpList, if_neg (by rw [show Region.wanted _ _ = false by kernel_rfl]; decide)]
          simp only [Act.put, fl1, fl2, fl3]
          rw [wpList, if_neg (by rw [show Region.wanted _ _ = false by kernel_rfl]; decide)]
          simp only [Act.put, fl1, fl2, fl3]
          rw [wpList, if_neg (by rw [show Region.wanted _ _ = false by kernel_rfl]; decide)]
          simp only [Act.put, fl1, fl2, fl3]
          refine sl_run rfl (.bool true) w5 (by kernel_rfl) ?_
          simp only [Act.put, fl1, fl2, fl3]
          refine wpList_nil ?_
          have hRe : Hid (R = (f, ps, e)) := by
            show _ = _
            rw [hRs.out, if_pos (.inl ⟨hf0, .inr hn4⟩)]
          clear hRs hzH hLH hLb hA hyw hbH hRH hn' hybw hbb hnmH hA8H hp8w hpb
          clear hDw5
          go_wp2
          try go_step3
          exact hE.out _ _ (JE.of f ps e v (by kernel_rfl) ⟨hRe.out, hplw5.out, hBw5.out⟩)
        case neg =>
        go_upto_region 12 with fail
        refine wp_region_lit ?_
        refine sl_run rfl (.int .i64 (f : Int)) w5 (by kernel_rfl) ?_
        simp only [Act.put, fl1, fl2, fl3]
        refine sl_run rfl (.bool true) w5 (exec_eqI _ _ _ rfl (f : Int) 0 (by kernel_rfl) (by kernel_rfl) true (by simp; omega)) ?_
        simp only [Act.put, fl1, fl2, fl3]
        refine sl_run rfl (.bool true) w5 (by kernel_rfl) ?_
        simp only [Act.put, fl1, fl2, fl3]
        refine sg_run (by kernel_rfl) (.int .u64 (nm : Int)) w5 (by kernel_rfl) ?_
        simp only [Act.put, fl1, fl2, fl3]
        refine sg_run (by kernel_rfl) (.bool false) w5 (exec_lssU _ _ _ rfl ((nm : Int)) (1) (by kernel_rfl) (by kernel_rfl) false (decide_eq_false (by omega))) ?_
        simp only [Act.put, fl1, fl2, fl3]
        refine sg_run (by kernel_rfl) (.bool false) w5 (by kernel_rfl) ?_
        simp only [Act.put, fl1, fl2, fl3]
        refine sg_run (by kernel_rfl) (.int .u64 (nm : Int)) w5 (by kernel_rfl) ?_
        simp only [Act.put, fl1, fl2, fl3]
        refine sg_run (by kernel_rfl) (.bool false) w5 (exec_gtrU _ _ _ rfl ((nm : Int)) (1099511627776) (by kernel_rfl) (by kernel_rfl) false (decide_eq_false (by omega))) ?_
        simp only [Act.put, fl1, fl2, fl3]
        refine sg_run (by kernel_rfl) (.bool false) w5 (by kernel_rfl) ?_
        simp only [Act.put, fl1, fl2, fl3]
        refine sl_run rfl (.bool false) w5 (by kernel_rfl) ?_
        simp only [Act.put, fl1, fl2, fl3]
        refine sl_run rfl (.bool false) w5 (by kernel_rfl) ?_
        simp only [Act.put, fl1, fl2, fl3]
        refine sg_run (by kernel_rfl) (.int .i64 (f : Int)) w5 (by kernel_rfl) ?_
        simp only [Act.put, fl1, fl2, fl3]
        refine sg_run (by kernel_rfl) (.bool false) w5 (exec_gtr _ _ _ rfl ((f : Int)) (0) (by kernel_rfl) (by kernel_rfl) false (decide_eq_false (by omega))) ?_
        simp only [Act.put, fl1, fl2, fl3]
        refine sg_run (by kernel_rfl) (.bool false) w5 (by kernel_rfl) ?_
        simp only [Act.put, fl1, fl2, fl3]
        rw [wpList, if_neg (by rw [show Region.wanted _ _ = false by kernel_rfl]; decide)]
        simp only [Act.put, fl1, fl2, fl3]
        rw [wpList, if_neg (by rw [show Region.wanted _ _ = false by kernel_rfl]; decide)]
        simp only [Act.put, fl1, fl2, fl3]
        rw [wpList, if_neg (by rw [show Region.wanted _ _ = false by kernel_rfl]; decide)]
        simp only [Act.put, fl1, fl2, fl3]
        rw [wpList, if_neg (by rw [show Region.wanted _ _ = false by kernel_rfl]; decide)]
        simp only [Act.put, fl1, fl2, fl3]
        rw [wpList, if_neg (by rw [show Region.wanted _ _ = false by kernel_rfl]; decide)]
        simp only [Act.put, fl1, fl2, fl3]
        rw [wpList, if_neg (by rw [show Region.wanted _ _ = false by kernel_rfl]; decide)]
        simp only [Act.put, fl1, fl2, fl3]
        rw [wpList, if_neg (by rw [show Region.wanted _ _ = false by kernel_rfl]; decide)]
        simp only [Act.put, fl1, fl2, fl3]
        refine sg_run (by kernel_rfl) (.bool false) w5 (by kernel_rfl) ?_
        simp only [Act.put, fl1, fl2, fl3]
        refine sl_run rfl (.bool false) w5 (by kernel_rfl) ?_
        simp only [Act.put, fl1, fl2, fl3]
        refine wpList_nil ?_
        go_upto_region 13 with fail
        refine wp_region_lit ?_
        refine sl_run rfl (.int .i64 (f : Int)) w5 (by kernel_rfl) ?_
        simp only [Act.put, fl1, fl2, fl3]
        refine sl_run rfl (.bool true) w5 (exec_eqI _ _ _ rfl (f : Int) 0 (by kernel_rfl) (by kernel_rfl) true (by simp; omega)) ?_
        simp only [Act.put, fl1, fl2, fl3]
        refine wpList_nil ?_
        go_upto_region 14 with fail
        refine wp_region_lit ?_
        refine sl_run rfl (.int .u64 (nm : Int)) w5 (by kernel_rfl) ?_
        simp only [Act.put, fl1, fl2, fl3]
        refine sl_run rfl (.int .i64 (nm : Int)) w5 (exec_convU _ rfl nm (by omega) (by kernel_rfl)) ?_
        simp only [Act.put, fl1, fl2, fl3]
        refine sl_run rfl (.int .i64 (nm : Int)) w5 (by kernel_rfl) ?_
        simp only [Act.put, fl1, fl2, fl3]
        refine wpList_nil ?_
        go_upto_region 15 with fail
        refine wp_region_lit ?_
        refine sl_run rfl (v) w5 (by kernel_rfl) ?_
        simp only [Act.put, fl1, fl2, fl3]
        refine sl_run rfl (.slice (some ⟨g, o + (e + 4), none⟩) sz (c - (e + 4))) w5 (by kernel_rfl) ?_
        simp only [Act.put, fl1, fl2, fl3]
        refine sl_run rfl (.slice A8 (sz - 8) (c - (e + 4) - 8)) w5 ((exec_fromS un22 sz22 _ _ rfl (some ⟨g, o + (e + 4), none⟩) sz (c - (e + 4)) 8 (by kernel_rfl) (by kernel_rfl) (by omega) _).trans (by rw [← hA8H.out])) ?_
        simp only [Act.put, fl1, fl2, fl3]
        refine sg_call (by kernel_rfl) 31 #[.slice A8 (sz - 8) (c - (e + 4) - 8)] (by kernel_rfl) (R := fun u w' => TB w' u pl ∧ Below w5.heap.size w5 w') ((clone_calls pl A8 (sz - 8) (c - (e + 4) - 8) w5 hpll.symm (by omega) (hp8w.out.below hBw5.out)).mono fun e w' h => by
          obtain ⟨u, h1, h2, h3⟩ := h
          rw [flat_vals] at h2
          exact ⟨u, h1, TB.own h2, h3⟩) ?_
        rintro k9 w6 ⟨hk0, hb⟩
        simp only [Act.put, fl1, fl2, fl3]
        have hBw6 : Hid (Below w.heap.size w w6) := (hBw5.out).trans ((hb).mono (hBw5.out).size)
        have hplw6 : Hid (PLo w6 w.heap.size v ps) := (hplw5.out).below hb
        have hDw6 : Hid (w6.heap[D]? = some (.cells (bytesC S) 56 (0, 0))) := heap_kept (hDw5.out) hb
        clear hBw5 hplw5 hDw5
        have hkw6 : Hid (TB w6 k9 pl) := hk0
        clear hk0 hb
        refine sg_call (by kernel_rfl) 26 #[k9] (by kernel_rfl) (R := fun u w' => TB w' u pl ∧ Below w6.heap.size w6 w') ((clipT_calls pl k9 w6 (by omega) hkw6.out).mono fun e w' h => by
          obtain ⟨u, h1, h2, h3⟩ := h
          exact ⟨u, h1, h2, h3⟩) ?_
        rintro k8 w7 ⟨hk0, hb⟩
        simp only [Act.put, fl1, fl2, fl3]
        clear hkw6
        have hBw7 : Hid (Below w.heap.size w w7) := (hBw6.out).trans ((hb).mono (hBw6.out).size)
        have hplw7 : Hid (PLo w7 w.heap.size v ps) := (hplw6.out).below hb
        have hDw7 : Hid (w7.heap[D]? = some (.cells (bytesC S) 56 (0, 0))) := heap_kept (hDw6.out) hb
        clear hBw6 hplw6 hDw6
        obtain ⟨A9, c9, rfl⟩ := hk0.1.form
        obtain ⟨n9, hn9e⟩ : ∃ k, k = pl.length := ⟨_, rfl⟩
        rw [← hn9e] at hk0 ⊢
        clear hn9e
        have hkw7 : Hid (TB w7 (.slice A9 n9 c9) pl) := hk0
        clear hk0 hb
        refine sl_run rfl (.slice (some ⟨w7.heap.size, 0, none⟩) 1 1) (w7.alloc (.cells #[.slice A9 n9 c9] 22)) (by kernel_rfl) ?_
        simp only [Act.put, fl1, fl2, fl3]
        generalize hX : w7.alloc (.cells #[.slice A9 n9 c9] 22) = w8
        have hb : Below w7.heap.size w7 w8 := by rw [← hX]; exact (Below.refl _ _).alloc (Nat.le_refl _) _
        obtain ⟨E, hEe⟩ : ∃ E, E = w7.heap.size := ⟨_, rfl⟩
        have he9 : w8.heap[E]? = some (.cells #[.slice A9 n9 c9] 22 (0, 0)) := by rw [← hX, hEe]; exact heap_alloc_new _ _
        rw [← hEe]
        clear hX hEe
        have hBw8 : Hid (Below w.heap.size w w8) := (hBw7.out).trans ((hb).mono (hBw7.out).size)
        have hplw8 : Hid (PLo w8 w.heap.size v ps) := (hplw7.out).below hb
        have hDw8 : Hid (w8.heap[D]? = some (.cells (bytesC S) 56 (0, 0))) := heap_kept (hDw7.out) hb
        have hkw8 : Hid (TB w8 (.slice A9 n9 c9) pl) := (hkw7.out).below hb
        clear hBw7 hplw7 hDw7 hkw7
        have hEE : Hid (w8.heap[E]? = some (.cells #[.slice A9 n9 c9] 22 (0, 0))) := he9
        clear he9 hb
        obtain ⟨vz, w9, hea, hPz, hgz, _⟩ := exec_appP1 (w := w8) (.tmp 97) (.tmp 102) w.heap.size v ps pl hplw8.out E (.slice A9 n9 c9) A9 n9 c9 rfl hEE.out hkw8.out (by omega) hBw8.out.size
        have hBw9 : Hid (Below w.heap.size w w9) := hBw8.out.grown hgz hBw8.out.size (fun q hq => (hplw8.out.lt q hq).1)
        have hDw9 : Hid (w9.heap[D]? = some (.cells (bytesC S) 56 (0, 0))) := (hgz.block D (Array.getElem?_eq_some_iff.1 hDw8.out).1 (hplw8.out.kind hDw8.out (by decide))).trans hDw8.out
        have hpz : Hid (PLo w9 w.heap.size vz (ps ++ [pl])) := hPz
        refine sl_run rfl vz w9 (hea rfl (by kernel_rfl) (by kernel_rfl)) ?_
        clear hea hgz hPz hEE hkw8 hBw8 hDw8 hplw8
        simp only [Act.put, fl1, fl2, fl3]
        refine sl_run rfl (vz) w9 (by kernel_rfl) ?_
        simp only [Act.put, fl1, fl2, fl3]
        refine wpList_nil ?_
        go_upto_region 16 with fail
        refine wp_region_lit ?_
        refine sl_run rfl (.int .i64 (e : Int)) w9 (by kernel_rfl) ?_
        simp only [Act.put, fl1, fl2, fl3]
        refine sl_run rfl (.int .i64 (sz : Int)) w9 (by kernel_rfl) ?_
        simp only [Act.put, fl1, fl2, fl3]
        refine sl_run rfl (.int .i64 ((sz : Int) + 17)) w9 (exec_add2 _ _ rfl ((sz : Int)) (17) (by kernel_rfl) (by kernel_rfl) (by omega) (by omega) _) ?_
        simp only [Act.put, fl1, fl2, fl3]
        refine sl_run rfl (.int .i64 ((sz : Int) + 17 - 8)) w9 (exec_sub2 _ _ rfl ((sz : Int) + 17) 8 (by kernel_rfl) (by kernel_rfl) (by omega) (by omega)) ?_
        simp only [Act.put, fl1, fl2, fl3]
        refine sl_run rfl (.int .i64 ((e + (sz + 9) : Nat) : Int)) w9 ((exec_add2 _ _ rfl (e : Int) ((sz : Int) + 17 - 8) (by kernel_rfl) (by kernel_rfl) (by omega) (by omega) _).trans (by rw [show (e : Int) + ((sz : Int) + 17 - 8) = ((e + (sz + 9) : Nat) : Int) by omega])) ?_
        simp only [Act.put, fl1, fl2, fl3]
        refine sl_run rfl (.int .i64 ((e + (sz + 9) : Nat) : Int)) w9 (by kernel_rfl) ?_
        simp only [Act.put, fl1, fl2, fl3]
        refine wpList_nil ?_
        have hR2 : Hid (scanS l nm (ps ++ [pl]) (e + (sz + 9)) = R) := by
          show _ = _
          rw [hRs.out, if_neg (by omega), if_pos hf0]
        have hln : l.length = n := hn'.out.symm
        clear hRs hzH hLH hLb hE hyw hbH hRH hn' hybw hbb hnmH hA8H hp8w hpb
        go_wp2
        try go_step3
        refine hA.out _ _ (JA.of D nm (ps ++ [pl]) (e + (sz + 9)) vz (by kernel_rfl) ⟨by omega, hR2.out, by omega, by simp; omega, fun h => by omega, hpz.out, hBw9.out, hDw, S, hSl, hDw9.out⟩) ?_
        show n - (intOf' (.int .i64 ((e + (sz + 9) : Nat) : Int))).toNat < n - e
        simp only [intOf', Int.toNat_natCast]
        omega
      case neg =>
        obtain ⟨Av, cv, hv⟩ := hplw5.out.form
        subst hv
        by_cases hn1 : nm = f + ps.length
        case neg =>
          go_upto_region 12 with fail
          refine wp_region_lit ?_
          refine sl_run rfl (.int .i64 (f : Int)) w5 (by kernel_rfl) ?_
          simp only [Act.put, fl1, fl2, fl3]
          refine sl_run rfl (.bool false) w5 (exec_eqI _ _ _ rfl (f : Int) 0 (by kernel_rfl) (by kernel_rfl) false (by simp; omega)) ?_
          simp only [Act.put, fl1, fl2, fl3]
          refine sl_run rfl (.bool false) w5 (by kernel_rfl) ?_
          simp only [Act.put, fl1, fl2, fl3]
          rw [wpList, if_neg (by rw [show Region.wanted _ _ = false by kernel_rfl]; decide)]
          simp only [Act.put, fl1, fl2, fl3]
          rw [wpList, if_neg (by rw [show Region.wanted _ _ = false by kernel_rfl]; decide)]
          simp only [Act.put, fl1, fl2, fl3]
          rw [wpList, if_neg (by rw [show Region.wanted _ _ = false by kernel_rfl]; decide)]
          simp only [Act.put, fl1, fl2, fl3]
          rw [wpList, if_neg (by rw [show Region.wanted _ _ = false by kernel_rfl]; decide)]
          simp only [Act.put, fl1, fl2, fl3]
          rw [wpList, if_neg (by rw [show Region.wanted _ _ = false by kernel_rfl]; decide)]
          simp only [Act.put, fl1, fl2, fl3]
          rw [wpList, if_neg (by rw [show Region.wanted _ _ = false by kernel_rfl]; decide)]
          simp only [Act.put, fl1, fl2, fl3]
          refine sl_run rfl (.bool false) w5 (by kernel_rfl) ?_
          simp only [Act.put, fl1, fl2, fl3]
          refine sl_run rfl (.bool false) w5 (by kernel_rfl) ?_
          simp only [Act.put, fl1, fl2, fl3]
          refine sg_run (by kernel_rfl) (.int .i64 (f : Int)) w5 (by kernel_rfl) ?_
          simp only [Act.put, fl1, fl2, fl3]
          refine sg_run (by kernel_rfl) (.bool true) w5 (exec_gtr _ _ _ rfl ((f : Int)) (0) (by kernel_rfl) (by kernel_rfl) true (decide_eq_true (by omega))) ?_
          simp only [Act.put, fl1, fl2, fl3]
          refine sg_run (by kernel_rfl) (.bool true) w5 (by kernel_rfl) ?_
          simp only [Act.put, fl1, fl2, fl3]
          refine sg_run (by kernel_rfl) (.int .u64 (nm : Int)) w5 (by kernel_rfl) ?_
          simp only [Act.put, fl1, fl2, fl3]
          refine sg_run (by kernel_rfl) (.int .i64 (f : Int)) w5 (by kernel_rfl) ?_
          simp only [Act.put, fl1, fl2, fl3]
          refine sg_run (by kernel_rfl) (.slice Av ps.length cv) w5 (by kernel_rfl) ?_
          simp only [Act.put, fl1, fl2, fl3]
          refine sg_run (by kernel_rfl) (.int .i64 (ps.length : Int)) w5 (by kernel_rfl) ?_
          simp only [Act.put, fl1, fl2, fl3]
          refine sg_run (by kernel_rfl) (.int .i64 ((f : Int) + (ps.length : Int))) w5 (exec_add2 _ _ rfl ((f : Int)) ((ps.length : Int)) (by kernel_rfl) (by kernel_rfl) (by omega) (by omega) _) ?_
          simp only [Act.put, fl1, fl2, fl3]
          refine sg_run (by kernel_rfl) (.int .u64 ((f : Int) + (ps.length : Int))) w5 (exec_convI _ _ _ rfl _ _ _ (by kernel_rfl) (conv_u64 ((f : Int) + (ps.length : Int)) (by omega) (by omega) _)) ?_
          simp only [Act.put, fl1, fl2, fl3]
          refine sg_run (by kernel_rfl) (.bool true) w5 (exec_neU _ _ _ rfl (nm : Int) ((f : Int) + (ps.length : Int)) (by kernel_rfl) (by kernel_rfl) true (by simp; omega)) ?_
          simp only [Act.put, fl1, fl2, fl3]
          refine sg_run (by kernel_rfl) (.bool true) w5 (by kernel_rfl) ?_
          simp only [Act.put, fl1, fl2, fl3]
          refine sl_run rfl (.bool true) w5 (by kernel_rfl) ?_
          simp only [Act.put, fl1, fl2, fl3]
          refine wpList_nil ?_
          have hRe : Hid (R = (f, ps, e)) := by
            show _ = _
            rw [hRs.out, if_pos (.inr ⟨by omega, hn1⟩)]
          clear hRs hzH hLH hLb hA hyw hbH hRH hn' hybw hbb hnmH hA8H hp8w hpb
          clear hDw5
          go_wp2
          try go_step3
          exact hE.out _ _ (JE.of f ps e (.slice Av ps.length cv) (by kernel_rfl) ⟨hRe.out, hplw5.out, hBw5.out⟩)
        case pos =>
        go_upto_region 12 with fail
        refine wp_region_lit ?_
        refine sl_run rfl (.int .i64 (f : Int)) w5 (by kernel_rfl) ?_
        simp only [Act.put, fl1, fl2, fl3]
        refine sl_run rfl (.bool false) w5 (exec_eqI _ _ _ rfl (f : Int) 0 (by kernel_rfl) (by kernel_rfl) false (by simp; omega)) ?_
        simp only [Act.put, fl1, fl2, fl3]
        refine sl_run rfl (.bool false) w5 (by kernel_rfl) ?_
        simp only [Act.put, fl1, fl2, fl3]
        rw [wpList, if_neg (by rw [show Region.wanted _ _ = false by kernel_rfl]; decide)]
        simp only [Act.put, fl1, fl2, fl3]
        rw [wpList, if_neg (by rw [show Region.wanted _ _ = false by kernel_rfl]; decide)]
        simp only [Act.put, fl1, fl2, fl3]
        rw [wpList, if_neg (by rw [show Region.wanted _ _ = false by kernel_rfl]; decide)]
        simp only [Act.put, fl1, fl2, fl3]
        rw [wpList, if_neg (by rw [show Region.wanted _ _ = false by kernel_rfl]; decide)]
        simp only [Act.put, fl1, fl2, fl3]
        rw [wpList, if_neg (by rw [show Region.wanted _ _ = false by kernel_rfl]; decide)]
        simp only [Act.put, fl1, fl2, fl3]
        rw [wpList, if_neg (by rw [show Region.wanted _ _ = false by kernel_rfl]; decide)]
        simp only [Act.put, fl1, fl2, fl3]
        refine sl_run rfl (.bool false) w5 (by kernel_rfl) ?_
        simp only [Act.put, fl1, fl2, fl3]
        refine sl_run rfl (.bool false) w5 (by kernel_rfl) ?_
        simp only [Act.put, fl1, fl2, fl3]
        refine sg_run (by kernel_rfl) (.int .i64 (f : Int)) w5 (by kernel_rfl) ?_
        simp only [Act.put, fl1, fl2, fl3]
        refine sg_run (by kernel_rfl) (.bool true) w5 (exec_gtr _ _ _ rfl ((f : Int)) (0) (by kernel_rfl) (by kernel_rfl) true (decide_eq_true (by omega))) ?_
        simp only [Act.put, fl1, fl2, fl3]
        refine sg_run (by kernel_rfl) (.bool true) w5 (by kernel_rfl) ?_
        simp only [Act.put, fl1, fl2, fl3]
        refine sg_run (by kernel_rfl) (.int .u64 (nm : Int)) w5 (by kernel_rfl) ?_
        simp only [Act.put, fl1, fl2, fl3]
        refine sg_run (by kernel_rfl) (.int .i64 (f : Int)) w5 (by kernel_rfl) ?_
        simp only [Act.put, fl1, fl2, fl3]
        refine sg_run (by kernel_rfl) (.slice Av ps.length cv) w5 (by kernel_rfl) ?_
        simp only [Act.put, fl1, fl2, fl3]
        refine sg_run (by kernel_rfl) (.int .i64 (ps.length : Int)) w5 (by kernel_rfl) ?_
        simp only [Act.put, fl1, fl2, fl3]
        refine sg_run (by kernel_rfl) (.int .i64 ((f : Int) + (ps.length : Int))) w5 (exec_add2 _ _ rfl ((f : Int)) ((ps.length : Int)) (by kernel_rfl) (by kernel_rfl) (by omega) (by omega) _) ?_
        simp only [Act.put, fl1, fl2, fl3]
        refine sg_run (by kernel_rfl) (.int .u64 ((f : Int) + (ps.length : Int))) w5 (exec_convI _ _ _ rfl _ _ _ (by kernel_rfl) (conv_u64 ((f : Int) + (ps.length : Int)) (by omega) (by omega) _)) ?_
        simp only [Act.put, fl1, fl2, fl3]
        refine sg_run (by kernel_rfl) (.bool false) w5 (exec_neU _ _ _ rfl (nm : Int) ((f : Int) + (ps.length : Int)) (by kernel_rfl) (by kernel_rfl) false (by simp; omega)) ?_
        simp only [Act.put, fl1, fl2, fl3]
        refine sg_run (by kernel_rfl) (.bool false) w5 (by kernel_rfl) ?_
        simp only [Act.put, fl1, fl2, fl3]
        refine sl_run rfl (.bool false) w5 (by kernel_rfl) ?_
        simp only [Act.put, fl1, fl2, fl3]
        refine wpList_nil ?_
        go_upto_region 13 with fail
        refine wp_region_lit ?_
        refine sl_run rfl (.int .i64 (f : Int)) w5 (by kernel_rfl) ?_
        simp only [Act.put, fl1, fl2, fl3]
        refine sl_run rfl (.bool false) w5 (exec_eqI _ _ _ rfl (f : Int) 0 (by kernel_rfl) (by kernel_rfl) false (by simp; omega)) ?_
        simp only [Act.put, fl1, fl2, fl3]
        refine wpList_nil ?_
        go_upto_region 15 with fail
        refine wp_region_lit ?_
        refine sl_run rfl (.slice Av ps.length cv) w5 (by kernel_rfl) ?_
        simp only [Act.put, fl1, fl2, fl3]
        refine sl_run rfl (.slice (some ⟨g, o + (e + 4), none⟩) sz (c - (e + 4))) w5 (by kernel_rfl) ?_
        simp only [Act.put, fl1, fl2, fl3]
        refine sl_run rfl (.slice A8 (sz - 8) (c - (e + 4) - 8)) w5 ((exec_fromS un22 sz22 _ _ rfl (some ⟨g, o + (e + 4), none⟩) sz (c - (e + 4)) 8 (by kernel_rfl) (by kernel_rfl) (by omega) _).trans (by rw [← hA8H.out])) ?_
        simp only [Act.put, fl1, fl2, fl3]
        refine sg_call (by kernel_rfl) 31 #[.slice A8 (sz - 8) (c - (e + 4) - 8)] (by kernel_rfl) (R := fun u w' => TB w' u pl ∧ Below w5.heap.size w5 w') ((clone_calls pl A8 (sz - 8) (c - (e + 4) - 8) w5 hpll.symm (by omega) (hp8w.out.below hBw5.out)).mono fun e w' h => by
          obtain ⟨u, h1, h2, h3⟩ := h
          rw [flat_vals] at h2
          exact ⟨u, h1, TB.own h2, h3⟩) ?_
        rintro k9 w10 ⟨hk0, hb⟩
        simp only [Act.put, fl1, fl2, fl3]
        have hBw10 : Hid (Below w.heap.size w w10) := (hBw5.out).trans ((hb).mono (hBw5.out).size)
        have hplw10 : Hid (PLo w10 w.heap.size (.slice Av ps.length cv) ps) := (hplw5.out).below hb
        have hDw10 : Hid (w10.heap[D]? = some (.cells (bytesC S) 56 (0, 0))) := heap_kept (hDw5.out) hb
        clear hBw5 hplw5 hDw5
        have hkw10 : Hid (TB w10 k9 pl) := hk0
        clear hk0 hb
        refine sg_call (by kernel_rfl) 26 #[k9] (by kernel_rfl) (R := fun u w' => TB w' u pl ∧ Below w10.heap.size w10 w') ((clipT_calls pl k9 w10 (by omega) hkw10.out).mono fun e w' h => by
          obtain ⟨u, h1, h2, h3⟩ := h
          exact ⟨u, h1, h2, h3⟩) ?_
        rintro k8 w11 ⟨hk0, hb⟩
        simp only [Act.put, fl1, fl2, fl3]
        clear hkw10
        have hBw11 : Hid (Below w.heap.size w w11) := (hBw10.out).trans ((hb).mono (hBw10.out).size)
        have hplw11 : Hid (PLo w11 w.heap.size (.slice Av ps.length cv) ps) := (hplw10.out).below hb
        have hDw11 : Hid (w11.heap[D]? = some (.cells (bytesC S) 56 (0, 0))) := heap_kept (hDw10.out) hb
        clear hBw10 hplw10 hDw10
        obtain ⟨A9, c9, rfl⟩ := hk0.1.form
        obtain ⟨n9, hn9e⟩ : ∃ k, k = pl.length := ⟨_, rfl⟩
        rw [← hn9e] at hk0 ⊢
        clear hn9e
        have hkw11 : Hid (TB w11 (.slice A9 n9 c9) pl) := hk0
        clear hk0 hb
        refine sl_run rfl (.slice (some ⟨w11.heap.size, 0, none⟩) 1 1) (w11.alloc (.cells #[.slice A9 n9 c9] 22)) (by kernel_rfl) ?_
        simp only [Act.put, fl1, fl2, fl3]
        generalize hX : w11.alloc (.cells #[.slice A9 n9 c9] 22) = w12
        have hb : Below w11.heap.size w11 w12 := by rw [← hX]; exact (Below.refl _ _).alloc (Nat.le_refl _) _
        obtain ⟨E, hEe⟩ : ∃ E, E = w11.heap.size := ⟨_, rfl⟩
        have he9 : w12.heap[E]? = some (.cells #[.slice A9 n9 c9] 22 (0, 0)) := by rw [← hX, hEe]; exact heap_alloc_new _ _
        rw [← hEe]
        clear hX hEe
        have hBw12 : Hid (Below w.heap.size w w12) := (hBw11.out).trans ((hb).mono (hBw11.out).size)
        have hplw12 : Hid (PLo w12 w.heap.size (.slice Av ps.length cv) ps) := (hplw11.out).below hb
        have hDw12 : Hid (w12.heap[D]? = some (.cells (bytesC S) 56 (0, 0))) := heap_kept (hDw11.out) hb
        have hkw12 : Hid (TB w12 (.slice A9 n9 c9) pl) := (hkw11.out).below hb
        clear hBw11 hplw11 hDw11 hkw11
        have hEE : Hid (w12.heap[E]? = some (.cells #[.slice A9 n9 c9] 22 (0, 0))) := he9
        clear he9 hb
        obtain ⟨vz, w13, hea, hPz, hgz, _⟩ := exec_appP1 (w := w12) (.tmp 97) (.tmp 102) w.heap.size (.slice Av ps.length cv) ps pl hplw12.out E (.slice A9 n9 c9) A9 n9 c9 rfl hEE.out hkw12.out (by omega) hBw12.out.size
        have hBw13 : Hid (Below w.heap.size w w13) := hBw12.out.grown hgz hBw12.out.size (fun q hq => (hplw12.out.lt q hq).1)
        have hDw13 : Hid (w13.heap[D]? = some (.cells (bytesC S) 56 (0, 0))) := (hgz.block D (Array.getElem?_eq_some_iff.1 hDw12.out).1 (hplw12.out.kind hDw12.out (by decide))).trans hDw12.out
        have hpz : Hid (PLo w13 w.heap.size vz (ps ++ [pl])) := hPz
        refine sl_run rfl vz w13 (hea rfl (by kernel_rfl) (by kernel_rfl)) ?_
        clear hea hgz hPz hEE hkw12 hBw12 hDw12 hplw12
        simp only [Act.put, fl1, fl2, fl3]
        refine sl_run rfl (vz) w13 (by kernel_rfl) ?_
        simp only [Act.put, fl1, fl2, fl3]
        refine wpList_nil ?_
        go_upto_region 16 with fail
        refine wp_region_lit ?_
        refine sl_run rfl (.int .i64 (e : Int)) w13 (by kernel_rfl) ?_
        simp only [Act.put, fl1, fl2, fl3]
        refine sl_run rfl (.int .i64 (sz : Int)) w13 (by kernel_rfl) ?_
        simp only [Act.put, fl1, fl2, fl3]
        refine sl_run rfl (.int .i64 ((sz : Int) + 17)) w13 (exec_add2 _ _ rfl ((sz : Int)) (17) (by kernel_rfl) (by kernel_rfl) (by omega) (by omega) _) ?_
        simp only [Act.put, fl1, fl2, fl3]
        refine sl_run rfl (.int .i64 ((sz : Int) + 17 - 8)) w13 (exec_sub2 _ _ rfl ((sz : Int) + 17) 8 (by kernel_rfl) (by kernel_rfl) (by omega) (by omega)) ?_
        simp only [Act.put, fl1, fl2, fl3]
        refine sl_run rfl (.int .i64 ((e + (sz + 9) : Nat) : Int)) w13 ((exec_add2 _ _ rfl (e : Int) ((sz : Int) + 17 - 8) (by kernel_rfl) (by kernel_rfl) (by omega) (by omega) _).trans (by rw [show (e : Int) + ((sz : Int) + 17 - 8) = ((e + (sz + 9) : Nat) : Int) by omega])) ?_
        simp only [Act.put, fl1, fl2, fl3]
        refine sl_run rfl (.int .i64 ((e + (sz + 9) : Nat) : Int)) w13 (by kernel_rfl) ?_
        simp only [Act.put, fl1, fl2, fl3]
        refine wpList_nil ?_
        have hR2 : Hid (scanS l f (ps ++ [pl]) (e + (sz + 9)) = R) := by
          show _ = _
          rw [hRs.out, if_neg (by omega), if_neg hf0]
        have hln : l.length = n := hn'.out.symm
        clear hRs hzH hLH hLb hE hyw hbH hRH hn' hybw hbb hnmH hA8H hp8w hpb
        go_wp2
        try go_step3
        refine hA.out _ _ (JA.of D f (ps ++ [pl]) (e + (sz + 9)) vz (by kernel_rfl) ⟨by omega, hR2.out, by omega, by simp; omega, fun h => by omega, hpz.out, hBw13.out, hDw, S, hSl, hDw13.out⟩) ?_
        show n - (intOf' (.int .i64 ((e + (sz + 9) : Nat) : Int))).toNat < n - e
        simp only [intOf', Int.toNat_natCast]
        omega
end Go.Proofs.Ytdkaaieenbmihaa
namespace Go.Proofs.Ytdkaaieenbmihaa
open Go.RowKit
open Sha (vals Bytes Lies bytesC sumB)
open Go.Proofs.Ytdkaaieenbmihaa.Pure (nameB)
structure SR (w : World) (l : List Nat) (R : Nat × List (List Nat) × Nat) (f : Nat) (ps : List (List Nat)) (e : Nat) (v : Value) (w' : World) : Prop where
  le : e ≤ l.length
  res : scanS l f ps e = R
  f40 : f ≤ 1099511627776
  len : ps.length * 17 ≤ e
  z : (ps = [] ∧ f = 0 ∧ e = 0) ∨ (ps ≠ [] ∧ 0 < f)
  pl : PLo w' w.heap.size v ps
  bel : Below w.heap.size w w'
theorem oneT_none {l : List Nat} (h : oneS l = none) : oneT l = (0, [], 0) := by unfold oneT; rw [h]
theorem oneT_some {l : List Nat} {x : Nat × List Nat × Nat} (h : oneS l = some x) : oneT l = x := by unfold oneT; rw [h]
theorem oneS_lt {l : List Nat} (hb : ∀ x ∈ l, x < 256) {n : Nat} {p : List Nat} {k : Nat} (h : oneS l = some (n, p, k)) : n < 18446744073709551616 := by
  unfold oneS at h
  split at h
  · cases h
  · split at h
    · cases h
    · split at h
      · cases h
      · simp only [Option.some.injEq, Prod.mk.injEq] at h
        obtain ⟨rfl, _, _⟩ := h
        have h1 := beN_lt ((l.drop 4).take 8) fun x hx => hb x (List.mem_of_mem_drop (List.mem_of_mem_take hx))
        have h2 : 256 ^ ((l.drop 4).take 8).length ≤ 256 ^ 8 := Nat.pow_le_pow_right (by decide) (by rw [List.length_take]; omega)
        have h3 : (256 : Nat) ^ 8 = 18446744073709551616 := by decide
        omega
set_option maxRecDepth 100000 in
set_option maxHeartbeats 16000000 in
theorem rScan_calls (l : List Nat) (hb : ∀ x ∈ l, x < 256) (A : Option Addr) (n c : Nat) (hn : n = l.length) (hn9 : n ≤ 1000000000) (w : World) (hy : Rw 1 encB w (.slice A n c) l) :
    Calls Try.prog 13 #[.slice A n c] w fun e w' => ∃ v, e = .returned (.tuple #[.int .i64 ((scan0 l).1 : Int), v, .int .i64 ((scan0 l).2.2 : Int)]) ∧ PLo w' w.heap.size v (scan0 l).2.1 ∧ Below w.heap.size w w' := by
  obtain ⟨R, hR⟩ : ∃ R, R = scan0 l := ⟨_, rfl⟩
  rw [← hR]
  have hS0 : SR w l R 0 [] 0 (.slice none 0 0) w := ⟨Nat.zero_le _, by rw [hR]; rfl, by decide, by simp, .inl ⟨rfl, rfl, rfl⟩, PLo.nil _ _, Below.refl _ _⟩
  have hS0H : Hid (SR w l R 0 [] 0 (.slice none 0 0) w) := hS0
  have hn' : Hid (n = l.length) := hn
  have hbH : Hid (∀ x ∈ l, x < 256) := hb
  have hyw : Hid (Rw 1 encB w (.slice A n c) l) := hy
  have hnc : n ≤ c := by
    rcases hy with ⟨A', c', h, h2, _⟩ | ⟨g, o', c', h, h2, h3, h4⟩
    · subst h2
      injection h with h5 h6 h7
      simp at hn; omega
    · injection h with h5 h6 h7
      omega
  clear hy hn hb hR hS0
  go_enter Try.func13, Try.ntmps13
  go_wp2_with fail
  go_loopw [5, 6, 7] (fun p5 p6 p7 wr => ∃ (f : Nat) (ps : List (List Nat)) (e : Nat), p5 = .int .i64 (f : Int) ∧ p6 = .int .i64 (e : Int) ∧ Hid (SR w l R f ps e p7 wr)) (fun _ p6 _ _ => n - (intOf p6).toNat)
  case atStart => exact ⟨0, [], 0, rfl, rfl, hS0H⟩
  case round =>
    clear hS0H
    obtain ⟨f, ps, e, rfl, rfl, hJ⟩ := hrel
    obtain ⟨w1, rfl⟩ : ∃ v : World, v = wr := ⟨_, rfl⟩
    obtain ⟨hle, hres, hf40, hlen, hz, hpl, hbel⟩ := hJ.out
    obtain ⟨Av, cv, rfl⟩ := hpl.form
    obtain ⟨np, hnp⟩ : ∃ k, k = ps.length := ⟨_, rfl⟩
    rw [← hnp] at hpl hlen ⊢
    have hnpH : Hid (np = ps.length) := hnp
    have hen : e ≤ n := by rw [hn'.out]; exact hle
    have hplw1 : Hid (PLo w1 w.heap.size (.slice Av np cv) ps) := hpl
    have hBw1 : Hid (Below w.heap.size w w1) := hbel
    have hresH : Hid (scanS l f ps e = R) := hres
    have hzH : Hid ((ps = [] ∧ f = 0 ∧ e = 0) ∨ (ps ≠ [] ∧ 0 < f)) := hz
    obtain ⟨L, hL⟩ : ∃ L, L = l.drop e := ⟨_, rfl⟩
    have hLl : L.length = n - e := by rw [hL, List.length_drop, hn'.out]
    have hLH : Hid (L = l.drop e) := hL
    have hLb : Hid (∀ x ∈ L, x < 256) := fun x hx => hbH.out x (by rw [hL] at hx; exact List.mem_of_mem_drop hx)
    obtain ⟨A2, hA2⟩ : ∃ A2, A2 = (if c = e then A else A.map (·.add (e * 1))) := ⟨_, rfl⟩
    have hA2H : Hid (A2 = (if c = e then A else A.map (·.add (e * 1)))) := hA2
    have hyLw : Hid (Rw 1 encB w (.slice A2 (n - e) (c - e)) L) := by
      have h8 := rw_drop hn'.out hyw.out e hen
      rw [← hL, ← hA2] at h8
      exact h8
    have hT : ∃ T, T = oneT L := ⟨_, rfl⟩
    obtain ⟨nm, pl, k, hT⟩ : ∃ nm pl k, oneT L = (nm, pl, k) := ⟨_, _, _, rfl⟩
    have hTH : Hid (oneT L = (nm, pl, k)) := hT
    clear hJ hpl hbel hle hres hz hL hA2 hT hnp
    go_upto_region 3 with fail
    refine wp_region_lit ?_
    refine sl_run rfl (.slice A n c) w1 (by kernel_rfl) ?_
    simp only [Act.put, fl1, fl2, fl3]
    refine sl_run rfl (.int .i64 (e : Int)) w1 (by kernel_rfl) ?_
    simp only [Act.put, fl1, fl2, fl3]
    refine sl_run rfl (.slice A2 (n - e) (c - e)) w1 ((exec_fromS un22 sz22 _ _ rfl A n c e (by kernel_rfl) (by kernel_rfl) hen _).trans (by rw [← hA2H.out])) ?_
    simp only [Act.put, fl1, fl2, fl3]
    refine sg_call (by kernel_rfl) 32 #[.slice A2 (n - e) (c - e)] (by kernel_rfl) (R := fun u w' => ∃ v, u = .tuple #[.int .u64 (nm : Int), v, .int .i64 (k : Int)] ∧ TB w' v pl ∧ Below w1.heap.size w1 w') ?hcd1 ?_
    case hcd1 =>
      have h8 := rone_calls L hLb.out A2 (n - e) (c - e) hLl.symm (by omega) w1 (hyLw.out.below hBw1.out)
      rw [hTH.out] at h8
      exact h8.mono fun e w' h => by
        obtain ⟨v, h1, h2, h3⟩ := h
        exact ⟨_, h1, v, rfl, h2, h3⟩
    rintro _ w2 ⟨k0, rfl, hk0, hb⟩
    simp only [Act.put, fl1, fl2, fl3]
    have hBw2 : Hid (Below w.heap.size w w2) := (hBw1.out).trans ((hb).mono (hBw1.out).size)
    have hplw2 : Hid (PLo w2 w.heap.size (.slice Av np cv) ps) := (hplw1.out).below hb
    clear hBw1 hplw1
    obtain ⟨A9, c9, rfl⟩ := hk0.1.form
    obtain ⟨n9, hn9e⟩ : ∃ k, k = pl.length := ⟨_, rfl⟩
    rw [← hn9e] at hk0 ⊢
    have hn9H : Hid (n9 = pl.length) := hn9e
    clear hn9e
    have hkw2 : Hid (TB w2 (.slice A9 n9 c9) pl) := hk0
    clear hk0 hb
    refine sl_run rfl (.tuple #[.int .u64 (nm : Int), .slice A9 n9 c9, .int .i64 (k : Int)]) w2 (by kernel_rfl) ?_
    simp only [Act.put, fl1, fl2, fl3]
    refine sl_run rfl (.int .u64 (nm : Int)) w2 (by kernel_rfl) ?_
    simp only [Act.put, fl1, fl2, fl3]
    refine sl_run rfl (.slice A9 n9 c9) w2 (by kernel_rfl) ?_
    simp only [Act.put, fl1, fl2, fl3]
    refine sl_run rfl (.int .i64 (k : Int)) w2 (by kernel_rfl) ?_
    simp only [Act.put, fl1, fl2, fl3]
    refine sl_run rfl (.int .u64 (nm : Int)) w2 (by kernel_rfl) ?_
    simp only [Act.put, fl1, fl2, fl3]
    refine sl_run rfl (.slice A9 n9 c9) w2 (by kernel_rfl) ?_
    simp only [Act.put, fl1, fl2, fl3]
    refine sl_run rfl (.int .i64 (k : Int)) w2 (by kernel_rfl) ?_
    simp only [Act.put, fl1, fl2, fl3]
    refine wpList_nil ?_
    by_cases hk0 : k = 0
    case pos =>
      have hs : oneS L = none := by
        cases h : oneS L with
        | none => rfl
        | some x =>
          obtain ⟨a1, a2, a3⟩ := x
          have h1 := oneS_len h
          have h2 := oneT_some h
          rw [hTH.out] at h2
          injection h2 with h3 h4
          injection h4 with h5 h6
          omega
      have hRe : R = (f, ps, e) := hresH.out.symm.trans (scanS_none (by rw [← hLH.out]; exact hs))
      clear hs
      subst hk0
      have hReH : Hid (R = (f, ps, e)) := hRe
      clear hRe
      have hF := hBw2
      have hP := hplw2
      clear hBw2 hplw2 hkw2 hresH hzH hLH hLb hA2H hyLw hTH hn9H hyw hbH hn' 
      go_wp2_with fail
      go_ret3
      refine ⟨.slice Av np cv, ?_, ?_, hF.out⟩
      · rw [hReH.out]; rfl
      · rw [hReH.out]; exact hP.out
    case neg =>
    have hs1 : oneS L = some (nm, pl, k) := by
      cases h : oneS L with
      | none => exact absurd (by have := oneT_none h; rw [hTH.out] at this; injection this with _ h4; injection h4) hk0
      | some x => rw [← oneT_some h, hTH.out]
    have hk17 : 17 ≤ k ∧ k ≤ n - e := by have := oneS_len hs1; omega
    have hnm2 : nm < 18446744073709551616 := oneS_lt hLb.out hs1
    have hRs : Hid (R = if (f = 0 ∧ (nm < 1 ∨ 1099511627776 < nm)) ∨ (0 < f ∧ nm ≠ f + ps.length) then (f, ps, e) else scanS l (if f = 0 then nm else f) (ps ++ [pl]) (e + k)) :=
      hresH.out.symm.trans (scanS_some (by rw [← hLH.out]; exact hs1))
    clear hs1
    have hkI : ¬ (k : Int) = 0 := by omega
    by_cases hp0 : np = 0
    case pos =>
      have hf0 : f = 0 ∧ e = 0 ∧ ps = [] := by
        have hps : ps = [] := List.length_eq_zero_iff.1 (by rw [← hnpH.out]; exact hp0)
        rcases hzH.out with h | h
        · exact ⟨h.2.1, h.2.2, h.1⟩
        · exact absurd hps h.1
      have hf0H : Hid (f = 0 ∧ e = 0 ∧ ps = []) := hf0
      clear hf0
      have hpI : (np : Int) = 0 := by omega
      by_cases hn1 : nm < 1
      case pos =>
        have hnI : (nm : Int) < 1 := by omega
        have hReH : Hid (R = (0, [], 0)) := by
          show _ = _
          rw [hRs.out, if_pos (.inl ⟨hf0H.out.1, .inl hn1⟩), hf0H.out.1, hf0H.out.2.1, hf0H.out.2.2]
        clear hRs hf0H
        have hF := hBw2
        have hP := hplw2
        clear hBw2 hplw2 hkw2 hresH hzH hLH hLb hA2H hyLw hTH hn9H hyw hbH hn' hnpH
        go_wp2_with fail
        go_ret3
        refine ⟨.slice none 0 0, ?_, ?_, hF.out⟩
        · rw [hReH.out]; rfl
        · rw [hReH.out]; exact PLo.nil _ _
      case neg =>
      have hnI : ¬ (nm : Int) < 1 := by omega
      by_cases hn4 : 1099511627776 < nm
      case pos =>
        have hnI4 : (1099511627776 : Int) < (nm : Int) := by omega
        have hReH : Hid (R = (0, [], 0)) := by
          show _ = _
          rw [hRs.out, if_pos (.inl ⟨hf0H.out.1, .inr hn4⟩), hf0H.out.1, hf0H.out.2.1, hf0H.out.2.2]
        clear hRs hf0H
        have hF := hBw2
        have hP := hplw2
        clear hBw2 hplw2 hkw2 hresH hzH hLH hLb hA2H hyLw hTH hn9H hyw hbH hn' hnpH
        go_wp2_with fail
        go_ret3
        refine ⟨.slice none 0 0, ?_, ?_, hF.out⟩
        · rw [hReH.out]; rfl
        · rw [hReH.out]; exact PLo.nil _ _
      case neg =>
      have hnI4 : ¬ (1099511627776 : Int) < (nm : Int) := by omega

      go_upto_region 4 with fail
      refine wp_region_lit ?_
      refine sl_run rfl (.int .i64 (k : Int)) w2 (by kernel_rfl) ?_
      simp only [Act.put, fl1, fl2, fl3]
      refine sl_run rfl (.bool false) w2 (exec_eqI _ _ _ rfl (k : Int) 0 (by kernel_rfl) (by kernel_rfl) false (by simp; omega)) ?_
      simp only [Act.put, fl1, fl2, fl3]
      refine wpList_nil ?_
      go_upto_region 6 with fail
      refine wp_region_lit ?_
      refine sl_run rfl (.slice Av np cv) w2 (by kernel_rfl) ?_
      simp only [Act.put, fl1, fl2, fl3]
      refine sl_run rfl (.int .i64 (np : Int)) w2 (by kernel_rfl) ?_
      simp only [Act.put, fl1, fl2, fl3]
      refine sl_run rfl (.bool true) w2 (exec_eqI _ _ _ rfl (np : Int) 0 (by kernel_rfl) (by kernel_rfl) true (by simp; omega)) ?_
      simp only [Act.put, fl1, fl2, fl3]
      refine wpList_nil ?_
      go_upto_region 7 with fail
      refine wp_region_lit ?_
      refine sl_run rfl (.int .u64 (nm : Int)) w2 (by kernel_rfl) ?_
      simp only [Act.put, fl1, fl2, fl3]
      refine sl_run rfl (.bool false) w2 (exec_lssU _ _ _ rfl ((nm : Int)) (1) (by kernel_rfl) (by kernel_rfl) false (decide_eq_false (by omega))) ?_
      simp only [Act.put, fl1, fl2, fl3]
      refine sl_run rfl (.bool false) w2 (by kernel_rfl) ?_
      simp only [Act.put, fl1, fl2, fl3]
      refine sg_run (by kernel_rfl) (.int .u64 (nm : Int)) w2 (by kernel_rfl) ?_
      simp only [Act.put, fl1, fl2, fl3]
      refine sg_run (by kernel_rfl) (.bool false) w2 (exec_gtrU _ _ _ rfl ((nm : Int)) (1099511627776) (by kernel_rfl) (by kernel_rfl) false (decide_eq_false (by omega))) ?_
      simp only [Act.put, fl1, fl2, fl3]
      refine sl_run rfl (.bool false) w2 (by kernel_rfl) ?_
      simp only [Act.put, fl1, fl2, fl3]
      refine wpList_nil ?_
      go_upto_region 9 with fail
      refine wp_region_lit ?_
      refine sl_run rfl (.int .u64 (nm : Int)) w2 (by kernel_rfl) ?_
      simp only [Act.put, fl1, fl2, fl3]
      refine sl_run rfl (.int .i64 (nm : Int)) w2 (exec_convU _ rfl nm (by omega) (by kernel_rfl)) ?_
      simp only [Act.put, fl1, fl2, fl3]
      refine sl_run rfl (.int .i64 (nm : Int)) w2 (by kernel_rfl) ?_
      simp only [Act.put, fl1, fl2, fl3]
      refine wpList_nil ?_
      go_upto_region 12 with fail
      refine wp_region_lit ?_
      refine sl_run rfl (.slice Av np cv) w2 (by kernel_rfl) ?_
      simp only [Act.put, fl1, fl2, fl3]
      refine sl_run rfl (.slice A9 n9 c9) w2 (by kernel_rfl) ?_
      simp only [Act.put, fl1, fl2, fl3]
      refine sl_run rfl (.slice (some ⟨w2.heap.size, 0, none⟩) 1 1) (w2.alloc (.cells #[.slice A9 n9 c9] 22)) (by kernel_rfl) ?_
      simp only [Act.put, fl1, fl2, fl3]
      generalize hX : w2.alloc (.cells #[.slice A9 n9 c9] 22) = w3
      have hb : Below w2.heap.size w2 w3 := by rw [← hX]; exact (Below.refl _ _).alloc (Nat.le_refl _) _
      obtain ⟨E, hEe⟩ : ∃ E, E = w2.heap.size := ⟨_, rfl⟩
      have he9 : w3.heap[E]? = some (.cells #[.slice A9 n9 c9] 22 (0, 0)) := by rw [← hX, hEe]; exact heap_alloc_new _ _
      rw [← hEe]
      clear hX hEe
      have hBw3 : Hid (Below w.heap.size w w3) := (hBw2.out).trans ((hb).mono (hBw2.out).size)
      have hplw3 : Hid (PLo w3 w.heap.size (.slice Av np cv) ps) := (hplw2.out).below hb
      have hkw3 : Hid (TB w3 (.slice A9 n9 c9) pl) := (hkw2.out).below hb
      clear hBw2 hplw2 hkw2
      have hEE : Hid (w3.heap[E]? = some (.cells #[.slice A9 n9 c9] 22 (0, 0))) := he9
      clear he9 hb
      obtain ⟨vz, w4, hea, hPz, hgz, _⟩ := exec_appP1 (w := w3) (.tmp 46) (.tmp 48) w.heap.size (.slice Av np cv) ps pl hplw3.out E (.slice A9 n9 c9) A9 n9 c9 rfl hEE.out hkw3.out (by have := hnpH.out; omega) hBw3.out.size
      have hBw4 : Hid (Below w.heap.size w w4) := hBw3.out.grown hgz hBw3.out.size (fun q hq => (hplw3.out.lt q hq).1)
      have hpz : Hid (PLo w4 w.heap.size vz (ps ++ [pl])) := hPz
      refine sl_run rfl vz w4 (hea rfl (by kernel_rfl) (by kernel_rfl)) ?_
      clear hea hgz hPz hEE hkw3 hBw3 hplw3
      simp only [Act.put, fl1, fl2, fl3]
      refine sl_run rfl (vz) w4 (by kernel_rfl) ?_
      simp only [Act.put, fl1, fl2, fl3]
      refine wpList_nil ?_
      go_upto_region 13 with fail
      refine wp_region_lit ?_
      refine sl_run rfl (.int .i64 (e : Int)) w4 (by kernel_rfl) ?_
      simp only [Act.put, fl1, fl2, fl3]
      refine sl_run rfl (.int .i64 (k : Int)) w4 (by kernel_rfl) ?_
      simp only [Act.put, fl1, fl2, fl3]
      refine sl_run rfl (.int .i64 ((e + k : Nat) : Int)) w4 ((exec_add2 _ _ rfl (e : Int) (k : Int) (by kernel_rfl) (by kernel_rfl) (by omega) (by omega) _).trans (by rw [show (e : Int) + (k : Int) = ((e + k : Nat) : Int) by omega])) ?_
      simp only [Act.put, fl1, fl2, fl3]
      refine sl_run rfl (.int .i64 ((e + k : Nat) : Int)) w4 (by kernel_rfl) ?_
      simp only [Act.put, fl1, fl2, fl3]
      refine wpList_nil ?_
      have hR2 : scanS l nm (ps ++ [pl]) (e + k) = R := by
        rw [hRs.out, if_neg (by have := hf0H.out.1; omega), if_pos hf0H.out.1]
      have hRel : Hid (SR w l R nm (ps ++ [pl]) (e + k) vz w4) := ⟨by have := hn'.out; omega, hR2, by omega, by have := hnpH.out; simp; omega, .inr ⟨by simp, by omega⟩, hpz.out, hBw4.out⟩
      clear hR2 hRs hpz hBw4 hresH hzH hLH hLb hA2H hyLw hTH hn9H hnpH hf0H
      go_wp2_with fail
      go_roundw
      case rel => exact ⟨nm, ps ++ [pl], e + k, rfl, rfl, hRel⟩
      case measure => simp [intOf]; omega
    case neg =>
      have hfp : 0 < f ∧ ps ≠ [] := by
        rcases hzH.out with h | h
        · exact absurd (by rw [hnpH.out, h.1]; rfl) hp0
        · exact ⟨h.2, h.1⟩
      have hf1 : 0 < f := hfp.1
      clear hfp
      go_upto_region 4 with fail
      refine wp_region_lit ?_
      refine sl_run rfl (.int .i64 (k : Int)) w2 (by kernel_rfl) ?_
      simp only [Act.put, fl1, fl2, fl3]
      refine sl_run rfl (.bool false) w2 (exec_eqI _ _ _ rfl (k : Int) 0 (by kernel_rfl) (by kernel_rfl) false (by simp; omega)) ?_
      simp only [Act.put, fl1, fl2, fl3]
      refine wpList_nil ?_
      go_upto_region 6 with fail
      refine wp_region_lit ?_
      refine sl_run rfl (.slice Av np cv) w2 (by kernel_rfl) ?_
      simp only [Act.put, fl1, fl2, fl3]
      refine sl_run rfl (.int .i64 (np : Int)) w2 (by kernel_rfl) ?_
      simp only [Act.put, fl1, fl2, fl3]
      refine sl_run rfl (.bool false) w2 (exec_eqI _ _ _ rfl (np : Int) 0 (by kernel_rfl) (by kernel_rfl) false (by simp; omega)) ?_
      simp only [Act.put, fl1, fl2, fl3]
      refine wpList_nil ?_
      by_cases hn1 : nm = f + np
      case neg =>
        go_upto_region 10 with fail
        refine wp_region_lit ?_
        refine sl_run rfl (.int .u64 (nm : Int)) w2 (by kernel_rfl) ?_
        simp only [Act.put, fl1, fl2, fl3]
        refine sl_run rfl (.int .i64 (f : Int)) w2 (by kernel_rfl) ?_
        simp only [Act.put, fl1, fl2, fl3]
        refine sl_run rfl (.int .u64 (f : Int)) w2 (exec_convI _ _ _ rfl _ _ _ (by kernel_rfl) (conv_u64 (f : Int) (by omega) (by omega) _)) ?_
        simp only [Act.put, fl1, fl2, fl3]
        refine sl_run rfl (.slice Av np cv) w2 (by kernel_rfl) ?_
        simp only [Act.put, fl1, fl2, fl3]
        refine sl_run rfl (.int .i64 (np : Int)) w2 (by kernel_rfl) ?_
        simp only [Act.put, fl1, fl2, fl3]
        refine sl_run rfl (.int .u64 (np : Int)) w2 (exec_convI _ _ _ rfl _ _ _ (by kernel_rfl) (conv_u64 (np : Int) (by omega) (by omega) _)) ?_
        simp only [Act.put, fl1, fl2, fl3]
        refine sl_run rfl (.int .u64 ((f : Int) + (np : Int))) w2 (exec_addU _ _ rfl (f : Int) (np : Int) (by kernel_rfl) (by kernel_rfl) (by omega) (by omega)) ?_
        simp only [Act.put, fl1, fl2, fl3]
        refine sl_run rfl (.bool true) w2 (exec_neU _ _ _ rfl (nm : Int) ((f : Int) + (np : Int)) (by kernel_rfl) (by kernel_rfl) true (by simp; omega)) ?_
        simp only [Act.put, fl1, fl2, fl3]
        refine wpList_nil ?_
        have hReH : Hid (R = (f, ps, e)) := by
          show _ = _
          rw [hRs.out, if_pos (.inr ⟨hf1, by rw [← hnpH.out]; exact hn1⟩)]
        clear hRs
        have hF := hBw2
        have hP := hplw2
        clear hBw2 hplw2 hkw2 hresH hzH hLH hLb hA2H hyLw hTH hn9H hyw hbH hn' hnpH
        go_wp2_with fail
        go_ret3
        refine ⟨.slice Av np cv, ?_, ?_, hF.out⟩
        · rw [hReH.out]; rfl
        · rw [hReH.out]; exact hP.out
      case pos =>
      go_upto_region 10 with fail
      refine wp_region_lit ?_
      refine sl_run rfl (.int .u64 (nm : Int)) w2 (by kernel_rfl) ?_
      simp only [Act.put, fl1, fl2, fl3]
      refine sl_run rfl (.int .i64 (f : Int)) w2 (by kernel_rfl) ?_
      simp only [Act.put, fl1, fl2, fl3]
      refine sl_run rfl (.int .u64 (f : Int)) w2 (exec_convI _ _ _ rfl _ _ _ (by kernel_rfl) (conv_u64 (f : Int) (by omega) (by omega) _)) ?_
      simp only [Act.put, fl1, fl2, fl3]
      refine sl_run rfl (.slice Av np cv) w2 (by kernel_rfl) ?_
      simp only [Act.put, fl1, fl2, fl3]
      refine sl_run rfl (.int .i64 (np : Int)) w2 (by kernel_rfl) ?_
      simp only [Act.put, fl1, fl2, fl3]
      refine sl_run rfl (.int .u64 (np : Int)) w2 (exec_convI _ _ _ rfl _ _ _ (by kernel_rfl) (conv_u64 (np : Int) (by omega) (by omega) _)) ?_
      simp only [Act.put, fl1, fl2, fl3]
      refine sl_run rfl (.int .u64 ((f : Int) + (np : Int))) w2 (exec_addU _ _ rfl (f : Int) (np : Int) (by kernel_rfl) (by kernel_rfl) (by omega) (by omega)) ?_
      simp only [Act.put, fl1, fl2, fl3]
      refine sl_run rfl (.bool false) w2 (exec_neU _ _ _ rfl (nm : Int) ((f : Int) + (np : Int)) (by kernel_rfl) (by kernel_rfl) false (by simp; omega)) ?_
      simp only [Act.put, fl1, fl2, fl3]
      refine wpList_nil ?_
      go_upto_region 12 with fail
      refine wp_region_lit ?_
      refine sl_run rfl (.slice Av np cv) w2 (by kernel_rfl) ?_
      simp only [Act.put, fl1, fl2, fl3]
      refine sl_run rfl (.slice A9 n9 c9) w2 (by kernel_rfl) ?_
      simp only [Act.put, fl1, fl2, fl3]
      refine sl_run rfl (.slice (some ⟨w2.heap.size, 0, none⟩) 1 1) (w2.alloc (.cells #[.slice A9 n9 c9] 22)) (by kernel_rfl) ?_
      simp only [Act.put, fl1, fl2, fl3]
      generalize hX : w2.alloc (.cells #[.slice A9 n9 c9] 22) = w5
      have hb : Below w2.heap.size w2 w5 := by rw [← hX]; exact (Below.refl _ _).alloc (Nat.le_refl _) _
      obtain ⟨E, hEe⟩ : ∃ E, E = w2.heap.size := ⟨_, rfl⟩
      have he9 : w5.heap[E]? = some (.cells #[.slice A9 n9 c9] 22 (0, 0)) := by rw [← hX, hEe]; exact heap_alloc_new _ _
      rw [← hEe]
      clear hX hEe
      have hBw5 : Hid (Below w.heap.size w w5) := (hBw2.out).trans ((hb).mono (hBw2.out).size)
      have hplw5 : Hid (PLo w5 w.heap.size (.slice Av np cv) ps) := (hplw2.out).below hb
      have hkw5 : Hid (TB w5 (.slice A9 n9 c9) pl) := (hkw2.out).below hb
      clear hBw2 hplw2 hkw2
      have hEE : Hid (w5.heap[E]? = some (.cells #[.slice A9 n9 c9] 22 (0, 0))) := he9
      clear he9 hb
      obtain ⟨vz, w6, hea, hPz, hgz, _⟩ := exec_appP1 (w := w5) (.tmp 46) (.tmp 48) w.heap.size (.slice Av np cv) ps pl hplw5.out E (.slice A9 n9 c9) A9 n9 c9 rfl hEE.out hkw5.out (by have := hnpH.out; omega) hBw5.out.size
      have hBw6 : Hid (Below w.heap.size w w6) := hBw5.out.grown hgz hBw5.out.size (fun q hq => (hplw5.out.lt q hq).1)
      have hpz : Hid (PLo w6 w.heap.size vz (ps ++ [pl])) := hPz
      refine sl_run rfl vz w6 (hea rfl (by kernel_rfl) (by kernel_rfl)) ?_
      clear hea hgz hPz hEE hkw5 hBw5 hplw5
      simp only [Act.put, fl1, fl2, fl3]
      refine sl_run rfl (vz) w6 (by kernel_rfl) ?_
      simp only [Act.put, fl1, fl2, fl3]
      refine wpList_nil ?_
      go_upto_region 13 with fail
      refine wp_region_lit ?_
      refine sl_run rfl (.int .i64 (e : Int)) w6 (by kernel_rfl) ?_
      simp only [Act.put, fl1, fl2, fl3]
      refine sl_run rfl (.int .i64 (k : Int)) w6 (by kernel_rfl) ?_
      simp only [Act.put, fl1, fl2, fl3]
      refine sl_run rfl (.int .i64 ((e + k : Nat) : Int)) w6 ((exec_add2 _ _ rfl (e : Int) (k : Int) (by kernel_rfl) (by kernel_rfl) (by omega) (by omega) _).trans (by rw [show (e : Int) + (k : Int) = ((e + k : Nat) : Int) by omega])) ?_
      simp only [Act.put, fl1, fl2, fl3]
      refine sl_run rfl (.int .i64 ((e + k : Nat) : Int)) w6 (by kernel_rfl) ?_
      simp only [Act.put, fl1, fl2, fl3]
      refine wpList_nil ?_
      have hR2 : scanS l f (ps ++ [pl]) (e + k) = R := by
        rw [hRs.out, if_neg (by have := hnpH.out; omega), if_neg (by omega)]
      have hRel : Hid (SR w l R f (ps ++ [pl]) (e + k) vz w6) := ⟨by have := hn'.out; omega, hR2, by omega, by have := hnpH.out; simp; omega, .inr ⟨by simp, by omega⟩, hpz.out, hBw6.out⟩
      clear hR2 hRs hpz hBw6 hresH hzH hLH hLb hA2H hyLw hTH hn9H hnpH 
      go_wp2_with fail
      go_roundw
      case rel => exact ⟨f, ps ++ [pl], e + k, rfl, rfl, hRel⟩
      case measure => simp [intOf]; omega
end Go.Proofs.Ytdkaaieenbmihaa
namespace Go.Proofs.Ytdkaaieenbmihaa
open Go.RowKit
open Sha (vals Bytes Lies bytesC sumB)
open Go.Proofs.Ytdkaaieenbmihaa.Pure (nameB)
/-- A log: its payloads, whether it is dead. -/
structure LG where
  ps : List (List Nat)
  dead : Bool
def nLog : ByteArray := { data := #[108, 111, 103] }
def nNext : ByteArray := { data := #[110, 101, 120, 116] }
def nSnap : ByteArray := { data := #[115, 110, 97, 112] }
theorem rw_other {w : World} {D mb g : Nat} {d : DS} (hD : DiskI w D mb d) {cs : Array Value} {t : TypeId} {fr : Nat × Nat} (hg : w.heap[g]? = some (.cells cs t fr)) (ht : t ≠ 66) : ¬ TD D mb g := fun hs => by
  rcases hs with rfl | rfl
  · rw [hD.row] at hg; simp at hg; exact ht hg.2.1.symm
  · obtain ⟨L, ⟨es, clock, hm⟩, _⟩ := hD.ex
    rw [hm.heap] at hg; cases hg
theorem PLo.kpS {w w' : World} {base D mb : Nat} {d : DS} {v : Value} {ps : List (List Nat)} (h : PLo w base v ps) (hD : DiskI w D mb d) (hk : KpS (TD D mb) w w') : PLo w' base v ps := by
  obtain ⟨us, h1, h2, h3⟩ := h
  have hb : ∀ q, v.ownBlock = some q → w'.heap[q]? = w.heap[q]? := fun q hq => hk.block q (h1.1.lt q hq).2 (by
    rcases h1.1.2 with ⟨rfl, _⟩ | ⟨g, cap, cur, rfl, _, hg, _⟩
    · simp [Value.ownBlock] at hq
    · simp [Value.ownBlock] at hq
      subst hq
      exact rw_other hD hg (by decide))
  refine ⟨us, ⟨own_keep h1.1 hb, h1.2.keep hb⟩, h2, fun i hi => ?_⟩
  · obtain ⟨ha, hb⟩ := h3 i hi
    refine ⟨rw_kpS hD ha hk, fun q hq => ?_⟩
    obtain ⟨cs, fr, hc⟩ := hb q hq
    exact ⟨cs, fr, hk.heap hc (rw_other hD hc (by decide))⟩
/-- A log in memory, all of it from block B on. -/
structure LogI (w : World) (B D mb Lg : Nat) (d : DS) (g : LG) : Prop where
  row : ∃ v, w.heap[Lg]? = some (.cells #[.pointer (some ⟨D, 0, none⟩), v, .bool g.dead] 71 (0, 0)) ∧ PLo w B v g.ps
  disk : DiskI w D mb d
  lo : B ≤ D ∧ B ≤ mb ∧ B ≤ Lg ∧ B ≤ w.heap.size
theorem KpS.lo {w w' : World} {B D mb Lg : Nat} {d : DS} {g : LG} (h : LogI w B D mb Lg d g) (hk : KpS (TD D mb) w w') : Below B w w' :=
  hk.bel (fun k hs => by rcases hs with rfl | rfl; exact h.lo.1; exact h.lo.2.1) h.lo.2.2.2
theorem LogI.kpS {w w' : World} {B D mb Lg : Nat} {d d' : DS} {g : LG} (h : LogI w B D mb Lg d g) (hk : KpS (TD D mb) w w') (hd : DiskI w' D mb d') : LogI w' B D mb Lg d' g := by
  obtain ⟨v, h1, h2⟩ := h.row
  exact ⟨⟨v, hk.heap h1 (rw_other h.disk h1 (by decide)), h2.kpS h.disk hk⟩, hd, h.lo.1, h.lo.2.1, h.lo.2.2.1, Nat.le_trans h.lo.2.2.2 hk.size⟩
theorem LogI.below {w w' : World} {B D mb Lg : Nat} {d : DS} {g : LG} (h : LogI w B D mb Lg d g) (hb : Below w.heap.size w w') : LogI w' B D mb Lg d g :=
  h.kpS (KpS.of hb) (h.disk.below hb)
def readS (d : DS) (s : ByteArray) : List Nat × Bool × Nat := if (d.read s).2 = 4 then ([], false, 0) else ((d.read s).1, decide ((d.read s).2 = 0), (d.read s).2)
theorem exec_eqn {o : Oper} {a : Act} {w : World} (t : TypeId) (x y : Operand) (ho : o.op = .binOp .eql t x y t) (u v : Nat) (hx : a.eval x = .int .i64 (u : Int)) (hy : a.eval y = .int .i64 (v : Int)) (b : Bool) (hb : decide (u = v) = b) : (execOp a.eval o).run Try.prog w = .ok (.value (.bool b)) w := by
  refine exec_eqI t x y ho _ _ hx hy b ?_
  rw [← hb]
  by_cases h : u = v
  · subst h; simp
  · have : (u : Int) ≠ (v : Int) := by omega
    simp [h, this]
theorem exec_nen {o : Oper} {a : Act} {w : World} (t : TypeId) (x y : Operand) (ho : o.op = .binOp .neq t x y t) (u v : Nat) (hx : a.eval x = .int .i64 (u : Int)) (hy : a.eval y = .int .i64 (v : Int)) (b : Bool) (hb : decide (u ≠ v) = b) : (execOp a.eval o).run Try.prog w = .ok (.value (.bool b)) w := by
  refine exec_neI t x y ho _ _ hx hy b ?_
  rw [← hb]
  by_cases h : u = v
  · subst h; simp
  · have : (u : Int) ≠ (v : Int) := by omega
    simp [h, this]
set_option maxRecDepth 100000 in
set_option maxHeartbeats 4000000 in
theorem read_calls {w : World} {D mb : Nat} {d : DS} (h : DiskI w D mb d) (s : ByteArray) : Calls Try.prog 33 #[.pointer (some ⟨D, 0, none⟩), .string s] w fun e w' => ∃ v, e = .returned (.tuple #[v, .bool (readS d s).2.1, .int .i64 ((readS d s).2.2 : Int)]) ∧ Rw 1 encB w' v (readS d s).1 ∧ Below w.heap.size w w' := by
  have hDw : Hid (DiskI w D mb d) := h
  obtain ⟨bs, er, hr⟩ : ∃ p q, d.read s = (p, q) := ⟨_, _, rfl⟩
  have hrH : Hid (d.read s = (bs, er)) := hr
  obtain ⟨T, hT⟩ : ∃ T, T = readS d s := ⟨_, rfl⟩
  rw [← hT]
  have hTH : Hid (T = if er = 4 then ([], false, 0) else (bs, decide (er = 0), er)) := by
    show _ = _
    rw [hT]; unfold readS; rw [hr]
  clear h hr hT
  go_enter Try.func33, Try.ntmps33
  go_upto_region 1 with fail
  refine wp_region_lit ?_
  refine sl_run rfl (.pointer (some ⟨D, 0, none⟩)) w (by kernel_rfl) ?_
  simp only [Act.put, fl1, fl2, fl3]
  refine sl_run rfl (.string s) w (by kernel_rfl) ?_
  simp only [Act.put, fl1, fl2, fl3]
  refine sg_call (by kernel_rfl) 20 #[.pointer (some ⟨D, 0, none⟩), .string s] (by kernel_rfl) (R := fun u w' => ∃ v, u = .tuple #[v, .int .i64 (er : Int)] ∧ Rw 1 encB w' v bs ∧ Below w.heap.size w w') ?hc1 ?_
  case hc1 =>
    have h8 := Read_calls hDw.out s
    rw [hrH.out] at h8
    exact h8.mono fun e w' h => by
      obtain ⟨v, h1, h2, h3⟩ := h
      exact ⟨_, h1, v, rfl, h2, h3⟩
  rintro _ w2 ⟨v9, rfl, hr9, hb9⟩
  simp only [Act.put, fl1, fl2, fl3]
  have hR9 : Hid (Rw 1 encB w2 v9 bs) := hr9
  have hB9 : Hid (Below w.heap.size w w2) := hb9
  clear hr9 hb9
  refine sl_run rfl (.tuple #[v9, .int .i64 (er : Int)]) w2 (by kernel_rfl) ?_
  simp only [Act.put, fl1, fl2, fl3]
  refine sl_run rfl (v9) w2 (by kernel_rfl) ?_
  simp only [Act.put, fl1, fl2, fl3]
  refine sl_run rfl (.int .i64 (er : Int)) w2 (by kernel_rfl) ?_
  simp only [Act.put, fl1, fl2, fl3]
  refine sl_run rfl (v9) w2 (by kernel_rfl) ?_
  simp only [Act.put, fl1, fl2, fl3]
  refine sl_run rfl (.int .i64 (er : Int)) w2 (by kernel_rfl) ?_
  simp only [Act.put, fl1, fl2, fl3]
  refine wpList_nil ?_
  by_cases h4 : er = 4
  case pos =>
    go_upto_region 2 with fail
    refine wp_region_lit ?_
    refine sl_run rfl (.int .i64 (er : Int)) w2 (by kernel_rfl) ?_
    simp only [Act.put, fl1, fl2, fl3]
    refine sl_run rfl (.bool true) w2 (exec_eqn _ _ _ rfl er 4 (by kernel_rfl) (by kernel_rfl) true (decide_eq_true h4)) ?_
    simp only [Act.put, fl1, fl2, fl3]
    refine wpList_nil ?_
    have hT2 : T = ([], false, 0) := by rw [hTH.out, if_pos h4]
    clear hTH
    subst hT2
    clear hDw hrH
    go_wp2_with fail
    go_ret3
    exact ⟨_, rfl, Rw.nil, hB9.out⟩
  case neg =>
    go_upto_region 2 with fail
    refine wp_region_lit ?_
    refine sl_run rfl (.int .i64 (er : Int)) w2 (by kernel_rfl) ?_
    simp only [Act.put, fl1, fl2, fl3]
    refine sl_run rfl (.bool false) w2 (exec_eqn _ _ _ rfl er 4 (by kernel_rfl) (by kernel_rfl) false (decide_eq_false h4)) ?_
    simp only [Act.put, fl1, fl2, fl3]
    refine wpList_nil ?_
    go_upto_region 4 with fail
    refine wp_region_lit ?_
    refine sl_run rfl (v9) w2 (by kernel_rfl) ?_
    simp only [Act.put, fl1, fl2, fl3]
    refine sl_run rfl (.int .i64 (er : Int)) w2 (by kernel_rfl) ?_
    simp only [Act.put, fl1, fl2, fl3]
    refine sl_run rfl (.bool (decide (er = 0))) w2 (exec_eqn _ _ _ rfl er 0 (by kernel_rfl) (by kernel_rfl) _ rfl) ?_
    simp only [Act.put, fl1, fl2, fl3]
    refine sl_run rfl (.int .i64 (er : Int)) w2 (by kernel_rfl) ?_
    simp only [Act.put, fl1, fl2, fl3]
    refine sl_run rfl (v9) w2 (by kernel_rfl) ?_
    simp only [Act.put, fl1, fl2, fl3]
    refine sl_run rfl (.bool (decide (er = 0))) w2 (by kernel_rfl) ?_
    simp only [Act.put, fl1, fl2, fl3]
    refine sl_run rfl (.int .i64 (er : Int)) w2 (by kernel_rfl) ?_
    simp only [Act.put, fl1, fl2, fl3]
    refine wpList_nil ?_
    have hT2 : T = (bs, decide (er = 0), er) := by rw [hTH.out, if_neg h4]
    clear hTH
    subst hT2
    clear hDw hrH
    go_wp2_with fail
    go_ret3
    exact ⟨_, rfl, hR9.out, hB9.out⟩
/-- A function value with what it holds. -/
structure FV where
  f : FuncId
  caps : Array Value
deriving Inhabited
def encF (x : FV) : Array Value := #[.func (.func x.f) #[] x.caps]
def actsS : List (DS → DS × Nat) → DS → DS × Nat
  | [], d => (d, 0)
  | s :: t, d => if (s d).2 = 0 then actsS t (s d).1 else s d
theorem un86 : Try.prog.underlying 86 = some (.slice (Try.prog.elem 86)) := by kernel_rfl
theorem sz86 (w : World) : (sizeOf (Try.prog.elem 86)).run Try.prog w = .ok 1 w := by kernel_rfl
set_option maxRecDepth 100000 in
set_option maxHeartbeats 8000000 in
theorem acts_calls {w : World} {D mb Lg : Nat} {d : DS} (hD : DiskI w D mb d) (v0 v1 : Value) (b0 : Bool) (hL : w.heap[Lg]? = some (.cells #[v0, v1, .bool b0] 71 (0, 0))) (fs : List FV) (gf n : Nat) (hn : n = fs.length) (hn9 : n ≤ 1000000) (ss : List (DS → DS × Nat)) (hss : ss.length = n)
    (hf : w.heap[gf]? = some (.cells (flat encF fs).toArray 45 (0, 0)))
    (hcf : ∀ j, j < n → ∀ w, (callFunc (fs.getD j default).f (fs.getD j default).caps).run Try.prog w = .ok (.enter (fs.getD j default).f (fs.getD j default).caps) w)
    (hst : ∀ j, j < n → ∀ (W : World) (d' : DS), KpS (TD D mb) w W → DiskI W D mb d' → Calls Try.prog (fs.getD j default).f (fs.getD j default).caps W fun e w2 => e = .returned (.int .i64 ((ss.getD j (fun d => (d, 0)) d').2 : Int)) ∧ DiskI w2 D mb (ss.getD j (fun d => (d, 0)) d').1 ∧ KpS (TD D mb) W w2) :
    Calls Try.prog 37 #[.pointer (some ⟨Lg, 0, none⟩), .slice (some ⟨gf, 0, none⟩) n n] w fun e w' => ∃ w2, e = .returned (.int .i64 ((actsS ss d).2 : Int)) ∧ DiskI w2 D mb (actsS ss d).1 ∧ KpS (TD D mb) w w2 ∧ w' = if (actsS ss d).2 = 0 then w2 else w2.setCell ⟨Lg, 2, none⟩ (.bool (decide ((actsS ss d).2 = 20))) := by
  have hDw : Hid (DiskI w D mb d) := hD
  have hLw : Hid (w.heap[Lg]? = some (.cells #[v0, v1, .bool b0] 71 (0, 0))) := hL
  have hfw : Hid (w.heap[gf]? = some (.cells (flat encF fs).toArray 45 (0, 0))) := hf
  have hn' : Hid (n = fs.length) := hn
  have hss' : Hid (ss.length = n) := hss
  have hcfH : Hid (∀ j, j < n → ∀ w, (callFunc (fs.getD j default).f (fs.getD j default).caps).run Try.prog w = .ok (.enter (fs.getD j default).f (fs.getD j default).caps) w) := hcf
  have hstH : Hid (∀ j, j < n → ∀ (W : World) (d' : DS), KpS (TD D mb) w W → DiskI W D mb d' → Calls Try.prog (fs.getD j default).f (fs.getD j default).caps W fun e w2 => e = .returned (.int .i64 ((ss.getD j (fun d => (d, 0)) d').2 : Int)) ∧ DiskI w2 D mb (ss.getD j (fun d => (d, 0)) d').1 ∧ KpS (TD D mb) W w2) := hst
  have hcell : Hid (∀ j, j < n → ∀ W, KpS (TD D mb) w W → W.cell? ⟨gf, 0 + j * 1, none⟩ = some (.func (.func (fs.getD j default).f) #[] (fs.getD j default).caps)) := fun j hj W hk => by
    rw [cell_of_row _ _ _ _ _ _ (hk.heap hf (rw_other hD hf (by decide))), Nat.zero_add, List.getElem?_toArray]
    exact flat_get (k := 1) (enc := encF) (fun _ => rfl) fs j 0 (by omega) (by decide)
  obtain ⟨T, er, hT⟩ : ∃ p q, actsS ss d = (p, q) := ⟨_, _, rfl⟩
  rw [hT]
  have hTH : Hid (actsS (ss.drop 0) d = (T, er)) := hT
  have hKw : Hid (KpS (TD D mb) w w) := KpS.of (Below.refl _ _)
  clear hD hL hf hn hss hcf hst hT
  go_enter Try.func37, Try.ntmps37
  go_wp2_with fail
  go_loopw [10] (fun p wr => ∃ (j : Nat) (d' : DS), j ≤ n ∧ p = .int .i64 (j : Int) ∧ Hid (actsS (ss.drop j) d' = (T, er)) ∧ Hid (DiskI wr D mb d') ∧ Hid (KpS (TD D mb) w wr)) (fun p _ => n - (intOf p).toNat)
  case atStart => exact ⟨0, d, by omega, rfl, hTH, hDw, hKw⟩
  case round =>
    clear hTH hKw
    obtain ⟨j, d', hj, rfl, hT, hDr, hKr⟩ := hrel
    obtain ⟨wo, rfl⟩ : ∃ v : World, v = wr := ⟨_, rfl⟩
    by_cases h1 : j < n
    case neg =>
      have hI : ¬ (j : Int) < (n : Int) := by omega
      have hE : T = d' ∧ er = 0 := by
        have h8 := hT.out
        rw [List.drop_of_length_le (by rw [hss'.out]; omega)] at h8
        injection h8 with h8 h9
        exact ⟨h8.symm, h9.symm⟩
      obtain ⟨rfl, rfl⟩ := hE
      clear hT hcell hstH hcfH hn' hss' hfw hLw hDw
      go_wp2_with fail
      go_ret
      exact ⟨rfl, hDr.out, hKr.out⟩
    case pos =>
    have hI : (j : Int) < (n : Int) := by omega
    obtain ⟨F, hF⟩ : ∃ F, F = fs.getD j default := ⟨_, rfl⟩
    obtain ⟨cl, caps⟩ := F
    have hcellj : Hid (wo.cell? ⟨gf, 0 + j * 1, none⟩ = some (.func (.func cl) #[] caps)) := by
      have h8 := hcell.out j h1 wo hKr.out
      rw [← hF] at h8; exact h8
    have hcfj : Hid (∀ w, (callFunc cl caps).run Try.prog w = .ok (.enter cl caps) w) := by
      have h8 := hcfH.out j h1
      rw [← hF] at h8; exact h8
    obtain ⟨s, hs⟩ : ∃ s, s = ss.getD j (fun d => (d, 0)) := ⟨_, rfl⟩
    obtain ⟨d2, e2, hd2⟩ : ∃ p q, s d' = (p, q) := ⟨_, _, rfl⟩
    have hstj : Hid (Calls Try.prog cl caps wo fun e w2 => e = .returned (.int .i64 (e2 : Int)) ∧ DiskI w2 D mb d2 ∧ KpS (TD D mb) wo w2) := by
      have h8 := hstH.out j h1 wo d' hKr.out hDr.out
      rw [← hF, ← hs, hd2] at h8; exact h8
    have hTs : Hid ((if e2 = 0 then actsS (ss.drop (j + 1)) d2 else (d2, e2)) = (T, er)) := by
      have h8 := hT.out
      have e1 : ss.drop j = s :: ss.drop (j + 1) := by
        rw [List.drop_eq_getElem_cons (by rw [hss'.out]; exact h1), hs]
        congr 1
        rw [List.getD_eq_getElem?_getD, List.getElem?_eq_getElem (by rw [hss'.out]; exact h1)]; rfl
      rw [e1, actsS, hd2] at h8
      exact h8
    have hLwo : Hid (wo.heap[Lg]? = some (.cells #[v0, v1, .bool b0] 71 (0, 0))) := hKr.out.heap hLw.out (rw_other hDw.out hLw.out (by decide))
    clear hF hs hd2 hT
    go_upto_region 2 with fail
    refine wp_region_lit ?_
    refine sl_run rfl (.bool true) wo (exec_lss _ _ _ rfl (j : Int) (n : Int) (by kernel_rfl) (by kernel_rfl) true (decide_eq_true hI)) ?_
    simp only [Act.put, fl1, fl2, fl3]
    refine wpList_nil ?_
    go_upto_region 3 with fail
    refine wp_region_lit ?_
    refine sl_run rfl (.pointer (some ⟨gf, 0 + j * 1, none⟩)) wo (exec_index un86 sz86 _ _ rfl gf 0 n n j (by kernel_rfl) (by kernel_rfl) h1 wo) ?_
    simp only [Act.put, fl1, fl2, fl3]
    refine sl_run rfl (.func (.func cl) #[] caps) wo (exec_load_cell 45 wo _ rfl ⟨gf, 0 + j * 1, none⟩ (by kernel_rfl) _ hcellj.out (fun _ => by kernel_rfl)) ?_
    simp only [Act.put, fl1, fl2, fl3]
    refine sl_run rfl (.func (.func cl) #[] caps) wo (by kernel_rfl) ?_
    simp only [Act.put, fl1, fl2, fl3]
    refine wpList_nil ?_
    go_upto_region 4 with fail
    refine wp_region_lit ?_
    refine sl_run rfl (.func (.func cl) #[] caps) wo (by kernel_rfl) ?_
    simp only [Act.put, fl1, fl2, fl3]
    refine sg_call (by kernel_rfl) cl caps ?he (R := fun v w' => v = .int .i64 (e2 : Int) ∧ DiskI w' D mb d2 ∧ KpS (TD D mb) wo w') ?hc ?_
    case he => exact exec_callfn _ rfl cl caps (by kernel_rfl) (hcfj.out wo)
    case hc => exact hstj.out.mono fun e w' h => ⟨_, h.1, rfl, h.2⟩
    rintro _ w2 ⟨rfl, hD2, hK2⟩
    simp only [Act.put, fl1, fl2, fl3]
    have hLw2 : Hid (w2.heap[Lg]? = some (.cells #[v0, v1, .bool b0] 71 (0, 0))) := hK2.heap hLwo.out (rw_other hDr.out hLwo.out (by decide))
    have hDw2 : Hid (DiskI w2 D mb d2) := hD2
    have hKw2 : Hid (KpS (TD D mb) w w2) := hKr.out.trans hK2
    clear hD2 hK2 hDr hKr hLwo hstj hcellj hcfj
    refine sl_run rfl (.int .i64 (e2 : Int)) w2 (by kernel_rfl) ?_
    simp only [Act.put, fl1, fl2, fl3]
    refine wpList_nil ?_
    by_cases hz : e2 = 0
    case pos =>
      go_upto_region 5 with fail
      refine wp_region_lit ?_
      refine sl_run rfl (.int .i64 (e2 : Int)) w2 (by kernel_rfl) ?_
      simp only [Act.put, fl1, fl2, fl3]
      refine sl_run rfl (.bool false) w2 (exec_nen _ _ _ rfl e2 0 (by kernel_rfl) (by kernel_rfl) false (decide_eq_false (fun h => h hz))) ?_
      simp only [Act.put, fl1, fl2, fl3]
      refine wpList_nil ?_
      go_upto_region 8 with fail
      refine wp_region_lit ?_
      refine sl_run rfl (.int .i64 ((j : Int) + 1)) w2 (exec_add2 _ _ rfl (j : Int) 1 (by kernel_rfl) (by kernel_rfl) (by omega) (by omega) w2) ?_
      simp only [Act.put, fl1, fl2, fl3]
      refine sl_run rfl (.int .i64 ((j : Int) + 1)) w2 (by kernel_rfl) ?_
      simp only [Act.put, fl1, fl2, fl3]
      refine wpList_nil ?_
      have hT2 : Hid (actsS (ss.drop (j + 1)) d2 = (T, er)) := by
        have h8 := hTs.out
        rw [if_pos hz] at h8; exact h8
      clear hTs hLw2 hz
      go_wp2_with fail
      go_roundw
      case rel => exact ⟨j + 1, d2, by omega, by go_num, hT2, hDw2, hKw2⟩
      case measure => simp [intOf]; omega
    case neg =>
      have hE : d2 = T ∧ e2 = er := by
        have h8 := hTs.out
        rw [if_neg hz] at h8
        injection h8 with h8 h9
        exact ⟨h8, h9⟩
      obtain ⟨rfl, rfl⟩ := hE
      clear hTs
      go_upto_region 5 with fail
      refine wp_region_lit ?_
      refine sl_run rfl (.int .i64 (e2 : Int)) w2 (by kernel_rfl) ?_
      simp only [Act.put, fl1, fl2, fl3]
      refine sl_run rfl (.bool true) w2 (exec_nen _ _ _ rfl e2 0 (by kernel_rfl) (by kernel_rfl) true (decide_eq_true hz)) ?_
      simp only [Act.put, fl1, fl2, fl3]
      refine wpList_nil ?_
      go_upto_region 6 with fail
      refine wp_region_lit ?_
      refine sl_run rfl (.pointer (some ⟨Lg, 0, none⟩)) w2 (by kernel_rfl) ?_
      simp only [Act.put, fl1, fl2, fl3]
      refine sl_run rfl (.int .i64 (e2 : Int)) w2 (by kernel_rfl) ?_
      simp only [Act.put, fl1, fl2, fl3]
      refine sl_run rfl (.bool (decide (e2 = 20))) w2 (exec_eqn _ _ _ rfl e2 20 (by kernel_rfl) (by kernel_rfl) _ rfl) ?_
      simp only [Act.put, fl1, fl2, fl3]
      refine sl_run rfl (.pointer (some ⟨Lg, 0, none⟩)) w2 (by kernel_rfl) ?_
      simp only [Act.put, fl1, fl2, fl3]
      refine sl_run rfl (.pointer (some ⟨Lg, 2, none⟩)) w2 (by kernel_rfl) ?_
      simp only [Act.put, fl1, fl2, fl3]
      refine sl_skipped (by kernel_rfl) (w2.setCell ⟨Lg, 2, none⟩ (.bool (decide (e2 = 20)))) ?he2 ?_
      case he2 => exact exec_store_cell 4 _ _ rfl Lg 2 (by kernel_rfl) (.bool (decide (e2 = 20))) (by kernel_rfl) (.bool b0) (by rw [cell_of_row _ _ _ _ _ _ hLw2.out]; rfl) (frozen_of_row _ _ _ _ _ hLw2.out) (fun w => by kernel_rfl) (by kernel_rfl) rfl
      simp only [Act.put, fl1, fl2, fl3]
      refine wpList_nil ?_
      obtain ⟨w3, hw3⟩ : ∃ w3, w3 = w2.setCell ⟨Lg, 2, none⟩ (.bool (decide (e2 = 20))) := ⟨_, rfl⟩
      rw [← hw3]
      have hw3H : Hid (w3 = w2.setCell ⟨Lg, 2, none⟩ (.bool (decide (e2 = 20)))) := hw3
      clear hw3 hLw2 hcell hstH hcfH hn' hss' hfw hLw hDw
      go_wp2_with fail
      go_ret
      exact ⟨rfl, w2, hDw2.out, hKw2.out, hw3H.out⟩
end Go.Proofs.Ytdkaaieenbmihaa
namespace Go.Proofs.Ytdkaaieenbmihaa
open Go.RowKit
open Sha (vals Bytes Lies bytesC sumB)
open Go.Proofs.Ytdkaaieenbmihaa.Pure (nameB)
def PL1 (B : Nat) : Value := .pointer (some ⟨B, 0, none⟩)
def bx (w : World) (B : Nat) (v : Value) (t : TypeId) : Prop := w.heap[B]? = some (.cells #[v] t (0, 0))
theorem bx.cell {w : World} {B : Nat} {v : Value} {t : TypeId} (h : bx w B v t) : w.cell? ⟨B, 0, none⟩ = some v := by
  rw [cell_of_row _ _ _ _ _ _ h]; rfl
theorem bx.kp {w w' : World} {B D mb : Nat} {d : DS} {v : Value} {t : TypeId} (h : bx w B v t) (hD : DiskI w D mb d) (ht : t ≠ 66) (hk : KpS (TD D mb) w w') : bx w' B v t := hk.heap h (rw_other hD h ht)
def cut0 (d : DS) : DS × Nat := if (d.cut nLog 0).2 = 4 then ((d.cut nLog 0).1, 0) else d.cut nLog 0
set_option maxRecDepth 100000 in
set_option maxHeartbeats 2000000 in
theorem app1_calls {w : World} {D mb : Nat} {d : DS} (h : DiskI w D mb d) (Bl Bb Lg : Nat) (hBl : bx w Bl (.pointer (some ⟨Lg, 0, none⟩)) 41) (v : Value) (b : Bool) (hLg : w.heap[Lg]? = some (.cells #[.pointer (some ⟨D, 0, none⟩), v, .bool b] 71 (0, 0))) (A : Option Addr) (n c : Nat) (bs : List Nat) (hn : n = bs.length) (hn9 : n ≤ 500000000) (hBb : bx w Bb (.slice A n c) 22) (hy : Rw 1 encB w (.slice A n c) bs) :
    Calls Try.prog 38 #[.pointer (some ⟨Bl, 0, none⟩), .pointer (some ⟨Bb, 0, none⟩)] w fun e w' => e = .returned (.int .i64 ((d.app nameB nLog bs).2 : Int)) ∧ DiskI w' D mb (d.app nameB nLog bs).1 ∧ KpS (TD D mb) w w' := by
  have hDw : Hid (DiskI w D mb d) := h
  have hlc := hBl.cell
  have hbc := hBb.cell
  have hgc : w.cell? ⟨Lg, 0, none⟩ = some (.pointer (some ⟨D, 0, none⟩)) := by rw [cell_of_row _ _ _ _ _ _ hLg]; rfl
  have hkl : Hid (∀ w', KpS (TD D mb) w w' → w'.cell? ⟨Bl, 0, none⟩ = some (.pointer (some ⟨Lg, 0, none⟩)) ∧ w'.cell? ⟨Lg, 0, none⟩ = some (.pointer (some ⟨D, 0, none⟩)) ∧ w'.cell? ⟨Bb, 0, none⟩ = some (.slice A n c)) := fun w' hk =>
    ⟨(hBl.kp h (by decide) hk).cell, by rw [cell_of_row _ _ _ _ _ _ (hk.heap hLg (rw_other h hLg (by decide)))]; rfl, (hBb.kp h (by decide) hk).cell⟩
  have hyw : Hid (Rw 1 encB w (.slice A n c) bs) := hy
  have hn' : Hid (n = bs.length) := hn
  clear hlc hbc hgc hBl hLg hBb hy hn
  obtain ⟨d1, er, hd1⟩ : ∃ p q, d.app nameB nLog bs = (p, q) := ⟨_, _, rfl⟩
  rw [hd1]
  have hd1H : Hid (d.app nameB nLog bs = (d1, er)) := hd1
  clear h hd1
  go_enter Try.func38, Try.ntmps38
  go_upto_region 1 with fail
  refine wp_normalG ?_
  refine wp_region_held_drew (S := fun w' => KpS (TD D mb) w w') (by kernel_rfl) (KpS.of (Below.refl _ _).drew) (fun hS => ?_)
  change wpAnyH _ _ _ _ _ 7 (Array.replicate 7 false) _ _
  generalize hx : w.drew = y at hS ⊢
  have hDy : Hid (DiskI y D mb d) := by rw [← hx]; exact hDw.out.below (Below.refl _ _).drew
  clear hx
  refine held_take 0 rfl (by kernel_rfl) (by kernel_rfl) (by kernel_rfl) (.pointer (some ⟨Lg, 0, none⟩)) (fun _ _ _ h => nomatch h.1) (by kernel_rfl) (fun w' h => (exec_load_cell 41 w' _ rfl ⟨Bl, 0, none⟩ (by kernel_rfl) _ ((hkl.out w' h).1) (fun _ => by kernel_rfl))) hS ?_
  simp only [Act.put, fl1, fl2, fl3, fl4, fl5, fl6]
  refine held_take 1 rfl (by kernel_rfl) (by kernel_rfl) (by kernel_rfl) (.pointer (some ⟨Lg, 0, none⟩)) (fun _ _ _ h => nomatch h.1) (by kernel_rfl) (fun w' h => (by kernel_rfl)) hS ?_
  simp only [Act.put, fl1, fl2, fl3, fl4, fl5, fl6]
  refine held_take 2 rfl (by kernel_rfl) (by kernel_rfl) (by kernel_rfl) (.pointer (some ⟨Lg, 0, none⟩)) (fun _ _ _ h => nomatch h.1) (by kernel_rfl) (fun w' h => (by kernel_rfl)) hS ?_
  simp only [Act.put, fl1, fl2, fl3, fl4, fl5, fl6]
  refine held_take 3 rfl (by kernel_rfl) (by kernel_rfl) (by kernel_rfl) (.pointer (some ⟨D, 0, none⟩)) (fun _ _ _ h => nomatch h.1) (by kernel_rfl) (fun w' h => (exec_load_cell 39 w' _ rfl ⟨Lg, 0, none⟩ (by kernel_rfl) _ ((hkl.out w' h).2.1) (fun _ => by kernel_rfl))) hS ?_
  simp only [Act.put, fl1, fl2, fl3, fl4, fl5, fl6]
  refine held_take 4 rfl (by kernel_rfl) (by kernel_rfl) (by kernel_rfl) (.slice A n c) (fun _ _ _ h => nomatch h.1) (by kernel_rfl) (fun w' h => (exec_load_cell 22 w' _ rfl ⟨Bb, 0, none⟩ (by kernel_rfl) _ ((hkl.out w' h).2.2) (fun _ => by kernel_rfl))) hS ?_
  simp only [Act.put, fl1, fl2, fl3, fl4, fl5, fl6]
  refine held_call 5 rfl (by kernel_rfl) (by kernel_rfl) 39 #[.pointer (some ⟨D, 0, none⟩), .string nLog, .slice A n c] (by kernel_rfl) (R := fun v w' => v = .int .i64 (er : Int) ∧ DiskI w' D mb d1 ∧ KpS (TD D mb) y w') ?hcc ?_
  case hcc =>
    have h8 := Append_calls hDy.out nLog bs A n c hn'.out hn9 (rw_kpS hDw.out hyw.out hS)
    rw [hd1H.out] at h8
    exact h8.mono fun e w' h => ⟨_, h.1, rfl, h.2⟩
  rintro _ w2 ⟨rfl, hD2, hK2⟩
  have hDw2 : Hid (DiskI w2 D mb d1) := hD2
  have hS9 : KpS (TD D mb) w w2 := hS.trans hK2
  clear hS hD2 hK2
  have hS := hS9
  clear hS9
  refine ⟨hS, ?_⟩
  simp only [Act.put, fl1, fl2, fl3, fl4, fl5, fl6]
  refine held_take 6 rfl (by kernel_rfl) (by kernel_rfl) (by kernel_rfl) (.int .i64 (er : Int)) (fun _ _ _ h => nomatch h.1) (by kernel_rfl) (fun w' h => (by kernel_rfl)) hS ?_
  simp only [Act.put, fl1, fl2, fl3, fl4, fl5, fl6]
  have hKw2 : Hid (KpS (TD D mb) w w2) := hS
  clear hS hkl hDy hyw hn' hDw hd1H
  refine wpAnyH_done (by kernel_rfl) ?_ _
  refine ⟨rfl, ?_⟩
  rename_i hK
  refine hK _ _ ?_
  clear hK
  go_wp2_with fail
  go_ret
  exact ⟨rfl, hDw2.out, hKw2.out⟩
set_option maxRecDepth 100000 in
set_option maxHeartbeats 2000000 in
theorem app2_calls {w : World} {D mb : Nat} {d : DS} (h : DiskI w D mb d) (Bs : Nat) (hBs : bx w Bs (.func (.func 36) #[.pointer (some ⟨D, 0, none⟩)] #[]) 69) :
    Calls Try.prog 40 #[.pointer (some ⟨Bs, 0, none⟩)] w fun e w' => e = .returned (.int .i64 ((d.sync nLog).2 : Int)) ∧ DiskI w' D mb (d.sync nLog).1 ∧ KpS (TD D mb) w w' := by
  have hDw : Hid (DiskI w D mb d) := h
  have hbc := hBs.cell
  clear hBs
  obtain ⟨d1, er, hd1⟩ : ∃ p q, d.sync nLog = (p, q) := ⟨_, _, rfl⟩
  rw [hd1]
  have hd1H : Hid (d.sync nLog = (d1, er)) := hd1
  clear h hd1
  go_enter Try.func40, Try.ntmps40
  go_upto_region 1 with fail
  refine wp_region_lit ?_
  refine sl_run rfl (.func (.func 36) #[.pointer (some ⟨D, 0, none⟩)] #[]) w (exec_load_cell 69 w _ rfl ⟨Bs, 0, none⟩ (by kernel_rfl) _ (hbc) (fun _ => by kernel_rfl)) ?_
  simp only [Act.put, fl1, fl2, fl3]
  refine sg_call (by kernel_rfl) 36 #[.pointer (some ⟨D, 0, none⟩), .string nLog] (by kernel_rfl) (R := fun v w' => v = .int .i64 (er : Int) ∧ DiskI w' D mb d1 ∧ KpS (TD D mb) w w') ?hcc ?_
  case hcc =>
    have h8 := Sync_calls hDw.out nLog
    rw [hd1H.out] at h8
    exact h8.mono fun e w' h => ⟨_, h.1, rfl, h.2⟩
  rintro _ w2 ⟨rfl, hD2, hK2⟩
  simp only [Act.put, fl1, fl2, fl3]
  have hDw2 : Hid (DiskI w2 D mb d1) := hD2
  have hKw2 : Hid (KpS (TD D mb) w w2) := hK2
  clear hD2 hK2
  refine sl_run rfl (.int .i64 (er : Int)) w2 (by kernel_rfl) ?_
  simp only [Act.put, fl1, fl2, fl3]
  refine wpList_nil ?_
  clear hDw hd1H hbc
  go_wp2_with fail
  go_ret
  exact ⟨rfl, hDw2.out, hKw2.out⟩
set_option maxRecDepth 100000 in
set_option maxHeartbeats 2000000 in
theorem chk2_calls {w : World} {D mb : Nat} {d : DS} (h : DiskI w D mb d) (Bs : Nat) (hBs : bx w Bs (.func (.func 36) #[.pointer (some ⟨D, 0, none⟩)] #[]) 69) :
    Calls Try.prog 43 #[.pointer (some ⟨Bs, 0, none⟩)] w fun e w' => e = .returned (.int .i64 ((d.sync nNext).2 : Int)) ∧ DiskI w' D mb (d.sync nNext).1 ∧ KpS (TD D mb) w w' := by
  have hDw : Hid (DiskI w D mb d) := h
  have hbc := hBs.cell
  clear hBs
  obtain ⟨d1, er, hd1⟩ : ∃ p q, d.sync nNext = (p, q) := ⟨_, _, rfl⟩
  rw [hd1]
  have hd1H : Hid (d.sync nNext = (d1, er)) := hd1
  clear h hd1
  go_enter Try.func43, Try.ntmps43
  go_upto_region 1 with fail
  refine wp_region_lit ?_
  refine sl_run rfl (.func (.func 36) #[.pointer (some ⟨D, 0, none⟩)] #[]) w (exec_load_cell 69 w _ rfl ⟨Bs, 0, none⟩ (by kernel_rfl) _ (hbc) (fun _ => by kernel_rfl)) ?_
  simp only [Act.put, fl1, fl2, fl3]
  refine sg_call (by kernel_rfl) 36 #[.pointer (some ⟨D, 0, none⟩), .string nNext] (by kernel_rfl) (R := fun v w' => v = .int .i64 (er : Int) ∧ DiskI w' D mb d1 ∧ KpS (TD D mb) w w') ?hcc ?_
  case hcc =>
    have h8 := Sync_calls hDw.out nNext
    rw [hd1H.out] at h8
    exact h8.mono fun e w' h => ⟨_, h.1, rfl, h.2⟩
  rintro _ w2 ⟨rfl, hD2, hK2⟩
  simp only [Act.put, fl1, fl2, fl3]
  have hDw2 : Hid (DiskI w2 D mb d1) := hD2
  have hKw2 : Hid (KpS (TD D mb) w w2) := hK2
  clear hD2 hK2
  refine sl_run rfl (.int .i64 (er : Int)) w2 (by kernel_rfl) ?_
  simp only [Act.put, fl1, fl2, fl3]
  refine wpList_nil ?_
  clear hDw hd1H hbc
  go_wp2_with fail
  go_ret
  exact ⟨rfl, hDw2.out, hKw2.out⟩
set_option maxRecDepth 100000 in
set_option maxHeartbeats 2000000 in
theorem chk3_calls {w : World} {D mb : Nat} {d : DS} (h : DiskI w D mb d) (Bs : Nat) (hBs : bx w Bs (.func (.func 41) #[.pointer (some ⟨D, 0, none⟩)] #[]) 75) :
    Calls Try.prog 44 #[.pointer (some ⟨Bs, 0, none⟩)] w fun e w' => e = .returned (.int .i64 ((d.ren nameB nNext nSnap).2 : Int)) ∧ DiskI w' D mb (d.ren nameB nNext nSnap).1 ∧ KpS (TD D mb) w w' := by
  have hDw : Hid (DiskI w D mb d) := h
  have hbc := hBs.cell
  clear hBs
  obtain ⟨d1, er, hd1⟩ : ∃ p q, d.ren nameB nNext nSnap = (p, q) := ⟨_, _, rfl⟩
  rw [hd1]
  have hd1H : Hid (d.ren nameB nNext nSnap = (d1, er)) := hd1
  clear h hd1
  go_enter Try.func44, Try.ntmps44
  go_upto_region 1 with fail
  refine wp_region_lit ?_
  refine sl_run rfl (.func (.func 41) #[.pointer (some ⟨D, 0, none⟩)] #[]) w (exec_load_cell 75 w _ rfl ⟨Bs, 0, none⟩ (by kernel_rfl) _ (hbc) (fun _ => by kernel_rfl)) ?_
  simp only [Act.put, fl1, fl2, fl3]
  refine sg_call (by kernel_rfl) 41 #[.pointer (some ⟨D, 0, none⟩), .string nNext, .string nSnap] (by kernel_rfl) (R := fun v w' => v = .int .i64 (er : Int) ∧ DiskI w' D mb d1 ∧ KpS (TD D mb) w w') ?hcc ?_
  case hcc =>
    have h8 := Rename_calls hDw.out nNext nSnap
    rw [hd1H.out] at h8
    exact h8.mono fun e w' h => ⟨_, h.1, rfl, h.2⟩
  rintro _ w2 ⟨rfl, hD2, hK2⟩
  simp only [Act.put, fl1, fl2, fl3]
  have hDw2 : Hid (DiskI w2 D mb d1) := hD2
  have hKw2 : Hid (KpS (TD D mb) w w2) := hK2
  clear hD2 hK2
  refine sl_run rfl (.int .i64 (er : Int)) w2 (by kernel_rfl) ?_
  simp only [Act.put, fl1, fl2, fl3]
  refine wpList_nil ?_
  clear hDw hd1H hbc
  go_wp2_with fail
  go_ret
  exact ⟨rfl, hDw2.out, hKw2.out⟩
set_option maxRecDepth 100000 in
set_option maxHeartbeats 2000000 in
theorem chk1_calls {w : World} {D mb : Nat} {d : DS} (h : DiskI w D mb d) (Bw Bb : Nat) (hBw : bx w Bw (.func (.func 39) #[.pointer (some ⟨D, 0, none⟩)] #[]) 74) (A : Option Addr) (n c : Nat) (bs : List Nat) (hn : n = bs.length) (hn9 : n ≤ 500000000) (hBb : bx w Bb (.slice A n c) 22) (hy : Rw 1 encB w (.slice A n c) bs) :
    Calls Try.prog 42 #[.pointer (some ⟨Bw, 0, none⟩), .pointer (some ⟨Bb, 0, none⟩)] w fun e w' => e = .returned (.int .i64 ((d.app nameB nNext bs).2 : Int)) ∧ DiskI w' D mb (d.app nameB nNext bs).1 ∧ KpS (TD D mb) w w' := by
  have hDw : Hid (DiskI w D mb d) := h
  have hwc := hBw.cell
  have hbc := hBb.cell
  have hyw : Hid (Rw 1 encB w (.slice A n c) bs) := hy
  have hn' : Hid (n = bs.length) := hn
  clear hBw hBb hy hn
  obtain ⟨d1, er, hd1⟩ : ∃ p q, d.app nameB nNext bs = (p, q) := ⟨_, _, rfl⟩
  rw [hd1]
  have hd1H : Hid (d.app nameB nNext bs = (d1, er)) := hd1
  clear h hd1
  go_enter Try.func42, Try.ntmps42
  go_upto_region 1 with fail
  refine wp_region_lit ?_
  refine sl_run rfl (.func (.func 39) #[.pointer (some ⟨D, 0, none⟩)] #[]) w (exec_load_cell 74 w _ rfl ⟨Bw, 0, none⟩ (by kernel_rfl) _ (hwc) (fun _ => by kernel_rfl)) ?_
  simp only [Act.put, fl1, fl2, fl3]
  refine sl_run rfl (.slice A n c) w (exec_load_cell 22 w _ rfl ⟨Bb, 0, none⟩ (by kernel_rfl) _ (hbc) (fun _ => by kernel_rfl)) ?_
  simp only [Act.put, fl1, fl2, fl3]
  refine sg_call (by kernel_rfl) 39 #[.pointer (some ⟨D, 0, none⟩), .string nNext, .slice A n c] (by kernel_rfl) (R := fun v w' => v = .int .i64 (er : Int) ∧ DiskI w' D mb d1 ∧ KpS (TD D mb) w w') ?hcc ?_
  case hcc =>
    have h8 := Append_calls hDw.out nNext bs A n c hn'.out hn9 hyw.out
    rw [hd1H.out] at h8
    exact h8.mono fun e w' h => ⟨_, h.1, rfl, h.2⟩
  rintro _ w2 ⟨rfl, hD2, hK2⟩
  simp only [Act.put, fl1, fl2, fl3]
  have hDw2 : Hid (DiskI w2 D mb d1) := hD2
  have hKw2 : Hid (KpS (TD D mb) w w2) := hK2
  clear hD2 hK2
  refine sl_run rfl (.int .i64 (er : Int)) w2 (by kernel_rfl) ?_
  simp only [Act.put, fl1, fl2, fl3]
  refine wpList_nil ?_
  clear hDw hd1H hbc hwc hyw hn'
  go_wp2_with fail
  go_ret
  exact ⟨rfl, hDw2.out, hKw2.out⟩
set_option maxRecDepth 100000 in
set_option maxHeartbeats 2000000 in
theorem chk4_calls {w : World} {D mb : Nat} {d : DS} (h : DiskI w D mb d) (Bl Lg : Nat) (hBl : bx w Bl (.pointer (some ⟨Lg, 0, none⟩)) 41) (v : Value) (b : Bool) (hLg : w.heap[Lg]? = some (.cells #[.pointer (some ⟨D, 0, none⟩), v, .bool b] 71 (0, 0))) :
    Calls Try.prog 45 #[.pointer (some ⟨Bl, 0, none⟩)] w fun e w' => e = .returned (.int .i64 ((cut0 d).2 : Int)) ∧ DiskI w' D mb (cut0 d).1 ∧ KpS (TD D mb) w w' := by
  have hDw : Hid (DiskI w D mb d) := h
  have hlc := hBl.cell
  have hgc : w.cell? ⟨Lg, 0, none⟩ = some (.pointer (some ⟨D, 0, none⟩)) := by rw [cell_of_row _ _ _ _ _ _ hLg]; rfl
  clear hBl hLg
  obtain ⟨d1, er, hd1⟩ : ∃ p q, d.cut nLog 0 = (p, q) := ⟨_, _, rfl⟩
  have hd1H : Hid (d.cut nLog 0 = (d1, er)) := hd1
  obtain ⟨T, hT⟩ : ∃ T, T = cut0 d := ⟨_, rfl⟩
  rw [← hT]
  have hTH : Hid (T = if er = 4 then (d1, 0) else (d1, er)) := by
    show _ = _
    rw [hT]; unfold cut0; rw [hd1]
  clear h hd1 hT
  go_enter Try.func45, Try.ntmps45
  go_upto_region 1 with fail
  refine wp_region_lit ?_
  refine sl_run rfl (.pointer (some ⟨Lg, 0, none⟩)) w (exec_load_cell 41 w _ rfl ⟨Bl, 0, none⟩ (by kernel_rfl) _ (hlc) (fun _ => by kernel_rfl)) ?_
  simp only [Act.put, fl1, fl2, fl3]
  refine sl_run rfl (.pointer (some ⟨Lg, 0, none⟩)) w (by kernel_rfl) ?_
  simp only [Act.put, fl1, fl2, fl3]
  refine sl_run rfl (.pointer (some ⟨Lg, 0, none⟩)) w (by kernel_rfl) ?_
  simp only [Act.put, fl1, fl2, fl3]
  refine sl_run rfl (.pointer (some ⟨D, 0, none⟩)) w (exec_load_cell 39 w _ rfl ⟨Lg, 0, none⟩ (by kernel_rfl) _ (hgc) (fun _ => by kernel_rfl)) ?_
  simp only [Act.put, fl1, fl2, fl3]
  refine sg_call (by kernel_rfl) 35 #[.pointer (some ⟨D, 0, none⟩), .string nLog, .int .i64 0] (by kernel_rfl) (R := fun v w' => v = .int .i64 (er : Int) ∧ DiskI w' D mb d1 ∧ KpS (TD D mb) w w') ?hcc ?_
  case hcc =>
    have h8 := Cut_calls hDw.out nLog 0
    rw [hd1H.out] at h8
    exact h8.mono fun e w' h => ⟨_, h.1, rfl, h.2⟩
  rintro _ w2 ⟨rfl, hD2, hK2⟩
  simp only [Act.put, fl1, fl2, fl3]
  have hDw2 : Hid (DiskI w2 D mb d1) := hD2
  have hKw2 : Hid (KpS (TD D mb) w w2) := hK2
  clear hD2 hK2
  refine sl_run rfl (.int .i64 (er : Int)) w2 (by kernel_rfl) ?_
  simp only [Act.put, fl1, fl2, fl3]
  refine wpList_nil ?_
  clear hDw hd1H hlc hgc
  by_cases h4 : er = 4
  case pos =>
    have hT2 : T = (d1, 0) := by rw [hTH.out, if_pos h4]
    clear hTH
    subst hT2
    go_upto_region 2 with fail
    refine wp_region_lit ?_
    refine sl_run rfl (.int .i64 (er : Int)) w2 (by kernel_rfl) ?_
    simp only [Act.put, fl1, fl2, fl3]
    refine sl_run rfl (.bool false) w2 (exec_nen _ _ _ rfl er 4 (by kernel_rfl) (by kernel_rfl) false (decide_eq_false (fun h => h h4))) ?_
    simp only [Act.put, fl1, fl2, fl3]
    refine wpList_nil ?_
    clear h4
    go_wp2_with fail
    go_ret
    exact ⟨rfl, hDw2.out, hKw2.out⟩
  case neg =>
    have hT2 : T = (d1, er) := by rw [hTH.out, if_neg h4]
    clear hTH
    subst hT2
    go_upto_region 2 with fail
    refine wp_region_lit ?_
    refine sl_run rfl (.int .i64 (er : Int)) w2 (by kernel_rfl) ?_
    simp only [Act.put, fl1, fl2, fl3]
    refine sl_run rfl (.bool true) w2 (exec_nen _ _ _ rfl er 4 (by kernel_rfl) (by kernel_rfl) true (decide_eq_true h4)) ?_
    simp only [Act.put, fl1, fl2, fl3]
    refine wpList_nil ?_
    clear h4
    go_wp2_with fail
    go_ret
    exact ⟨rfl, hDw2.out, hKw2.out⟩
end Go.Proofs.Ytdkaaieenbmihaa
namespace Go.Proofs.Ytdkaaieenbmihaa
open Go.RowKit
open Sha (vals Bytes Lies bytesC sumB)
open Go.Proofs.Ytdkaaieenbmihaa.Pure (nameB)
theorem new_cell (W : World) (ty : TypeId) (z v : Value) : bx ((W.alloc (.cells #[z] ty)).setCell ⟨W.heap.size, 0, none⟩ v) W.heap.size v ty := by
  unfold bx
  rw [setCell_eq_setRow _ _ 0 _ _ (0, 0) _ (heap_alloc_new _ _)]
  exact setRow_heap _ _ _ _ _ _ (heap_alloc_new _ _)
def appW (d : DS) (g : LG) (p : List Nat) : DS × LG × Nat :=
  if g.dead = true then (d, g, 20)
  else if (recS ((g.ps.length + 1 : Nat) : Int) p).2 ≠ 0 then (d, g, (recS ((g.ps.length + 1 : Nat) : Int) p).2)
  else
    if (actsS [fun d => d.app nameB nLog (recS ((g.ps.length + 1 : Nat) : Int) p).1, fun d => d.sync nLog] d).2 = 0 then ((actsS [fun d => d.app nameB nLog (recS ((g.ps.length + 1 : Nat) : Int) p).1, fun d => d.sync nLog] d).1, ⟨g.ps ++ [p], false⟩, 0)
    else ((actsS [fun d => d.app nameB nLog (recS ((g.ps.length + 1 : Nat) : Int) p).1, fun d => d.sync nLog] d).1, ⟨g.ps, decide ((actsS [fun d => d.app nameB nLog (recS ((g.ps.length + 1 : Nat) : Int) p).1, fun d => d.sync nLog] d).2 = 20)⟩, (actsS [fun d => d.app nameB nLog (recS ((g.ps.length + 1 : Nat) : Int) p).1, fun d => d.sync nLog] d).2)
/-- Bytes lie in no block without bytes. -/
theorem rw_apart {w : World} {u : Value} {p : List Nat} (hr : Rw 1 encB w u p) (hp : p ≠ []) {q : Nat} (hq : u.ownBlock = some q) {cs : Array Value} {t : TypeId} {fr : Nat × Nat} (hc : w.heap[q]? = some (.cells cs t fr)) : ∃ n : Int, Value.int .u8 n ∈ cs.toList := by
  obtain ⟨A, c, rfl⟩ := hr.form
  have h0 : 0 < p.length := List.length_pos_iff.2 hp
  obtain ⟨g, o, rfl, _, _, hel⟩ := hr.elem 0 h0
  have hg : g = q := by simp [Value.ownBlock] at hq; exact hq
  subst hg
  have h1 := hel 0 (.int .u8 ((p.getD 0 default : Nat) : Int)) rfl
  rw [cell_of_row _ _ _ _ _ _ hc] at h1
  exact ⟨_, by rw [Array.getElem?_eq_some_iff] at h1; obtain ⟨h2, h3⟩ := h1; rw [← h3]; exact Array.mem_toList_iff.2 (Array.getElem_mem h2)⟩
/-- A disk stays where one block is written that is not its own and holds no bytes. -/
theorem DiskI.grown {w w' : World} {D mb G : Nat} {d : DS} {cs : Array Value} {t : TypeId} (h : DiskI w D mb d) (hG : w.heap[G]? = some (.cells cs t (0, 0))) (ht : t ≠ 66) (hb : ∀ n : Int, Value.int .u8 n ∉ cs.toList)
    (hs : w.heap.size ≤ w'.heap.size) (hk : ∀ k, k < w.heap.size → k ≠ G → w'.heap[k]? = w.heap[k]?) : DiskI w' D mb d := by
  have hne := rw_other h hG ht
  have h1 : D ≠ G := fun e => hne (.inl e.symm)
  have h2 : mb ≠ G := fun e => hne (.inr e.symm)
  obtain ⟨hrow, ⟨L, hm, hl, hr⟩, hfi, hl1, hl2⟩ := h
  refine ⟨(hk D (Array.getElem?_eq_some_iff.1 hrow).1 h1).trans hrow, ⟨L, hm.kept (hk mb hm.lt h2), hl, fun p hp => ?_⟩, hfi, hl1, hl2⟩
  refine (hr p hp).kept hs (fun hne0 q hq => hk q ((hr p hp).lt hne0 q hq) (fun e => ?_))
  subst e
  obtain ⟨n, hn⟩ := rw_apart (hr p hp) hne0 hq hG
  exact hb n hn
theorem no_bytes {A : Addr} {Av : Option Addr} {np cv : Nat} {b : Bool} : ∀ n : Int, Value.int .u8 n ∉ (#[Value.pointer (some A), .slice Av np cv, .bool b] : Array Value).toList := by simp
theorem DiskI.grownP {w w' : World} {D mb base : Nat} {d : DS} {v : Value} {ps : List (List Nat)} (h : DiskI w D mb d) (hp : PLo w base v ps) (hg : w.grownBy w' v.ownBlock) : DiskI w' D mb d := by
  obtain ⟨us, ⟨h1, hS⟩, _⟩ := hp
  cases hq : v.ownBlock with
  | none =>
    rw [hq] at hg
    exact h.below ⟨hg.os, hg.tape, hg.output, hg.size, fun k hk => hg.block k hk (by simp)⟩
  | some G =>
    rw [hq] at hg
    obtain ⟨cs, hc, hsl⟩ := hS G hq
    exact h.grown hc (by decide) (fun n hn => by obtain ⟨_, _, _, e⟩ := hsl _ hn; cases e) hg.size (fun k hk hne => hg.block k hk (fun e => hne (Option.some.inj e)))
theorem setL_kp (w : World) (Lg k : Nat) (x : Value) : ∀ j, j < w.heap.size → j ≠ Lg → (w.setCell ⟨Lg, k, none⟩ x).heap[j]? = w.heap[j]? := fun j _ hne => Below.heap_setCell _ _ _ _ (fun e => hne e)
/-- The log's mark is set. -/
theorem LogI.mark {w : World} {B D mb Lg : Nat} {d : DS} {g : LG} (h : LogI w B D mb Lg d g) (b : Bool) : LogI (w.setCell ⟨Lg, 2, none⟩ (.bool b)) B D mb Lg d ⟨g.ps, b⟩ := by
  obtain ⟨v, hr, hp⟩ := h.row
  obtain ⟨Av, cv, rfl⟩ := hp.form
  have hs : (w.setCell ⟨Lg, 2, none⟩ (.bool b)).heap.size = w.heap.size := by simp [World.setCell]
  refine ⟨⟨_, ?_, hp.kept hr (by decide) (by decide) ⟨rfl, rfl, rfl, by rw [hs]; exact Nat.le_refl _, fun j hj hne => setL_kp _ _ _ _ j hj (fun e => hne (by rw [e]))⟩⟩, h.disk.grown hr (by decide) no_bytes (by rw [hs]; exact Nat.le_refl _) (setL_kp _ _ _ _), h.lo.1, h.lo.2.1, h.lo.2.2.1, by rw [hs]; exact h.lo.2.2.2⟩
  rw [setCell_eq_setRow w Lg 2 _ _ (0, 0) _ hr]
  exact setRow_heap _ _ _ _ _ _ hr
/-- The log's list is set. -/
theorem LogI.list {w : World} {B D mb Lg : Nat} {d : DS} {ps : List (List Nat)} {b : Bool} {A : Addr} {Av Av' : Option Addr} {np cv np' cv' : Nat} (hr : w.heap[Lg]? = some (.cells #[.pointer (some ⟨D, 0, none⟩), .slice Av np cv, .bool b] 71 (0, 0))) (hp : PLo w B (.slice Av' np' cv') ps) (hD : DiskI w D mb d) (hlo : B ≤ D ∧ B ≤ mb ∧ B ≤ Lg ∧ B ≤ w.heap.size) : LogI (w.setCell ⟨Lg, 1, none⟩ (.slice Av' np' cv')) B D mb Lg d ⟨ps, b⟩ := by
  have hs : (w.setCell ⟨Lg, 1, none⟩ (.slice Av' np' cv')).heap.size = w.heap.size := by simp [World.setCell]
  refine ⟨⟨.slice Av' np' cv', ?_, hp.kept hr (by decide) (by decide) ⟨rfl, rfl, rfl, by rw [hs]; exact Nat.le_refl _, fun j hj hne => setL_kp _ _ _ _ j hj (fun e => hne (by rw [e]))⟩⟩, hD.grown hr (by decide) no_bytes (by rw [hs]; exact Nat.le_refl _) (setL_kp _ _ _ _), hlo.1, hlo.2.1, hlo.2.2.1, by rw [hs]; exact hlo.2.2.2⟩
  rw [setCell_eq_setRow w Lg 1 _ _ (0, 0) _ hr]
  exact setRow_heap _ _ _ _ _ _ hr
theorem recS_len (n : Int) (p : List Nat) : (recS n p).1.length ≤ 9000 := by
  unfold recS
  split
  · simp
  · split
    · simp
    · unfold recB
      simp only [List.length_append, numB_len, List.length_take, Sha.sumB_length, List.length_singleton]
      omega
set_option maxRecDepth 100000 in
set_option maxHeartbeats 16000000 in
theorem LAppend_calls {w : World} {B D mb Lg : Nat} {d : DS} {g : LG} (h : LogI w B D mb Lg d g) (hgl : g.ps.length ≤ 1000000) (p : List Nat) (hpb : ∀ x ∈ p, x < 256) (A : Option Addr) (m c : Nat) (hm : m = p.length) (hm9 : m ≤ 1000000000) (hy : Rw 1 encB w (.slice A m c) p) :
    Calls Try.prog 17 #[.pointer (some ⟨Lg, 0, none⟩), .slice A m c] w fun e w' => e = .returned (.int .i64 ((appW d g p).2.2 : Int)) ∧ LogI w' B D mb Lg (appW d g p).1 (appW d g p).2.1 ∧ Below B w w' := by
  obtain ⟨T, hT⟩ : ∃ T, T = appW d g p := ⟨_, rfl⟩
  rw [← hT]
  have hTH : Hid (T = appW d g p) := hT
  obtain ⟨v, hr, hp⟩ := h.row
  obtain ⟨Av, cv, rfl⟩ := hp.form
  obtain ⟨np, hnp⟩ : ∃ k, k = g.ps.length := ⟨_, rfl⟩
  rw [← hnp] at hr hp hgl
  obtain ⟨b, hbd⟩ : ∃ b, b = g.dead := ⟨_, rfl⟩
  rw [← hbd] at hr
  have hnpH : Hid (np = g.ps.length) := hnp
  have hbdH : Hid (b = g.dead) := hbd
  have hlo := h.lo
  have hBle : Hid (B ≤ w.heap.size) := hlo.2.2.2
  have hrw : Hid (w.heap[Lg]? = some (.cells #[.pointer (some ⟨D, 0, none⟩), .slice Av np cv, .bool b] 71 (0, 0))) := hr
  have hpw : Hid (PLo w B (.slice Av np cv) g.ps) := hp
  have hDw : Hid (DiskI w D mb d) := h.disk
  have hBw : Hid (Below B w w) := Below.refl _ _
  have hyw : Hid (Rw 1 encB w (.slice A m c) p) := hy
  have hm' : Hid (m = p.length) := hm
  have hpbH : Hid (∀ x ∈ p, x < 256) := hpb
  have hloH : Hid (B ≤ D ∧ B ≤ mb ∧ B ≤ Lg) := And.intro hlo.1 (And.intro hlo.2.1 hlo.2.2.1)
  clear hr hp h hT hnp hbd hy hm hlo hpb
  go_enter Try.func17, Try.ntmps17
  go_upto_region 1 with fail
  generalize hX : World.alloc _ _ = w1
  have hb : Below w.heap.size w w1 := by rw [← hX]; exact (Below.refl _ _).alloc (Nat.le_refl _) _
  obtain ⟨Bl, hBe⟩ : ∃ Bl, Bl = w.heap.size := ⟨_, rfl⟩
  have hb9 : bx w1 Bl (.pointer (some ⟨Lg, 0, none⟩)) 41 := by rw [← hX, hBe]; exact heap_alloc_new _ _
  rw [← hBe]
  clear hX hBe
  have hBw1 : Hid (Below B w w1) := (hBw.out).trans ((hb).mono (Nat.le_trans hBle.out (hBw.out).size))
  have hrw1 : Hid (w1.heap[Lg]? = some (.cells #[.pointer (some ⟨D, 0, none⟩), .slice Av np cv, .bool b] 71 (0, 0))) := heap_kept (hrw.out) hb
  have hpw1 : Hid (PLo w1 B (.slice Av np cv) g.ps) := (hpw.out).below hb
  have hDw1 : Hid (DiskI w1 D mb d) := (hDw.out).below hb
  have hyw1 : Hid (Rw 1 encB w1 (.slice A m c) (p)) := (hyw.out).below hb
  clear hBw hrw hpw hDw hyw
  have hlw1 : Hid (bx w1 Bl (.pointer (some ⟨Lg, 0, none⟩)) 41) := hb9
  clear hb9 hb
  cases b with
  | true =>
    go_upto_region 1 with fail
    refine wp_region_lit ?_
    refine sl_run rfl (.pointer (some ⟨Lg, 0, none⟩)) w1 (exec_load_cell 41 w1 _ rfl ⟨Bl, 0, none⟩ (by kernel_rfl) _ (hlw1.out.cell) (fun _ => by kernel_rfl)) ?_
    simp only [Act.put, fl1, fl2, fl3]
    refine sl_run rfl (.bool false) w1 (by kernel_rfl) ?_
    simp only [Act.put, fl1, fl2, fl3]
    refine sl_run rfl (.bool false) w1 (by kernel_rfl) ?_
    simp only [Act.put, fl1, fl2, fl3]
    refine sg_run (by kernel_rfl) (.pointer (some ⟨Lg, 0, none⟩)) w1 (exec_load_cell 41 w1 _ rfl ⟨Bl, 0, none⟩ (by kernel_rfl) _ (hlw1.out.cell) (fun _ => by kernel_rfl)) ?_
    simp only [Act.put, fl1, fl2, fl3]
    refine sg_run (by kernel_rfl) (.pointer (some ⟨Lg, 0, none⟩)) w1 (by kernel_rfl) ?_
    simp only [Act.put, fl1, fl2, fl3]
    refine sg_run (by kernel_rfl) (.pointer (some ⟨Lg, 2, none⟩)) w1 (by kernel_rfl) ?_
    simp only [Act.put, fl1, fl2, fl3]
    refine sg_run (by kernel_rfl) (.bool true) w1 (exec_load_cell 4 w1 _ rfl ⟨Lg, 2, none⟩ (by kernel_rfl) _ (by rw [cell_of_row _ _ _ _ _ _ hrw1.out]; rfl) (fun _ => by kernel_rfl)) ?_
    simp only [Act.put, fl1, fl2, fl3]
    refine sl_run rfl (.bool true) w1 (by kernel_rfl) ?_
    simp only [Act.put, fl1, fl2, fl3]
    refine wpList_nil ?_
    have hT9 : T = (d, g, 20) := by
      rw [hTH.out]; unfold appW; rw [if_pos hbdH.out.symm]
    have hL9 : Hid (LogI w1 B D mb Lg d g) := by
      refine ⟨⟨_, ?_, hpw1.out⟩, hDw1.out, hloH.out.1, hloH.out.2.1, hloH.out.2.2, Nat.le_trans hBle.out hBw1.out.size⟩
      rw [← hbdH.out]; exact hrw1.out
    have hT2 : Hid (T = (d, g, 20)) := hT9
    clear hT9
    have hF1 : Hid (Below B w w1) := hBw1
    have hF2 := hL9
    clear hL9 hBw1 hrw1 hpw1 hDw1 hyw1 hlw1
    clear hTH hnpH hbdH hm' hpbH hloH hBle
    go_wp2_with fail
    go_ret
    refine ⟨?_, ?_, hF1.out⟩
    · rw [hT2.out]; rfl
    · rw [hT2.out]; exact hF2.out
  | false =>
    go_upto_region 1 with fail
    refine wp_region_lit ?_
    refine sl_run rfl (.pointer (some ⟨Lg, 0, none⟩)) w1 (exec_load_cell 41 w1 _ rfl ⟨Bl, 0, none⟩ (by kernel_rfl) _ (hlw1.out.cell) (fun _ => by kernel_rfl)) ?_
    simp only [Act.put, fl1, fl2, fl3]
    refine sl_run rfl (.bool false) w1 (by kernel_rfl) ?_
    simp only [Act.put, fl1, fl2, fl3]
    refine sl_run rfl (.bool false) w1 (by kernel_rfl) ?_
    simp only [Act.put, fl1, fl2, fl3]
    refine sg_run (by kernel_rfl) (.pointer (some ⟨Lg, 0, none⟩)) w1 (exec_load_cell 41 w1 _ rfl ⟨Bl, 0, none⟩ (by kernel_rfl) _ (hlw1.out.cell) (fun _ => by kernel_rfl)) ?_
    simp only [Act.put, fl1, fl2, fl3]
    refine sg_run (by kernel_rfl) (.pointer (some ⟨Lg, 0, none⟩)) w1 (by kernel_rfl) ?_
    simp only [Act.put, fl1, fl2, fl3]
    refine sg_run (by kernel_rfl) (.pointer (some ⟨Lg, 2, none⟩)) w1 (by kernel_rfl) ?_
    simp only [Act.put, fl1, fl2, fl3]
    refine sg_run (by kernel_rfl) (.bool false) w1 (exec_load_cell 4 w1 _ rfl ⟨Lg, 2, none⟩ (by kernel_rfl) _ (by rw [cell_of_row _ _ _ _ _ _ hrw1.out]; rfl) (fun _ => by kernel_rfl)) ?_
    simp only [Act.put, fl1, fl2, fl3]
    refine sl_run rfl (.bool false) w1 (by kernel_rfl) ?_
    simp only [Act.put, fl1, fl2, fl3]
    refine wpList_nil ?_
    obtain ⟨bs, er, hrec⟩ : ∃ x y, recS ((np + 1 : Nat) : Int) p = (x, y) := ⟨_, _, rfl⟩
    have hrecH : Hid (recS ((np + 1 : Nat) : Int) p = (bs, er)) := hrec
    have hbl9 : bs.length ≤ 9000 := by have := recS_len ((np + 1 : Nat) : Int) p; rw [hrec] at this; exact this
    have hTv : Hid (T = if er ≠ 0 then (d, g, er) else if (actsS [fun d => d.app nameB nLog bs, fun d => d.sync nLog] d).2 = 0 then ((actsS [fun d => d.app nameB nLog bs, fun d => d.sync nLog] d).1, ⟨g.ps ++ [p], false⟩, 0)
        else ((actsS [fun d => d.app nameB nLog bs, fun d => d.sync nLog] d).1, ⟨g.ps, decide ((actsS [fun d => d.app nameB nLog bs, fun d => d.sync nLog] d).2 = 20)⟩, (actsS [fun d => d.app nameB nLog bs, fun d => d.sync nLog] d).2)) := by
      show _ = _
      rw [hTH.out]; unfold appW
      rw [← hnpH.out, hrec, if_neg (by rw [← hbdH.out]; decide)]
    clear hrec
    go_upto_region 3 with fail
    refine wp_region_lit ?_
    refine sl_run rfl (.pointer (some ⟨Lg, 0, none⟩)) w1 (exec_load_cell 41 w1 _ rfl ⟨Bl, 0, none⟩ (by kernel_rfl) _ (hlw1.out.cell) (fun _ => by kernel_rfl)) ?_
    simp only [Act.put, fl1, fl2, fl3]
    refine sl_run rfl (.pointer (some ⟨Lg, 0, none⟩)) w1 (by kernel_rfl) ?_
    simp only [Act.put, fl1, fl2, fl3]
    refine sl_run rfl (.pointer (some ⟨Lg, 1, none⟩)) w1 (by kernel_rfl) ?_
    simp only [Act.put, fl1, fl2, fl3]
    refine sl_run rfl (.slice Av np cv) w1 (exec_load_cell 30 w1 _ rfl ⟨Lg, 1, none⟩ (by kernel_rfl) _ (by rw [cell_of_row _ _ _ _ _ _ hrw1.out]; rfl) (fun _ => by kernel_rfl)) ?_
    simp only [Act.put, fl1, fl2, fl3]
    refine sl_run rfl (.int .i64 (np : Int)) w1 (by kernel_rfl) ?_
    simp only [Act.put, fl1, fl2, fl3]
    refine sl_run rfl (.int .i64 ((np + 1 : Nat) : Int)) w1 ((exec_add2 _ _ rfl (np : Int) 1 (by kernel_rfl) (by kernel_rfl) (by omega) (by omega) _).trans (by rw [Int.natCast_add]; rfl)) ?_
    simp only [Act.put, fl1, fl2, fl3]
    refine sl_run rfl (.slice A m c) w1 (by kernel_rfl) ?_
    simp only [Act.put, fl1, fl2, fl3]
    refine sg_call (by kernel_rfl) 10 #[.int .i64 ((np + 1 : Nat) : Int), .slice A m c] (by kernel_rfl) (R := fun u w' => ∃ v, u = .tuple #[v, .int .i64 (er : Int)] ∧ Rw 1 encB w' v bs ∧ Below w1.heap.size w1 w') ?hrc ?_
    case hrc =>
      have h8 := Record_calls ((np + 1 : Nat) : Int) (by omega) p hpbH.out A m c hm'.out hm9 w1 hyw1.out
      rw [hrecH.out] at h8
      exact h8.mono fun e w' h => by
        obtain ⟨v, h1, h2, h3⟩ := h
        exact ⟨_, h1, v, rfl, h2, h3⟩
    rintro _ w2 ⟨r9, rfl, hr0, hb⟩
    simp only [Act.put, fl1, fl2, fl3]
    have hBw2 : Hid (Below B w w2) := (hBw1.out).trans ((hb).mono (Nat.le_trans hBle.out (hBw1.out).size))
    have hrw2 : Hid (w2.heap[Lg]? = some (.cells #[.pointer (some ⟨D, 0, none⟩), .slice Av np cv, .bool false] 71 (0, 0))) := heap_kept (hrw1.out) hb
    have hpw2 : Hid (PLo w2 B (.slice Av np cv) g.ps) := (hpw1.out).below hb
    have hDw2 : Hid (DiskI w2 D mb d) := (hDw1.out).below hb
    have hyw2 : Hid (Rw 1 encB w2 (.slice A m c) (p)) := (hyw1.out).below hb
    have hlw2 : Hid (bx w2 Bl (.pointer (some ⟨Lg, 0, none⟩)) 41) := heap_kept (hlw1.out) hb
    clear hBw1 hrw1 hpw1 hDw1 hyw1 hlw1
    obtain ⟨A5, c5, rfl⟩ := hr0.form
    obtain ⟨n5, hn5⟩ : ∃ k, k = bs.length := ⟨_, rfl⟩
    rw [← hn5] at hr0 ⊢
    have hn5H : Hid (n5 = bs.length) := hn5
    have hbsw2 : Hid (Rw 1 encB w2 (.slice A5 n5 c5) bs) := hr0
    clear hr0 hb hn5
    refine sl_run rfl (.tuple #[.slice A5 n5 c5, .int .i64 (er : Int)]) w2 (by kernel_rfl) ?_
    simp only [Act.put, fl1, fl2, fl3]
    refine sl_run rfl (.slice A5 n5 c5) w2 (by kernel_rfl) ?_
    simp only [Act.put, fl1, fl2, fl3]
    refine sl_run rfl (.int .i64 (er : Int)) w2 (by kernel_rfl) ?_
    simp only [Act.put, fl1, fl2, fl3]
    refine sl_run rfl (.pointer (some ⟨w2.heap.size, 0, none⟩)) (w2.alloc (.cells #[.slice none 0 0] 22)) (by kernel_rfl) ?_
    simp only [Act.put, fl1, fl2, fl3]
    refine sl_skipped (by kernel_rfl) ((w2.alloc (.cells #[.slice none 0 0] 22)).setCell ⟨w2.heap.size, 0, none⟩ (.slice A5 n5 c5)) ?hst1 ?_
    case hst1 => exact exec_store_cell 22 _ _ rfl w2.heap.size 0 (by kernel_rfl) (.slice A5 n5 c5) (by kernel_rfl) (.slice none 0 0) (by rw [cell_of_row _ _ _ _ _ _ (heap_alloc_new _ _)]; rfl) (frozen_of_row _ _ _ _ _ (heap_alloc_new _ _)) (fun w => by kernel_rfl) (by rfl) rfl
    simp only [Act.put, fl1, fl2, fl3]
    have hb9 := new_cell w2 22 (.slice none 0 0) (.slice A5 n5 c5)
    have hb : Below w2.heap.size w2 ((w2.alloc (.cells #[.slice none 0 0] 22)).setCell ⟨w2.heap.size, 0, none⟩ (.slice A5 n5 c5)) := ((Below.refl _ _).alloc (Nat.le_refl _) _).setCell (Nat.le_refl _) _
    generalize ((w2.alloc (.cells #[.slice none 0 0] 22)).setCell ⟨w2.heap.size, 0, none⟩ (.slice A5 n5 c5)) = w3 at hb9 hb ⊢
    obtain ⟨Bb, hBe⟩ : ∃ Bb, Bb = w2.heap.size := ⟨_, rfl⟩
    rw [← hBe] at hb9 ⊢
    clear hBe
    have hBw3 : Hid (Below B w w3) := (hBw2.out).trans ((hb).mono (Nat.le_trans hBle.out (hBw2.out).size))
    have hrw3 : Hid (w3.heap[Lg]? = some (.cells #[.pointer (some ⟨D, 0, none⟩), .slice Av np cv, .bool false] 71 (0, 0))) := heap_kept (hrw2.out) hb
    have hpw3 : Hid (PLo w3 B (.slice Av np cv) g.ps) := (hpw2.out).below hb
    have hDw3 : Hid (DiskI w3 D mb d) := (hDw2.out).below hb
    have hyw3 : Hid (Rw 1 encB w3 (.slice A m c) (p)) := (hyw2.out).below hb
    have hlw3 : Hid (bx w3 Bl (.pointer (some ⟨Lg, 0, none⟩)) 41) := heap_kept (hlw2.out) hb
    have hbsw3 : Hid (Rw 1 encB w3 (.slice A5 n5 c5) (bs)) := (hbsw2.out).below hb
    clear hBw2 hrw2 hpw2 hDw2 hyw2 hlw2 hbsw2
    have hbbw3 : Hid (bx w3 Bb (.slice A5 n5 c5) 22) := hb9
    clear hb9 hb
    refine sl_run rfl (.int .i64 (er : Int)) w3 (by kernel_rfl) ?_
    simp only [Act.put, fl1, fl2, fl3]
    refine wpList_nil ?_
    by_cases hz : er = 0
    case neg =>
      go_upto_region 4 with fail
      refine wp_region_lit ?_
      refine sl_run rfl (.int .i64 (er : Int)) w3 (by kernel_rfl) ?_
      simp only [Act.put, fl1, fl2, fl3]
      refine sl_run rfl (.bool true) w3 (exec_nen _ _ _ rfl er 0 (by kernel_rfl) (by kernel_rfl) true (decide_eq_true hz)) ?_
      simp only [Act.put, fl1, fl2, fl3]
      refine wpList_nil ?_
      have hT9 : T = (d, g, er) := by rw [hTv.out, if_pos hz]
      have hL9 : Hid (LogI w3 B D mb Lg d g) := by
        refine ⟨⟨_, ?_, hpw3.out⟩, hDw3.out, hloH.out.1, hloH.out.2.1, hloH.out.2.2, Nat.le_trans hBle.out hBw3.out.size⟩
        rw [← hbdH.out]; exact hrw3.out
      clear hTv hrecH hn5H
      have hT2 : Hid (T = (d, g, er)) := hT9
      clear hT9
      have hF1 : Hid (Below B w w3) := hBw3
      have hF2 := hL9
      clear hL9 hBw3 hrw3 hpw3 hDw3 hyw3 hlw3 hbsw3 hbbw3
      clear hTH hnpH hbdH hm' hpbH hloH hBle
      go_wp2_with fail
      go_ret
      refine ⟨?_, ?_, hF1.out⟩
      · rw [hT2.out]; rfl
      · rw [hT2.out]; exact hF2.out
    case pos =>
    go_upto_region 4 with fail
    refine wp_region_lit ?_
    refine sl_run rfl (.int .i64 (er : Int)) w3 (by kernel_rfl) ?_
    simp only [Act.put, fl1, fl2, fl3]
    refine sl_run rfl (.bool false) w3 (exec_nen _ _ _ rfl er 0 (by kernel_rfl) (by kernel_rfl) false (decide_eq_false (fun h => h hz))) ?_
    simp only [Act.put, fl1, fl2, fl3]
    refine wpList_nil ?_
    go_upto_region 6 with fail
    refine wp_region_lit ?_
    refine sl_run rfl (.pointer (some ⟨Lg, 0, none⟩)) w3 (exec_load_cell 41 w3 _ rfl ⟨Bl, 0, none⟩ (by kernel_rfl) _ (hlw3.out.cell) (fun _ => by kernel_rfl)) ?_
    simp only [Act.put, fl1, fl2, fl3]
    refine sl_run rfl (.pointer (some ⟨Lg, 0, none⟩)) w3 (by kernel_rfl) ?_
    simp only [Act.put, fl1, fl2, fl3]
    refine sl_run rfl (.pointer (some ⟨Lg, 0, none⟩)) w3 (by kernel_rfl) ?_
    simp only [Act.put, fl1, fl2, fl3]
    refine sl_run rfl (.pointer (some ⟨D, 0, none⟩)) w3 (exec_load_cell 39 w3 _ rfl ⟨Lg, 0, none⟩ (by kernel_rfl) _ (by rw [cell_of_row _ _ _ _ _ _ hrw3.out]; rfl) (fun _ => by kernel_rfl)) ?_
    simp only [Act.put, fl1, fl2, fl3]
    refine sl_run rfl (.func (.func 36) #[.pointer (some ⟨D, 0, none⟩)] #[]) w3 (by kernel_rfl) ?_
    simp only [Act.put, fl1, fl2, fl3]
    refine sl_run rfl (.pointer (some ⟨w3.heap.size, 0, none⟩)) (w3.alloc (.cells #[.nilFunc] 69)) (by kernel_rfl) ?_
    simp only [Act.put, fl1, fl2, fl3]
    refine sl_skipped (by kernel_rfl) ((w3.alloc (.cells #[.nilFunc] 69)).setCell ⟨w3.heap.size, 0, none⟩ (.func (.func 36) #[.pointer (some ⟨D, 0, none⟩)] #[])) ?hst2 ?_
    case hst2 => exact exec_store_cell 69 _ _ rfl w3.heap.size 0 (by kernel_rfl) (.func (.func 36) #[.pointer (some ⟨D, 0, none⟩)] #[]) (by kernel_rfl) (.nilFunc) (by rw [cell_of_row _ _ _ _ _ _ (heap_alloc_new _ _)]; rfl) (frozen_of_row _ _ _ _ _ (heap_alloc_new _ _)) (fun w => by kernel_rfl) (by rfl) rfl
    simp only [Act.put, fl1, fl2, fl3]
    have hb9 := new_cell w3 69 (.nilFunc) (.func (.func 36) #[.pointer (some ⟨D, 0, none⟩)] #[])
    have hb : Below w3.heap.size w3 ((w3.alloc (.cells #[.nilFunc] 69)).setCell ⟨w3.heap.size, 0, none⟩ (.func (.func 36) #[.pointer (some ⟨D, 0, none⟩)] #[])) := ((Below.refl _ _).alloc (Nat.le_refl _) _).setCell (Nat.le_refl _) _
    generalize ((w3.alloc (.cells #[.nilFunc] 69)).setCell ⟨w3.heap.size, 0, none⟩ (.func (.func 36) #[.pointer (some ⟨D, 0, none⟩)] #[])) = w4 at hb9 hb ⊢
    obtain ⟨Bs, hBe⟩ : ∃ Bs, Bs = w3.heap.size := ⟨_, rfl⟩
    rw [← hBe] at hb9 ⊢
    clear hBe
    have hBw4 : Hid (Below B w w4) := (hBw3.out).trans ((hb).mono (Nat.le_trans hBle.out (hBw3.out).size))
    have hrw4 : Hid (w4.heap[Lg]? = some (.cells #[.pointer (some ⟨D, 0, none⟩), .slice Av np cv, .bool false] 71 (0, 0))) := heap_kept (hrw3.out) hb
    have hpw4 : Hid (PLo w4 B (.slice Av np cv) g.ps) := (hpw3.out).below hb
    have hDw4 : Hid (DiskI w4 D mb d) := (hDw3.out).below hb
    have hyw4 : Hid (Rw 1 encB w4 (.slice A m c) (p)) := (hyw3.out).below hb
    have hlw4 : Hid (bx w4 Bl (.pointer (some ⟨Lg, 0, none⟩)) 41) := heap_kept (hlw3.out) hb
    have hbsw4 : Hid (Rw 1 encB w4 (.slice A5 n5 c5) (bs)) := (hbsw3.out).below hb
    have hbbw4 : Hid (bx w4 Bb (.slice A5 n5 c5) 22) := heap_kept (hbbw3.out) hb
    clear hBw3 hrw3 hpw3 hDw3 hyw3 hlw3 hbsw3 hbbw3
    have hsw4 : Hid (bx w4 Bs (.func (.func 36) #[.pointer (some ⟨D, 0, none⟩)] #[]) 69) := hb9
    clear hb9 hb
    refine wpList_nil ?_
    go_upto_region 7 with fail
    refine wp_region_lit ?_
    refine sl_run rfl (.pointer (some ⟨Lg, 0, none⟩)) w4 (exec_load_cell 41 w4 _ rfl ⟨Bl, 0, none⟩ (by kernel_rfl) _ (hlw4.out.cell) (fun _ => by kernel_rfl)) ?_
    simp only [Act.put, fl1, fl2, fl3]
    refine sl_run rfl (.func (.func 38) #[] #[.pointer (some ⟨Bl, 0, none⟩), .pointer (some ⟨Bb, 0, none⟩)]) w4 (by kernel_rfl) ?_
    simp only [Act.put, fl1, fl2, fl3]
    refine sl_run rfl (.func (.func 40) #[] #[.pointer (some ⟨Bs, 0, none⟩)]) w4 (by kernel_rfl) ?_
    simp only [Act.put, fl1, fl2, fl3]
    refine sl_run rfl (.slice (some ⟨w4.heap.size, 0, none⟩) 2 2) (w4.alloc (.cells #[.func (.func 38) #[] #[.pointer (some ⟨Bl, 0, none⟩), .pointer (some ⟨Bb, 0, none⟩)], .func (.func 40) #[] #[.pointer (some ⟨Bs, 0, none⟩)]] 45)) (by kernel_rfl) ?_
    simp only [Act.put, fl1, fl2, fl3]
    generalize hX : w4.alloc (.cells #[.func (.func 38) #[] #[.pointer (some ⟨Bl, 0, none⟩), .pointer (some ⟨Bb, 0, none⟩)], .func (.func 40) #[] #[.pointer (some ⟨Bs, 0, none⟩)]] 45) = w5
    have hb : Below w4.heap.size w4 w5 := by rw [← hX]; exact (Below.refl _ _).alloc (Nat.le_refl _) _
    obtain ⟨gf, hEe⟩ : ∃ E, E = w4.heap.size := ⟨_, rfl⟩
    have he9 : w5.heap[gf]? = some (.cells #[.func (.func 38) #[] #[.pointer (some ⟨Bl, 0, none⟩), .pointer (some ⟨Bb, 0, none⟩)], .func (.func 40) #[] #[.pointer (some ⟨Bs, 0, none⟩)]] 45 (0, 0)) := by rw [← hX, hEe]; exact heap_alloc_new _ _
    rw [← hEe]
    clear hX hEe
    have hBw5 : Hid (Below B w w5) := (hBw4.out).trans ((hb).mono (Nat.le_trans hBle.out (hBw4.out).size))
    have hrw5 : Hid (w5.heap[Lg]? = some (.cells #[.pointer (some ⟨D, 0, none⟩), .slice Av np cv, .bool false] 71 (0, 0))) := heap_kept (hrw4.out) hb
    have hpw5 : Hid (PLo w5 B (.slice Av np cv) g.ps) := (hpw4.out).below hb
    have hDw5 : Hid (DiskI w5 D mb d) := (hDw4.out).below hb
    have hyw5 : Hid (Rw 1 encB w5 (.slice A m c) (p)) := (hyw4.out).below hb
    have hlw5 : Hid (bx w5 Bl (.pointer (some ⟨Lg, 0, none⟩)) 41) := heap_kept (hlw4.out) hb
    have hbsw5 : Hid (Rw 1 encB w5 (.slice A5 n5 c5) (bs)) := (hbsw4.out).below hb
    have hbbw5 : Hid (bx w5 Bb (.slice A5 n5 c5) 22) := heap_kept (hbbw4.out) hb
    have hsw5 : Hid (bx w5 Bs (.func (.func 36) #[.pointer (some ⟨D, 0, none⟩)] #[]) 69) := heap_kept (hsw4.out) hb
    clear hBw4 hrw4 hpw4 hDw4 hyw4 hlw4 hbsw4 hbbw4 hsw4
    have hgfw5 : Hid (w5.heap[gf]? = some (.cells #[.func (.func 38) #[] #[.pointer (some ⟨Bl, 0, none⟩), .pointer (some ⟨Bb, 0, none⟩)], .func (.func 40) #[] #[.pointer (some ⟨Bs, 0, none⟩)]] 45 (0, 0))) := he9
    clear he9 hb
    obtain ⟨d1, e1, hac⟩ : ∃ x y, actsS [fun d => d.app nameB nLog bs, fun d => d.sync nLog] d = (x, y) := ⟨_, _, rfl⟩
    have hacH : Hid (actsS [fun d => d.app nameB nLog bs, fun d => d.sync nLog] d = (d1, e1)) := hac
    clear hac
    refine sg_call (by kernel_rfl) 37 #[.pointer (some ⟨Lg, 0, none⟩), .slice (some ⟨gf, 0, none⟩) 2 2] (by kernel_rfl) (R := fun u w' => ∃ w2, u = .int .i64 (e1 : Int) ∧ DiskI w2 D mb d1 ∧ KpS (TD D mb) w5 w2 ∧ w' = if e1 = 0 then w2 else w2.setCell ⟨Lg, 2, none⟩ (.bool (decide (e1 = 20)))) ?hac ?_
    case hac =>
      have h8 := acts_calls hDw5.out _ _ _ hrw5.out [⟨38, #[.pointer (some ⟨Bl, 0, none⟩), .pointer (some ⟨Bb, 0, none⟩)]⟩, ⟨40, #[.pointer (some ⟨Bs, 0, none⟩)]⟩] gf 2 rfl (by decide) [fun d => d.app nameB nLog bs, fun d => d.sync nLog] rfl hgfw5.out (fun j hj w => by
        match j, hj with
        | 0, _ => exact (by kernel_rfl : (callFunc 38 #[.pointer (some ⟨Bl, 0, none⟩), .pointer (some ⟨Bb, 0, none⟩)]).run Try.prog w = .ok (.enter 38 #[.pointer (some ⟨Bl, 0, none⟩), .pointer (some ⟨Bb, 0, none⟩)]) w)
        | 1, _ => exact (by kernel_rfl : (callFunc 40 #[.pointer (some ⟨Bs, 0, none⟩)]).run Try.prog w = .ok (.enter 40 #[.pointer (some ⟨Bs, 0, none⟩)]) w)) (fun j hj W' d' hk hd' => by
        match j, hj with
        | 0, _ => exact app1_calls hd' Bl Bb Lg (hlw5.out.kp hDw5.out (by decide) hk) _ _ (hk.heap hrw5.out (rw_other hDw5.out hrw5.out (by decide))) A5 n5 c5 bs hn5H.out (by have := hn5H.out; omega) (hbbw5.out.kp hDw5.out (by decide) hk) (rw_kpS hDw5.out hbsw5.out hk)
        | 1, _ => exact app2_calls hd' Bs (hsw5.out.kp hDw5.out (by decide) hk))
      rw [hacH.out] at h8
      exact h8.mono fun e w' h => by
        obtain ⟨w2, h1, h2⟩ := h
        exact ⟨_, h1, w2, rfl, h2⟩
    rintro _ w6 ⟨w2, rfl, hd2, hk2, hw2⟩
    simp only [Act.put, fl1, fl2, fl3]
    have hD9 : Hid (DiskI w2 D mb d1) := hd2
    have hB9 : Hid (Below B w w2) := hBw5.out.trans (hk2.bel (fun k hs => by rcases hs with rfl | rfl; exact hloH.out.1; exact hloH.out.2.1) (Nat.le_trans hBle.out hBw5.out.size))
    have hr9 : Hid (w2.heap[Lg]? = some (.cells #[.pointer (some ⟨D, 0, none⟩), .slice Av np cv, .bool false] 71 (0, 0))) := hk2.heap hrw5.out (rw_other hDw5.out hrw5.out (by decide))
    have hp9 : Hid (PLo w2 B (.slice Av np cv) g.ps) := hpw5.out.kpS hDw5.out hk2
    have hy9 : Hid (Rw 1 encB w2 (.slice A m c) p) := rw_kpS hDw5.out hyw5.out hk2
    have hl9 : Hid (bx w2 Bl (.pointer (some ⟨Lg, 0, none⟩)) 41) := hlw5.out.kp hDw5.out (by decide) hk2
    have hw9 : Hid (w6 = if e1 = 0 then w2 else w2.setCell ⟨Lg, 2, none⟩ (.bool (decide (e1 = 20)))) := hw2
    clear hd2 hk2 hw2 hgfw5 hBw5 hrw5 hpw5 hDw5 hyw5 hlw5 hbsw5 hbbw5 hsw5
    refine sl_run rfl (.int .i64 (e1 : Int)) w6 (by kernel_rfl) ?_
    simp only [Act.put, fl1, fl2, fl3]
    refine wpList_nil ?_
    by_cases he1 : e1 = 0
    case neg =>
      have hW9 : w6 = w2.setCell ⟨Lg, 2, none⟩ (.bool (decide (e1 = 20))) := by have := hw9.out; rwa [if_neg he1] at this
      have hT9 : T = (d1, ⟨g.ps, decide (e1 = 20)⟩, e1) := by
        rw [hTv.out, if_neg (fun h => h hz), hacH.out, if_neg he1]
      have hL0 : LogI w2 B D mb Lg d1 ⟨g.ps, false⟩ := ⟨⟨_, hr9.out, hp9.out⟩, hD9.out, hloH.out.1, hloH.out.2.1, hloH.out.2.2, Nat.le_trans hBle.out hB9.out.size⟩
      have hL9 : Hid (LogI w6 B D mb Lg d1 ⟨g.ps, decide (e1 = 20)⟩) := by rw [hW9]; exact hL0.mark _
      have hF9 : Hid (Below B w w6) := by rw [hW9]; exact hB9.out.setCell hloH.out.2.2 _
      clear hL0 hW9 hw9 hD9 hB9 hr9 hp9 hy9 hl9 hTv hrecH hn5H hacH
      go_upto_region 8 with fail
      refine wp_region_lit ?_
      refine sl_run rfl (.int .i64 (e1 : Int)) w6 (by kernel_rfl) ?_
      simp only [Act.put, fl1, fl2, fl3]
      refine sl_run rfl (.bool false) w6 (exec_eqn _ _ _ rfl e1 0 (by kernel_rfl) (by kernel_rfl) false (decide_eq_false he1)) ?_
      simp only [Act.put, fl1, fl2, fl3]
      refine wpList_nil ?_
      have hT2 : Hid (T = (d1, ⟨g.ps, decide (e1 = 20)⟩, e1)) := hT9
      clear hT9 hTH hnpH hbdH hm' hpbH hloH hBle
      go_wp2_with fail
      go_ret
      refine ⟨?_, ?_, hF9.out⟩
      · rw [hT2.out]; rfl
      · rw [hT2.out]; exact hL9.out
    case pos =>
    have hW9 : w6 = w2 := by have := hw9.out; rwa [if_pos he1] at this
    subst hW9
    clear hw9
    subst he1
    have hT9 : Hid (T = (d1, ⟨g.ps ++ [p], false⟩, 0)) := by
      show _ = _
      rw [hTv.out, if_neg (fun h => h hz), hacH.out, if_pos rfl]
    clear hTv hrecH hn5H hacH
    go_upto_region 8 with fail
    refine wp_region_lit ?_
    refine sl_run rfl (.int .i64 ((0 : Nat) : Int)) w6 (by kernel_rfl) ?_
    simp only [Act.put, fl1, fl2, fl3]
    refine sl_run rfl (.bool true) w6 (exec_eqn _ _ _ rfl 0 0 (by kernel_rfl) (by kernel_rfl) true rfl) ?_
    simp only [Act.put, fl1, fl2, fl3]
    refine wpList_nil ?_
    go_upto_region 9 with fail
    refine wp_normalG ?_
    have hown : Hid (∀ k, (k = Lg ∨ some k = (Value.slice Av np cv).ownBlock) → B ≤ k) := fun k hk => by
      rcases hk with rfl | hk
      · exact hloH.out.2.2
      · exact (hp9.out.lt k hk.symm).1
    refine wp_region_held_drew (S := fun w' => KpS (fun q => q = Lg ∨ some q = (Value.slice Av np cv).ownBlock) w6 w') (by kernel_rfl) (KpS.of (Below.refl _ _).drew) (fun hS => ?_)
    change wpAnyH _ _ _ _ _ 12 (Array.replicate 12 false) _ _
    have hb : Below w6.heap.size w6 w6.drew := (Below.refl _ _).drew
    generalize hx : w6.drew = y at hS hb ⊢
    clear hx
    have hly : Hid (∀ w', KpS (fun q => q = Lg ∨ some q = (Value.slice Av np cv).ownBlock) w6 w' → w'.cell? ⟨Bl, 0, none⟩ = some (.pointer (some ⟨Lg, 0, none⟩))) := fun w' hk => by
      refine bx.cell (t := 41) (hk.heap hl9.out (fun hs => ?_))
      rcases hs with h | h
      · have e := hl9.out
        unfold bx at e
        rw [h, hr9.out] at e
        simp at e
      · exact hp9.out.kind hl9.out (by decide) h
    have hZy : Hid (KpS (fun q => q = Lg ∨ some q = (Value.slice Av np cv).ownBlock) w6 y) := hS
    have hBy : Hid (Below B w y) := hB9.out.trans (hb.mono (Nat.le_trans hBle.out hB9.out.size))
    have hry : Hid (y.heap[Lg]? = some (.cells #[.pointer (some ⟨D, 0, none⟩), .slice Av np cv, .bool false] 71 (0, 0))) := heap_kept hr9.out hb
    have hpy : Hid (PLo y B (.slice Av np cv) g.ps) := hp9.out.below hb
    have hDy : Hid (DiskI y D mb d1) := hD9.out.below hb
    have hyy : Hid (Rw 1 encB y (.slice A m c) p) := hy9.out.below hb
    clear hb hB9 hr9 hp9 hD9 hy9 hl9 hS
    refine held_take 0 rfl (by kernel_rfl) (by kernel_rfl) (by kernel_rfl) (.pointer (some ⟨Lg, 0, none⟩)) (fun _ _ _ h => nomatch h.1) (by kernel_rfl) (fun w' h => exec_load_cell 41 w' _ rfl ⟨Bl, 0, none⟩ (by kernel_rfl) _ (hly.out w' h) (fun _ => by kernel_rfl)) hZy.out ?_
    simp only [Act.put, fl1, fl2, fl3, fl4, fl5, fl6]
    refine held_take 1 rfl (by kernel_rfl) (by kernel_rfl) (by kernel_rfl) (.pointer (some ⟨Lg, 0, none⟩)) (fun _ _ _ h => nomatch h.1) (by kernel_rfl) (fun w' h => exec_load_cell 41 w' _ rfl ⟨Bl, 0, none⟩ (by kernel_rfl) _ (hly.out w' h) (fun _ => by kernel_rfl)) hZy.out ?_
    simp only [Act.put, fl1, fl2, fl3, fl4, fl5, fl6]
    refine held_take 2 rfl (by kernel_rfl) (by kernel_rfl) (by kernel_rfl) (.pointer (some ⟨Lg, 0, none⟩)) (fun _ _ _ h => nomatch h.1) (by kernel_rfl) (fun w' h => (by kernel_rfl)) hZy.out ?_
    simp only [Act.put, fl1, fl2, fl3, fl4, fl5, fl6]
    refine held_take 3 rfl (by kernel_rfl) (by kernel_rfl) (by kernel_rfl) (.pointer (some ⟨Lg, 1, none⟩)) (fun _ _ _ h => nomatch h.1) (by kernel_rfl) (fun w' h => (by kernel_rfl)) hZy.out ?_
    simp only [Act.put, fl1, fl2, fl3, fl4, fl5, fl6]
    refine held_take 5 rfl (by kernel_rfl) (by kernel_rfl) (by kernel_rfl) (.slice A m c) (fun _ _ _ h => nomatch h.1) (by kernel_rfl) (fun w' h => (by kernel_rfl)) hZy.out ?_
    simp only [Act.put, fl1, fl2, fl3, fl4, fl5, fl6]
    refine held_both 4 6 rfl rfl (by kernel_rfl) (by kernel_rfl) (by kernel_rfl) ?oa ?ob
    case oa =>
      intro K hK
      refine wp_ran (.slice Av np cv) y (exec_load_cell 30 y _ rfl ⟨Lg, 1, none⟩ (by kernel_rfl) _ (by rw [cell_of_row _ _ _ _ _ _ hry.out]; rfl) (fun _ => by kernel_rfl)) ?_
      refine hK _ _ hZy.out ?_
      clear hK K
      simp only [Act.put, fl1, fl2, fl3, fl4, fl5, fl6]
      refine held_call 6 rfl (by kernel_rfl) (by kernel_rfl) 31 #[.slice A m c] (by kernel_rfl) (R := fun u w' => TB w' u p ∧ Below y.heap.size y w') ?hcl1 ?_
      case hcl1 =>
        exact (clone_calls p A m c y hm'.out hm9 hyy.out).mono fun e w' h => by
          obtain ⟨u, h1, h2, h3⟩ := h
          rw [flat_vals] at h2
          exact ⟨u, h1, TB.own h2, h3⟩
      rintro k9 z1 ⟨hk0, hb⟩
      obtain ⟨A9, c9, rfl⟩ := hk0.1.form
      obtain ⟨n9, hn9e⟩ : ∃ k, k = p.length := ⟨_, rfl⟩
      rw [← hn9e] at hk0 ⊢
      clear hn9e
      have hkz1 : Hid (TB z1 (.slice A9 n9 c9) p) := hk0
      clear hk0
      have hBz1 : Hid (Below B w z1) := (hBy.out).trans ((hb).mono (Nat.le_trans hBle.out (hBy.out).size))
      have hrz1 : Hid (z1.heap[Lg]? = some (.cells #[.pointer (some ⟨D, 0, none⟩), .slice Av np cv, .bool false] 71 (0, 0))) := heap_kept (hry.out) hb
      have hpz1 : Hid (PLo z1 B (.slice Av np cv) g.ps) := (hpy.out).below hb
      have hDz1 : Hid (DiskI z1 D mb d1) := (hDy.out).below hb
      have hZz1 : Hid (KpS (fun q => q = Lg ∨ some q = (Value.slice Av np cv).ownBlock) w6 z1) := (hZy.out).trans (KpS.of hb)
      clear hBy hry hpy hDy hZy
      clear hb hyy
      refine ⟨hZz1.out, ?_⟩
      simp only [Act.put, fl1, fl2, fl3, fl4, fl5, fl6]
      refine held_run 7 rfl (by kernel_rfl) (by kernel_rfl) (.slice (some ⟨z1.heap.size, 0, none⟩) 1 1) (z1.alloc (.cells #[.slice A9 n9 c9] 22)) (by kernel_rfl) (hZz1.out.trans (KpS.of ((Below.refl _ _).alloc (Nat.le_refl _) _))) ?_
      simp only [Act.put, fl1, fl2, fl3, fl4, fl5, fl6]
      generalize hX : z1.alloc (.cells #[.slice A9 n9 c9] 22) = z2
      have hb : Below z1.heap.size z1 z2 := by rw [← hX]; exact (Below.refl _ _).alloc (Nat.le_refl _) _
      obtain ⟨E, hEe⟩ : ∃ E, E = z1.heap.size := ⟨_, rfl⟩
      have he9 : z2.heap[E]? = some (.cells #[.slice A9 n9 c9] 22 (0, 0)) := by rw [← hX, hEe]; exact heap_alloc_new _ _
      rw [← hEe]
      clear hX hEe
      have hEE : Hid (z2.heap[E]? = some (.cells #[.slice A9 n9 c9] 22 (0, 0))) := he9
      clear he9
      have hBz2 : Hid (Below B w z2) := (hBz1.out).trans ((hb).mono (Nat.le_trans hBle.out (hBz1.out).size))
      have hrz2 : Hid (z2.heap[Lg]? = some (.cells #[.pointer (some ⟨D, 0, none⟩), .slice Av np cv, .bool false] 71 (0, 0))) := heap_kept (hrz1.out) hb
      have hpz2 : Hid (PLo z2 B (.slice Av np cv) g.ps) := (hpz1.out).below hb
      have hDz2 : Hid (DiskI z2 D mb d1) := (hDz1.out).below hb
      have hZz2 : Hid (KpS (fun q => q = Lg ∨ some q = (Value.slice Av np cv).ownBlock) w6 z2) := (hZz1.out).trans (KpS.of hb)
      have hkz2 : Hid (TB z2 (.slice A9 n9 c9) p) := (hkz1.out).below hb
      clear hBz1 hrz1 hpz1 hDz1 hZz1 hkz1
      clear hb
      obtain ⟨vz, z3, hea, hPz, hgz, hob⟩ := exec_appP1 (w := z2) (.tmp 46) (.tmp 49) B (.slice Av np cv) g.ps p hpz2.out E (.slice A9 n9 c9) A9 n9 c9 rfl hEE.out hkz2.out (by have := hnpH.out; omega) (Nat.le_trans hBle.out hBz2.out.size)
      obtain ⟨Az, cz, rfl⟩ := hPz.form
      obtain ⟨nz, hnz⟩ : ∃ k, k = (g.ps ++ [p]).length := ⟨_, rfl⟩
      rw [← hnz] at hPz hea
      have hgk : KpS (fun q => q = Lg ∨ some q = (Value.slice Av np cv).ownBlock) z2 z3 := ⟨hgz.os, hgz.tape, hgz.output, hgz.size, fun k hk hn => hgz.block k hk (fun e => hn (.inr e))⟩
      have hBz3 : Hid (Below B w z3) := hBz2.out.grown hgz (Nat.le_trans hBle.out hBz2.out.size) (fun q hq => (hpz2.out.lt q hq).1)
      have hrz3 : Hid (z3.heap[Lg]? = some (.cells #[.pointer (some ⟨D, 0, none⟩), .slice Av np cv, .bool false] 71 (0, 0))) := (hgz.block Lg (Array.getElem?_eq_some_iff.1 hrz2.out).1 (hpz2.out.kind hrz2.out (by decide))).trans hrz2.out
      have hDz3 : Hid (DiskI z3 D mb d1) := hDz2.out.grownP hpz2.out hgz
      have hpz : Hid (PLo z3 B (.slice Az nz cz) (g.ps ++ [p])) := hPz
      have hZz3 : Hid (KpS (fun q => q = Lg ∨ some q = (Value.slice Av np cv).ownBlock) w6 z3) := hZz2.out.trans hgk
      clear hgz hPz hgk hnz hob
      refine held_run 8 rfl (by kernel_rfl) (by kernel_rfl) (.slice Az nz cz) z3 (hea rfl (by kernel_rfl) (by kernel_rfl)) hZz3.out ?_
      clear hea hEE hkz2 hBz2 hrz2 hDz2 hpz2 hZz2
      simp only [Act.put, fl1, fl2, fl3, fl4, fl5, fl6]
      refine held_take 9 rfl (by kernel_rfl) (by kernel_rfl) (by kernel_rfl) (.pointer (some ⟨Lg, 0, none⟩)) (fun _ _ _ h => nomatch h.1) (by kernel_rfl) (fun w' h => (by kernel_rfl)) hZz3.out ?_
      simp only [Act.put, fl1, fl2, fl3, fl4, fl5, fl6]
      refine held_take 10 rfl (by kernel_rfl) (by kernel_rfl) (by kernel_rfl) (.pointer (some ⟨Lg, 1, none⟩)) (fun _ _ _ h => nomatch h.1) (by kernel_rfl) (fun w' h => (by kernel_rfl)) hZz3.out ?_
      simp only [Act.put, fl1, fl2, fl3, fl4, fl5, fl6]
      have hS0 : (z3.setCell ⟨Lg, 1, none⟩ (.slice Az nz cz)).heap.size = z3.heap.size := by simp [World.setCell]
      have hZ9 : Hid (KpS (fun q => q = Lg ∨ some q = (Value.slice Av np cv).ownBlock) w6 (z3.setCell ⟨Lg, 1, none⟩ (.slice Az nz cz))) := hZz3.out.set _ _ _ (.inl (.inl rfl))
      have hL9 : Hid (LogI (z3.setCell ⟨Lg, 1, none⟩ (.slice Az nz cz)) B D mb Lg d1 ⟨g.ps ++ [p], false⟩) := LogI.list (A := ⟨0, 0, none⟩) hrz3.out hpz.out hDz3.out ⟨hloH.out.1, hloH.out.2.1, hloH.out.2.2, Nat.le_trans hBle.out hBz3.out.size⟩
      have hF9 : Hid (Below B w (z3.setCell ⟨Lg, 1, none⟩ (.slice Az nz cz))) := hBz3.out.setCell hloH.out.2.2 _
      refine held_did 11 rfl (by kernel_rfl) (by kernel_rfl) (z3.setCell ⟨Lg, 1, none⟩ (.slice Az nz cz)) (exec_store_cell 30 _ _ rfl Lg 1 (by kernel_rfl) (.slice Az nz cz) (by kernel_rfl) (.slice Av np cv) (by rw [cell_of_row _ _ _ _ _ _ hrz3.out]; rfl) (frozen_of_row _ _ _ _ _ hrz3.out) (fun w => by kernel_rfl) (by rfl) rfl) hZ9.out ?_
      simp only [Act.put, fl1, fl2, fl3, fl4, fl5, fl6]
      generalize (z3.setCell ⟨Lg, 1, none⟩ (.slice Az nz cz)) = wz at hL9 hF9 ⊢
      clear hZ9 hS0 hBz3 hrz3 hDz3 hpz hZz3
      refine wpAnyH_done (by kernel_rfl) ?_ _
      refine ⟨rfl, ?_⟩
      rename_i hKK
      refine hKK _ _ ?_
      clear hKK hly hown hTH hnpH hbdH hm' hpbH hloH hBle
      go_wp2_with fail
      go_ret
      refine ⟨?_, ?_, hF9.out⟩
      · rw [hT9.out]; rfl
      · rw [hT9.out]; exact hL9.out
    case ob =>
      intro K hK
      refine wp_enter 31 #[.slice A m c] (by kernel_rfl) (R := fun u w' => TB w' u p ∧ Below y.heap.size y w') ?hcl2 ?_
      case hcl2 =>
        exact (clone_calls p A m c y hm'.out hm9 hyy.out).mono fun e w' h => by
          obtain ⟨u, h1, h2, h3⟩ := h
          rw [flat_vals] at h2
          exact ⟨u, h1, TB.own h2, h3⟩
      rintro k9 z1 ⟨hk0, hb⟩
      obtain ⟨A9, c9, rfl⟩ := hk0.1.form
      obtain ⟨n9, hn9e⟩ : ∃ k, k = p.length := ⟨_, rfl⟩
      rw [← hn9e] at hk0 ⊢
      clear hn9e
      have hkz1 : Hid (TB z1 (.slice A9 n9 c9) p) := hk0
      clear hk0
      have hBz1 : Hid (Below B w z1) := (hBy.out).trans ((hb).mono (Nat.le_trans hBle.out (hBy.out).size))
      have hrz1 : Hid (z1.heap[Lg]? = some (.cells #[.pointer (some ⟨D, 0, none⟩), .slice Av np cv, .bool false] 71 (0, 0))) := heap_kept (hry.out) hb
      have hpz1 : Hid (PLo z1 B (.slice Av np cv) g.ps) := (hpy.out).below hb
      have hDz1 : Hid (DiskI z1 D mb d1) := (hDy.out).below hb
      have hZz1 : Hid (KpS (fun q => q = Lg ∨ some q = (Value.slice Av np cv).ownBlock) w6 z1) := (hZy.out).trans (KpS.of hb)
      clear hBy hry hpy hDy hZy
      clear hb hyy
      refine hK _ _ hZz1.out ?_
      clear hK K
      simp only [Act.put, fl1, fl2, fl3, fl4, fl5, fl6]
      refine held_both 4 7 rfl rfl (by kernel_rfl) (by kernel_rfl) (by kernel_rfl) ?pa ?pb
      case pa =>
        intro K hK
        refine wp_ran (.slice Av np cv) z1 (exec_load_cell 30 z1 _ rfl ⟨Lg, 1, none⟩ (by kernel_rfl) _ (by rw [cell_of_row _ _ _ _ _ _ hrz1.out]; rfl) (fun _ => by kernel_rfl)) ?_
        refine hK _ _ hZz1.out ?_
        clear hK K
        simp only [Act.put, fl1, fl2, fl3, fl4, fl5, fl6]
        refine held_run 7 rfl (by kernel_rfl) (by kernel_rfl) (.slice (some ⟨z1.heap.size, 0, none⟩) 1 1) (z1.alloc (.cells #[.slice A9 n9 c9] 22)) (by kernel_rfl) (hZz1.out.trans (KpS.of ((Below.refl _ _).alloc (Nat.le_refl _) _))) ?_
        simp only [Act.put, fl1, fl2, fl3, fl4, fl5, fl6]
        generalize hX : z1.alloc (.cells #[.slice A9 n9 c9] 22) = z2
        have hb : Below z1.heap.size z1 z2 := by rw [← hX]; exact (Below.refl _ _).alloc (Nat.le_refl _) _
        obtain ⟨E, hEe⟩ : ∃ E, E = z1.heap.size := ⟨_, rfl⟩
        have he9 : z2.heap[E]? = some (.cells #[.slice A9 n9 c9] 22 (0, 0)) := by rw [← hX, hEe]; exact heap_alloc_new _ _
        rw [← hEe]
        clear hX hEe
        have hEE : Hid (z2.heap[E]? = some (.cells #[.slice A9 n9 c9] 22 (0, 0))) := he9
        clear he9
        have hBz2 : Hid (Below B w z2) := (hBz1.out).trans ((hb).mono (Nat.le_trans hBle.out (hBz1.out).size))
        have hrz2 : Hid (z2.heap[Lg]? = some (.cells #[.pointer (some ⟨D, 0, none⟩), .slice Av np cv, .bool false] 71 (0, 0))) := heap_kept (hrz1.out) hb
        have hpz2 : Hid (PLo z2 B (.slice Av np cv) g.ps) := (hpz1.out).below hb
        have hDz2 : Hid (DiskI z2 D mb d1) := (hDz1.out).below hb
        have hZz2 : Hid (KpS (fun q => q = Lg ∨ some q = (Value.slice Av np cv).ownBlock) w6 z2) := (hZz1.out).trans (KpS.of hb)
        have hkz2 : Hid (TB z2 (.slice A9 n9 c9) p) := (hkz1.out).below hb
        clear hBz1 hrz1 hpz1 hDz1 hZz1 hkz1
        clear hb
        obtain ⟨vz, z3, hea, hPz, hgz, hob⟩ := exec_appP1 (w := z2) (.tmp 46) (.tmp 49) B (.slice Av np cv) g.ps p hpz2.out E (.slice A9 n9 c9) A9 n9 c9 rfl hEE.out hkz2.out (by have := hnpH.out; omega) (Nat.le_trans hBle.out hBz2.out.size)
        obtain ⟨Az, cz, rfl⟩ := hPz.form
        obtain ⟨nz, hnz⟩ : ∃ k, k = (g.ps ++ [p]).length := ⟨_, rfl⟩
        rw [← hnz] at hPz hea
        have hgk : KpS (fun q => q = Lg ∨ some q = (Value.slice Av np cv).ownBlock) z2 z3 := ⟨hgz.os, hgz.tape, hgz.output, hgz.size, fun k hk hn => hgz.block k hk (fun e => hn (.inr e))⟩
        have hBz3 : Hid (Below B w z3) := hBz2.out.grown hgz (Nat.le_trans hBle.out hBz2.out.size) (fun q hq => (hpz2.out.lt q hq).1)
        have hrz3 : Hid (z3.heap[Lg]? = some (.cells #[.pointer (some ⟨D, 0, none⟩), .slice Av np cv, .bool false] 71 (0, 0))) := (hgz.block Lg (Array.getElem?_eq_some_iff.1 hrz2.out).1 (hpz2.out.kind hrz2.out (by decide))).trans hrz2.out
        have hDz3 : Hid (DiskI z3 D mb d1) := hDz2.out.grownP hpz2.out hgz
        have hpz : Hid (PLo z3 B (.slice Az nz cz) (g.ps ++ [p])) := hPz
        have hZz3 : Hid (KpS (fun q => q = Lg ∨ some q = (Value.slice Av np cv).ownBlock) w6 z3) := hZz2.out.trans hgk
        clear hgz hPz hgk hnz hob
        refine held_run 8 rfl (by kernel_rfl) (by kernel_rfl) (.slice Az nz cz) z3 (hea rfl (by kernel_rfl) (by kernel_rfl)) hZz3.out ?_
        clear hea hEE hkz2 hBz2 hrz2 hDz2 hpz2 hZz2
        simp only [Act.put, fl1, fl2, fl3, fl4, fl5, fl6]
        refine held_take 9 rfl (by kernel_rfl) (by kernel_rfl) (by kernel_rfl) (.pointer (some ⟨Lg, 0, none⟩)) (fun _ _ _ h => nomatch h.1) (by kernel_rfl) (fun w' h => (by kernel_rfl)) hZz3.out ?_
        simp only [Act.put, fl1, fl2, fl3, fl4, fl5, fl6]
        refine held_take 10 rfl (by kernel_rfl) (by kernel_rfl) (by kernel_rfl) (.pointer (some ⟨Lg, 1, none⟩)) (fun _ _ _ h => nomatch h.1) (by kernel_rfl) (fun w' h => (by kernel_rfl)) hZz3.out ?_
        simp only [Act.put, fl1, fl2, fl3, fl4, fl5, fl6]
        have hS0 : (z3.setCell ⟨Lg, 1, none⟩ (.slice Az nz cz)).heap.size = z3.heap.size := by simp [World.setCell]
        have hZ9 : Hid (KpS (fun q => q = Lg ∨ some q = (Value.slice Av np cv).ownBlock) w6 (z3.setCell ⟨Lg, 1, none⟩ (.slice Az nz cz))) := hZz3.out.set _ _ _ (.inl (.inl rfl))
        have hL9 : Hid (LogI (z3.setCell ⟨Lg, 1, none⟩ (.slice Az nz cz)) B D mb Lg d1 ⟨g.ps ++ [p], false⟩) := LogI.list (A := ⟨0, 0, none⟩) hrz3.out hpz.out hDz3.out ⟨hloH.out.1, hloH.out.2.1, hloH.out.2.2, Nat.le_trans hBle.out hBz3.out.size⟩
        have hF9 : Hid (Below B w (z3.setCell ⟨Lg, 1, none⟩ (.slice Az nz cz))) := hBz3.out.setCell hloH.out.2.2 _
        refine held_did 11 rfl (by kernel_rfl) (by kernel_rfl) (z3.setCell ⟨Lg, 1, none⟩ (.slice Az nz cz)) (exec_store_cell 30 _ _ rfl Lg 1 (by kernel_rfl) (.slice Az nz cz) (by kernel_rfl) (.slice Av np cv) (by rw [cell_of_row _ _ _ _ _ _ hrz3.out]; rfl) (frozen_of_row _ _ _ _ _ hrz3.out) (fun w => by kernel_rfl) (by rfl) rfl) hZ9.out ?_
        simp only [Act.put, fl1, fl2, fl3, fl4, fl5, fl6]
        generalize (z3.setCell ⟨Lg, 1, none⟩ (.slice Az nz cz)) = wz at hL9 hF9 ⊢
        clear hZ9 hS0 hBz3 hrz3 hDz3 hpz hZz3
        refine wpAnyH_done (by kernel_rfl) ?_ _
        refine ⟨rfl, ?_⟩
        rename_i hKK
        refine hKK _ _ ?_
        clear hKK hly hown hTH hnpH hbdH hm' hpbH hloH hBle
        go_wp2_with fail
        go_ret
        refine ⟨?_, ?_, hF9.out⟩
        · rw [hT9.out]; rfl
        · rw [hT9.out]; exact hL9.out
      case pb =>
        intro K hK
        refine wp_ran (.slice (some ⟨z1.heap.size, 0, none⟩) 1 1) (z1.alloc (.cells #[.slice A9 n9 c9] 22)) (by kernel_rfl) ?_
        refine hK _ _ (hZz1.out.trans (KpS.of ((Below.refl _ _).alloc (Nat.le_refl _) _))) ?_
        clear hK K
        simp only [Act.put, fl1, fl2, fl3, fl4, fl5, fl6]
        generalize hX : z1.alloc (.cells #[.slice A9 n9 c9] 22) = z2
        have hb : Below z1.heap.size z1 z2 := by rw [← hX]; exact (Below.refl _ _).alloc (Nat.le_refl _) _
        obtain ⟨E, hEe⟩ : ∃ E, E = z1.heap.size := ⟨_, rfl⟩
        have he9 : z2.heap[E]? = some (.cells #[.slice A9 n9 c9] 22 (0, 0)) := by rw [← hX, hEe]; exact heap_alloc_new _ _
        rw [← hEe]
        clear hX hEe
        have hEE : Hid (z2.heap[E]? = some (.cells #[.slice A9 n9 c9] 22 (0, 0))) := he9
        clear he9
        have hBz2 : Hid (Below B w z2) := (hBz1.out).trans ((hb).mono (Nat.le_trans hBle.out (hBz1.out).size))
        have hrz2 : Hid (z2.heap[Lg]? = some (.cells #[.pointer (some ⟨D, 0, none⟩), .slice Av np cv, .bool false] 71 (0, 0))) := heap_kept (hrz1.out) hb
        have hpz2 : Hid (PLo z2 B (.slice Av np cv) g.ps) := (hpz1.out).below hb
        have hDz2 : Hid (DiskI z2 D mb d1) := (hDz1.out).below hb
        have hZz2 : Hid (KpS (fun q => q = Lg ∨ some q = (Value.slice Av np cv).ownBlock) w6 z2) := (hZz1.out).trans (KpS.of hb)
        have hkz2 : Hid (TB z2 (.slice A9 n9 c9) p) := (hkz1.out).below hb
        clear hBz1 hrz1 hpz1 hDz1 hZz1 hkz1
        clear hb
        refine held_run 4 rfl (by kernel_rfl) (by kernel_rfl) (.slice Av np cv) z2 (exec_load_cell 30 z2 _ rfl ⟨Lg, 1, none⟩ (by kernel_rfl) _ (by rw [cell_of_row _ _ _ _ _ _ hrz2.out]; rfl) (fun _ => by kernel_rfl)) hZz2.out ?_
        simp only [Act.put, fl1, fl2, fl3, fl4, fl5, fl6]
        obtain ⟨vz, z3, hea, hPz, hgz, hob⟩ := exec_appP1 (w := z2) (.tmp 46) (.tmp 49) B (.slice Av np cv) g.ps p hpz2.out E (.slice A9 n9 c9) A9 n9 c9 rfl hEE.out hkz2.out (by have := hnpH.out; omega) (Nat.le_trans hBle.out hBz2.out.size)
        obtain ⟨Az, cz, rfl⟩ := hPz.form
        obtain ⟨nz, hnz⟩ : ∃ k, k = (g.ps ++ [p]).length := ⟨_, rfl⟩
        rw [← hnz] at hPz hea
        have hgk : KpS (fun q => q = Lg ∨ some q = (Value.slice Av np cv).ownBlock) z2 z3 := ⟨hgz.os, hgz.tape, hgz.output, hgz.size, fun k hk hn => hgz.block k hk (fun e => hn (.inr e))⟩
        have hBz3 : Hid (Below B w z3) := hBz2.out.grown hgz (Nat.le_trans hBle.out hBz2.out.size) (fun q hq => (hpz2.out.lt q hq).1)
        have hrz3 : Hid (z3.heap[Lg]? = some (.cells #[.pointer (some ⟨D, 0, none⟩), .slice Av np cv, .bool false] 71 (0, 0))) := (hgz.block Lg (Array.getElem?_eq_some_iff.1 hrz2.out).1 (hpz2.out.kind hrz2.out (by decide))).trans hrz2.out
        have hDz3 : Hid (DiskI z3 D mb d1) := hDz2.out.grownP hpz2.out hgz
        have hpz : Hid (PLo z3 B (.slice Az nz cz) (g.ps ++ [p])) := hPz
        have hZz3 : Hid (KpS (fun q => q = Lg ∨ some q = (Value.slice Av np cv).ownBlock) w6 z3) := hZz2.out.trans hgk
        clear hgz hPz hgk hnz hob
        refine held_run 8 rfl (by kernel_rfl) (by kernel_rfl) (.slice Az nz cz) z3 (hea rfl (by kernel_rfl) (by kernel_rfl)) hZz3.out ?_
        clear hea hEE hkz2 hBz2 hrz2 hDz2 hpz2 hZz2
        simp only [Act.put, fl1, fl2, fl3, fl4, fl5, fl6]
        refine held_take 9 rfl (by kernel_rfl) (by kernel_rfl) (by kernel_rfl) (.pointer (some ⟨Lg, 0, none⟩)) (fun _ _ _ h => nomatch h.1) (by kernel_rfl) (fun w' h => (by kernel_rfl)) hZz3.out ?_
        simp only [Act.put, fl1, fl2, fl3, fl4, fl5, fl6]
        refine held_take 10 rfl (by kernel_rfl) (by kernel_rfl) (by kernel_rfl) (.pointer (some ⟨Lg, 1, none⟩)) (fun _ _ _ h => nomatch h.1) (by kernel_rfl) (fun w' h => (by kernel_rfl)) hZz3.out ?_
        simp only [Act.put, fl1, fl2, fl3, fl4, fl5, fl6]
        have hS0 : (z3.setCell ⟨Lg, 1, none⟩ (.slice Az nz cz)).heap.size = z3.heap.size := by simp [World.setCell]
        have hZ9 : Hid (KpS (fun q => q = Lg ∨ some q = (Value.slice Av np cv).ownBlock) w6 (z3.setCell ⟨Lg, 1, none⟩ (.slice Az nz cz))) := hZz3.out.set _ _ _ (.inl (.inl rfl))
        have hL9 : Hid (LogI (z3.setCell ⟨Lg, 1, none⟩ (.slice Az nz cz)) B D mb Lg d1 ⟨g.ps ++ [p], false⟩) := LogI.list (A := ⟨0, 0, none⟩) hrz3.out hpz.out hDz3.out ⟨hloH.out.1, hloH.out.2.1, hloH.out.2.2, Nat.le_trans hBle.out hBz3.out.size⟩
        have hF9 : Hid (Below B w (z3.setCell ⟨Lg, 1, none⟩ (.slice Az nz cz))) := hBz3.out.setCell hloH.out.2.2 _
        refine held_did 11 rfl (by kernel_rfl) (by kernel_rfl) (z3.setCell ⟨Lg, 1, none⟩ (.slice Az nz cz)) (exec_store_cell 30 _ _ rfl Lg 1 (by kernel_rfl) (.slice Az nz cz) (by kernel_rfl) (.slice Av np cv) (by rw [cell_of_row _ _ _ _ _ _ hrz3.out]; rfl) (frozen_of_row _ _ _ _ _ hrz3.out) (fun w => by kernel_rfl) (by rfl) rfl) hZ9.out ?_
        simp only [Act.put, fl1, fl2, fl3, fl4, fl5, fl6]
        generalize (z3.setCell ⟨Lg, 1, none⟩ (.slice Az nz cz)) = wz at hL9 hF9 ⊢
        clear hZ9 hS0 hBz3 hrz3 hDz3 hpz hZz3
        refine wpAnyH_done (by kernel_rfl) ?_ _
        refine ⟨rfl, ?_⟩
        rename_i hKK
        refine hKK _ _ ?_
        clear hKK hly hown hTH hnpH hbdH hm' hpbH hloH hBle
        go_wp2_with fail
        go_ret
        refine ⟨?_, ?_, hF9.out⟩
        · rw [hT9.out]; rfl
        · rw [hT9.out]; exact hL9.out
end Go.Proofs.Ytdkaaieenbmihaa
