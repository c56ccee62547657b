/-
  Orders, the reference: Label, At, Above, Below.
-/
import Derived.Test.YtfbbpodlemllcaaDoorPoRefs
namespace Go.Proofs.YtfbbpodlemllcaaDoor
open Go.RowKit Go.Shelf
set_option linter.unusedVariables false
set_option linter.unusedSimpArgs false
set_option pp.maxSteps 50000
def Lab (up : List Nat) (a : Int) : Prop := Ord up ∧ 0 ≤ a ∧ a < up.length
theorem has_two {up : List Nat} {a b : Int} : Has up [a, b] ↔ Lab up a ∧ Lab up b := by
  unfold Has Lab; simp; constructor
  · rintro ⟨⟨h1, h2⟩, h3⟩; exact ⟨⟨h3, h1⟩, h3, h2⟩
  · rintro ⟨⟨h3, h1⟩, _, h2⟩; exact ⟨⟨h1, h2⟩, h3⟩
theorem has_one {up : List Nat} {a : Int} : Has up [a] ↔ Lab up a := by
  unfold Has Lab; simp; exact And.comm
set_option maxRecDepth 100000 in
set_option maxHeartbeats 4000000 in
theorem rlabel_calls (up : List Nat) (hs : Small up) (A : Option Addr) (n c : Nat) (hn : n = up.length) (a : Int) (w : World) (hy : Ms w (.slice A n c) up) :
    Calls Tryd.prog 32 #[.slice A n c, .int .i64 a] w fun e w' => e = .returned (.bool (tr (Lab up a))) ∧ w = w' := by
  have hc := (rright_calls up hs A n c hn w hy).mono (R' := fun e w' => e = .returned (.bool (tr (Ord up))) ∧ w = w') fun e w' h => ⟨h.1, h.2.symm⟩
  obtain ⟨r, hr⟩ : ∃ r, r = tr (Lab up a) := ⟨_, rfl⟩
  rw [← hr]
  have hrH : Hid (r = tr (Lab up a)) := hr
  have hn' : Hid (n = up.length) := hn
  obtain ⟨ro, hro⟩ : ∃ r, r = tr (Ord up) := ⟨_, rfl⟩
  have hroH : Hid (ro = tr (Ord up)) := hro
  rw [← hro] at hc
  clear hr hn hs hy hro
  go_enter Tryd.func32, Tryd.ntmps32
  cases ro with
  | false =>
    have hrf : Hid (r = false) := by show _ = _; rw [hrH.out]; exact tr_false fun h => by have := tr_iff.2 h.1; rw [← hroH.out] at this; cases this
    go_wp2_with (go_at_call 16; refine hc.mono ?_; rintro e w' ⟨rfl, rfl⟩)
    go_ret
    refine ⟨?_, rfl⟩; rw [hrf.out]; rfl
  | true =>
    by_cases h0 : 0 ≤ a
    · by_cases h1 : a < (n : Int)
      · have hrf : Hid (r = true) := by show _ = _; rw [hrH.out, tr_iff]; exact ⟨tr_iff.1 hroH.out.symm, h0, by rw [← hn'.out]; exact h1⟩
        go_wp2_with (go_at_call 16; refine hc.mono ?_; rintro e w' ⟨rfl, rfl⟩)
        go_ret
        refine ⟨?_, rfl⟩; rw [hrf.out]; rfl
      · have hrf : Hid (r = false) := by show _ = _; rw [hrH.out]; exact tr_false fun h => h1 (by rw [hn'.out]; exact h.2.2)
        have hd : decide (a < (n : Int)) = false := decide_eq_false h1
        go_wp2_with (go_at_call 16; refine hc.mono ?_; rintro e w' ⟨rfl, rfl⟩)
        go_ret
        refine ⟨?_, rfl⟩; rw [hrf.out]
        first | rfl | (show Ending.returned (.bool (decide (a < (n : Int)))) = _; rw [hd])
    · have hrf : Hid (r = false) := by show _ = _; rw [hrH.out]; exact tr_false fun h => h0 h.2.1
      go_wp2_with (go_at_call 16; refine hc.mono ?_; rintro e w' ⟨rfl, rfl⟩)
      go_ret
      refine ⟨?_, rfl⟩; rw [hrf.out]; rfl
theorem lab_nat {up : List Nat} {n : Nat} (hn : n = up.length) {a : Int} (h : Lab up a) : ∃ i : Nat, a = i ∧ i < n ∧ n ≤ 64 := by
  obtain ⟨h1, h2, h3⟩ := h
  have := h1.2.1
  exact ⟨a.toNat, by omega, by omega, by omega⟩
set_option maxRecDepth 100000 in
set_option maxHeartbeats 4000000 in
theorem rat_calls (up : List Nat) (hs : Small up) (A : Option Addr) (n c : Nat) (hn : n = up.length) (a b : Int) (w : World) (hy : Ms w (.slice A n c) up) :
    Calls Tryd.prog 20 #[.slice A n c, .int .i64 a, .int .i64 b] w fun e w' => e = .returned (.bool (tr (atS up a b))) ∧ w = w' := by
  have hca := rlabel_calls up hs A n c hn a w hy
  have hcb := rlabel_calls up hs A n c hn b w hy
  obtain ⟨r, hr⟩ : ∃ r, r = tr (atS up a b) := ⟨_, rfl⟩
  rw [← hr]
  have hrH : Hid (r = tr (atS up a b)) := hr
  have hn' : Hid (n = up.length) := hn
  have hsH : Hid (Small up) := hs
  have hyH : Hid (Ms w (.slice A n c) up) := hy
  obtain ⟨la, hla⟩ : ∃ r, r = tr (Lab up a) := ⟨_, rfl⟩
  obtain ⟨lb, hlb⟩ : ∃ r, r = tr (Lab up b) := ⟨_, rfl⟩
  have hlaH : Hid (la = tr (Lab up a)) := hla
  have hlbH : Hid (lb = tr (Lab up b)) := hlb
  rw [← hla] at hca
  rw [← hlb] at hcb
  clear hr hn hs hy hla hlb
  go_enter Tryd.func20, Tryd.ntmps20
  cases la with
  | false =>
    have hrf : Hid (r = false) := by show _ = _; rw [hrH.out]; exact tr_false fun h => by have := tr_iff.2 (has_two.1 h.1).1; rw [← hlaH.out] at this; cases this
    go_wp2_with (go_at_call 32; refine hca.mono ?_; rintro e w' ⟨rfl, rfl⟩)
    go_ret
    refine ⟨?_, rfl⟩; rw [hrf.out]; rfl
  | true =>
    cases lb with
    | false =>
      have hrf : Hid (r = false) := by show _ = _; rw [hrH.out]; exact tr_false fun h => by have := tr_iff.2 (has_two.1 h.1).2; rw [← hlbH.out] at this; cases this
      by_cases hab : a = b
      · subst hab
        exact nomatch hlaH.out.trans hlbH.out.symm
      · go_wp2_with (go_at_call 32; (first | (refine hca.mono ?_; clear hca) | refine hcb.mono ?_); rintro e w' ⟨rfl, rfl⟩)
        go_ret
        refine ⟨?_, rfl⟩; rw [hrf.out]; rfl
    | true =>
      obtain ⟨i, rfl, hi, hn64⟩ := lab_nat hn'.out (tr_iff.1 hlaH.out.symm)
      obtain ⟨j, rfl, hj, _⟩ := lab_nat hn'.out (tr_iff.1 hlbH.out.symm)
      have hI : (i : Int) < (n : Int) := by omega
      have hj64 : j < 64 := by omega
      obtain ⟨g, o, rfl, hnc, hg, _⟩ := hyH.out.elem i (by rw [← hn'.out]; exact hi)
      obtain ⟨mi, hmi⟩ : ∃ z, z = up.getD i 0 := ⟨_, rfl⟩
      have hmiH : Hid (mi = up.getD i 0) := hmi
      have hmi9 : mi < 18446744073709551616 := by rw [hmi]; exact small_get hsH.out _
      have ci : w.cell? ⟨g, o + i, none⟩ = some (.int .u64 (mi : Int)) := by rw [hmi]; exact elem_ms hyH.out i (by rw [← hn'.out]; exact hi)
      have hrr : Hid (r = mi.testBit j) := by
        show _ = _
        rw [hrH.out, Bool.eq_iff_iff, tr_iff]
        unfold atS
        rw [Int.toNat_natCast, Int.toNat_natCast, ← hmiH.out]
        exact ⟨fun h => h.2, fun h => ⟨has_two.2 ⟨tr_iff.1 hlaH.out.symm, tr_iff.1 hlbH.out.symm⟩, h⟩⟩
      rw [← bitI_nat hj64] at hrr
      clear hmi hrH
      cases hb : bitI mi (j : Int) with
      | true =>
        rw [hb] at hrr
        go_wp2_with (first | (go_at_call 29; (first | refine (bitR _ _ true (by assumption) (by assumption) _).mono ?_ | refine (bitR _ _ false (by assumption) (by assumption) _).mono ?_); rintro e w' ⟨rfl, rfl⟩) | (go_at_call 32; (first | (refine hca.mono ?_; clear hca) | refine hcb.mono ?_); rintro e w' ⟨rfl, rfl⟩))
        go_ret
        refine ⟨?_, rfl⟩; rw [hrr.out]; rfl
      | false =>
        rw [hb] at hrr
        go_wp2_with (first | (go_at_call 29; (first | refine (bitR _ _ true (by assumption) (by assumption) _).mono ?_ | refine (bitR _ _ false (by assumption) (by assumption) _).mono ?_); rintro e w' ⟨rfl, rfl⟩) | (go_at_call 32; (first | (refine hca.mono ?_; clear hca) | refine hcb.mono ?_); rintro e w' ⟨rfl, rfl⟩))
        go_ret
        refine ⟨?_, rfl⟩; rw [hrr.out]; rfl
theorem maskOf_lt2 (p : Nat → Bool) (h : ∀ j, p j = true → j < 64) : ∀ n, maskOf p n < 18446744073709551616
  | 0 => by simp [maskOf]
  | n + 1 => by
    rw [maskOf]
    split
    · next hp => exact or_lt (maskOf_lt2 p h n) (pow_lt64 (h n hp))
    · exact maskOf_lt2 p h n
theorem maskOf_eq {p q : Nat → Bool} : ∀ n, (∀ j, j < n → p j = q j) → maskOf p n = maskOf q n
  | 0, _ => rfl
  | n + 1, h => by rw [maskOf, maskOf, h n (by omega), maskOf_eq n fun j hj => h j (by omega)]
theorem at_lt {up : List Nat} {a b : Int} (h : atS up a b) : a < 64 ∧ b < 64 := by
  obtain ⟨⟨h1, _, h3⟩, h4, h5, h6⟩ := has_two.1 h.1
  have := h1.2.1; omega
theorem above_mask {up : List Nat} {a : Int} (hs : Small up) : aboveS up a = maskOf (fun (b : Nat) => tr (atS up a (b : Int))) up.length := by
  apply Nat.eq_of_testBit_eq
  intro j
  rw [maskOf_bit]
  unfold aboveS
  cases ha : tr (Has up [a]) with
  | false =>
    rw [if_neg (by decide), Nat.zero_testBit]
    have : tr (atS up a (j : Int)) = false := tr_false fun h => by
      have := tr_iff.2 (has_one.2 (has_two.1 h.1).1); rw [ha] at this; cases this
    rw [this, Bool.and_false]
  | true =>
    rw [if_pos rfl]
    have hL := has_one.1 (tr_iff.1 ha)
    obtain ⟨i, rfl, hi, hn⟩ := lab_nat rfl hL
    rw [Bool.eq_iff_iff, Bool.and_eq_true, decide_eq_true_iff, tr_iff]
    unfold atS
    rw [Int.toNat_natCast, Int.toNat_natCast]
    constructor
    · intro h
      have hj := (hL.1.2.2 i hi).2 j h
      exact ⟨hj.1, has_two.2 ⟨hL, hL.1, by omega, by have := hj.1; omega⟩, h⟩
    · exact fun h => h.2.2
theorem below_mask {up : List Nat} {a : Int} : belowS up a = maskOf (fun (b : Nat) => tr (atS up (b : Int) a)) up.length := by
  unfold belowS
  cases ha : tr (Has up [a]) with
  | false =>
    rw [if_neg (by decide)]
    have : maskOf (fun (b : Nat) => tr (atS up (b : Int) a)) up.length = maskOf (fun _ => false) up.length := maskOf_eq _ fun j _ => tr_false fun h => by
      have := tr_iff.2 (has_one.2 (has_two.1 h.1).2); rw [ha] at this; cases this
    rw [this]
    apply Nat.eq_of_testBit_eq
    intro j
    rw [maskOf_bit]; simp
  | true =>
    rw [if_pos rfl]
    have hL := has_one.1 (tr_iff.1 ha)
    refine maskOf_eq _ fun j hj => ?_
    rw [Bool.eq_iff_iff, tr_iff]
    unfold atS
    rw [Int.toNat_natCast]
    exact ⟨fun h => ⟨has_two.2 ⟨⟨hL.1, by omega, by omega⟩, hL⟩, h⟩, fun h => h.2⟩

set_option maxRecDepth 100000 in
set_option maxHeartbeats 4000000 in
theorem rabove_calls (up : List Nat) (hs : Small up) (A : Option Addr) (n c : Nat) (hn : n = up.length) (hnb : n ≤ 9223372036854775807) (a : Int) (w : World) (hy : Ms w (.slice A n c) up) :
    Calls Tryd.prog 22 #[.slice A n c, .int .i64 a] w fun e w' => e = .returned (.int .u64 (aboveS up a : Int)) ∧ w = w' := by
  obtain ⟨r, hr⟩ : ∃ r, r = aboveS up a := ⟨_, rfl⟩
  rw [← hr]
  obtain ⟨p, hp⟩ : ∃ p : Nat → Bool, p = fun (b : Nat) => tr (atS up a (b : Int)) := ⟨_, rfl⟩
  have hrH : Hid (r = maskOf p n) := by show _ = _; rw [hr, hp, hn]; exact above_mask hs
  have hpc : Hid (∀ b : Nat, Calls Tryd.prog 20 #[.slice A n c, .int .i64 a, .int .i64 (b : Int)] w fun e w' => e = .returned (.bool (p b)) ∧ w = w') := fun b => by
    rw [hp]; exact rat_calls up hs A n c hn _ _ w hy
  have hp64 : Hid (∀ j, p j = true → j < 64) := fun j hj => by
    rw [hp] at hj; have := at_lt (tr_iff.1 hj); omega
  clear hr hp hs hy hn
  go_enter Tryd.func22, Tryd.ntmps22
  go_wp2_with fail
  go_loop [5, 6] (fun v u => ∃ i : Nat, i ≤ n ∧ u = .int .i64 (i : Int) ∧ v = .int .u64 ((maskOf p i : Nat) : Int)) (fun _ u => n - (intOf u).toNat)
  case atStart => exact ⟨0, by omega, rfl, rfl⟩
  case round =>
    obtain ⟨i, hi, rfl, rfl⟩ := hrel
    by_cases hlt : i < n
    · have hI : (i : Int) < (n : Int) := by omega
      have hm9 := maskOf_lt2 p hp64.out i
      have hc := hpc.out i
      have hstep : Hid (maskOf p (i + 1) = if p i then maskOf p i ||| 2 ^ i else maskOf p i) := rfl
      obtain ⟨m2, hm2⟩ : ∃ m2, m2 = maskOf p (i + 1) := ⟨_, rfl⟩
      have hm2H : Hid (m2 = maskOf p (i + 1)) := hm2
      rw [← hm2] at hstep
      clear hm2
      have hi64 := hp64.out i
      generalize maskOf p i = mk at hm9 hstep ⊢
      cases hpi : p i with
      | true =>
        rw [hpi] at hc hi64
        have h64 := hi64 rfl
        have hset := set_calls mk i hm9 h64 w
        have hst : mk ||| 2 ^ i = m2 := by rw [hstep.out, hpi, if_pos rfl]
        rw [hst] at hset
        clear hst hpi hi64 hstep
        go_wp2_with (first | (go_at_call 20; refine hc.mono ?_; rintro e w' ⟨rfl, rfl⟩) | (go_at_call 30; refine hset.mono ?_; rintro e w' ⟨rfl, rfl⟩))
        go_round
        case rel => exact ⟨i + 1, by omega, by go_num, by rw [hm2H.out]⟩
        case measure => simp [intOf]; omega
      | false =>
        rw [hpi] at hc
        have hst : Hid (m2 = mk) := by show _ = _; rw [hstep.out, hpi, if_neg (by decide)]
        clear hpi hi64 hstep
        go_wp2_with (go_at_call 20; refine hc.mono ?_; rintro e w' ⟨rfl, rfl⟩)
        go_round
        case rel => exact ⟨i + 1, by omega, by go_num, by rw [← hm2H.out, hst.out]⟩
        case measure => simp [intOf]; omega
    · have hI : ¬ (i : Int) < (n : Int) := by omega
      have hin : i = n := by omega
      have hr2 : Hid (r = maskOf p i) := by show _ = _; rw [hrH.out, hin]
      clear hin
      go_wp2_with fail
      go_ret
      refine ⟨?_, rfl⟩; rw [hr2.out]; rfl
set_option maxRecDepth 100000 in
set_option maxHeartbeats 4000000 in
theorem rbelow_calls (up : List Nat) (hs : Small up) (A : Option Addr) (n c : Nat) (hn : n = up.length) (hnb : n ≤ 9223372036854775807) (a : Int) (w : World) (hy : Ms w (.slice A n c) up) :
    Calls Tryd.prog 24 #[.slice A n c, .int .i64 a] w fun e w' => e = .returned (.int .u64 (belowS up a : Int)) ∧ w = w' := by
  obtain ⟨r, hr⟩ : ∃ r, r = belowS up a := ⟨_, rfl⟩
  rw [← hr]
  obtain ⟨p, hp⟩ : ∃ p : Nat → Bool, p = fun (b : Nat) => tr (atS up (b : Int) a) := ⟨_, rfl⟩
  have hrH : Hid (r = maskOf p n) := by show _ = _; rw [hr, hp, hn]; exact below_mask
  have hpc : Hid (∀ b : Nat, Calls Tryd.prog 20 #[.slice A n c, .int .i64 (b : Int), .int .i64 a] w fun e w' => e = .returned (.bool (p b)) ∧ w = w') := fun b => by
    rw [hp]; exact rat_calls up hs A n c hn _ _ w hy
  have hp64 : Hid (∀ j, p j = true → j < 64) := fun j hj => by
    rw [hp] at hj; have := at_lt (tr_iff.1 hj); omega
  clear hr hp hs hy hn
  go_enter Tryd.func24, Tryd.ntmps24
  go_wp2_with fail
  go_loop [5, 6] (fun v u => ∃ i : Nat, i ≤ n ∧ u = .int .i64 (i : Int) ∧ v = .int .u64 ((maskOf p i : Nat) : Int)) (fun _ u => n - (intOf u).toNat)
  case atStart => exact ⟨0, by omega, rfl, rfl⟩
  case round =>
    obtain ⟨i, hi, rfl, rfl⟩ := hrel
    by_cases hlt : i < n
    · have hI : (i : Int) < (n : Int) := by omega
      have hm9 := maskOf_lt2 p hp64.out i
      have hc := hpc.out i
      have hstep : Hid (maskOf p (i + 1) = if p i then maskOf p i ||| 2 ^ i else maskOf p i) := rfl
      obtain ⟨m2, hm2⟩ : ∃ m2, m2 = maskOf p (i + 1) := ⟨_, rfl⟩
      have hm2H : Hid (m2 = maskOf p (i + 1)) := hm2
      rw [← hm2] at hstep
      clear hm2
      have hi64 := hp64.out i
      generalize maskOf p i = mk at hm9 hstep ⊢
      cases hpi : p i with
      | true =>
        rw [hpi] at hc hi64
        have h64 := hi64 rfl
        have hset := set_calls mk i hm9 h64 w
        have hst : mk ||| 2 ^ i = m2 := by rw [hstep.out, hpi, if_pos rfl]
        rw [hst] at hset
        clear hst hpi hi64 hstep
        go_wp2_with (first | (go_at_call 20; refine hc.mono ?_; rintro e w' ⟨rfl, rfl⟩) | (go_at_call 30; refine hset.mono ?_; rintro e w' ⟨rfl, rfl⟩))
        go_round
        case rel => exact ⟨i + 1, by omega, by go_num, by rw [hm2H.out]⟩
        case measure => simp [intOf]; omega
      | false =>
        rw [hpi] at hc
        have hst : Hid (m2 = mk) := by show _ = _; rw [hstep.out, hpi, if_neg (by decide)]
        clear hpi hi64 hstep
        go_wp2_with (go_at_call 20; refine hc.mono ?_; rintro e w' ⟨rfl, rfl⟩)
        go_round
        case rel => exact ⟨i + 1, by omega, by go_num, by rw [← hm2H.out, hst.out]⟩
        case measure => simp [intOf]; omega
    · have hI : ¬ (i : Int) < (n : Int) := by omega
      have hin : i = n := by omega
      have hr2 : Hid (r = maskOf p i) := by show _ = _; rw [hrH.out, hin]
      clear hin
      go_wp2_with fail
      go_ret
      refine ⟨?_, rfl⟩; rw [hr2.out]; rfl
end Go.Proofs.YtfbbpodlemllcaaDoor
