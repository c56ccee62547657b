/-
  Orders, the reference: Right, Label, At.
-/
import Derived.Test.YtfbbpodlemllcaaDoorPoMasks
namespace Go.Proofs.YtfbbpodlemllcaaDoor
open Go.RowKit Go.Shelf
set_option linter.unusedVariables false
set_option linter.unusedSimpArgs false
set_option pp.maxSteps 50000
theorem bitR (m : Nat) (k : Int) (r : Bool) (hm : m < 18446744073709551616) (h : bitI m k = r) (w : World) : Calls Tryd.prog 29 #[.int .u64 (m : Int), .int .i64 k] w fun e w' => e = .returned (.bool r) ∧ w = w' := by
  rw [← h]; exact (bit_calls m k hm w).mono fun e w' h => ⟨h.1, h.2.symm⟩
def okA (up : List Nat) (a : Nat) : Prop := bt up a a = true ∧ ∀ b, b < 64 → bt up a b = true → b < up.length ∧ (b ≠ a → bt up b a = false) ∧ ∀ c, c < up.length → bt up b c = true → bt up a c = true
theorem ord_iff {up : List Nat} (hs : Small up) : Ord up ↔ 1 ≤ up.length ∧ up.length ≤ 64 ∧ ∀ a, a < up.length → okA up a := by
  constructor
  · rintro ⟨h1, h2, h3⟩
    refine ⟨h1, h2, fun a ha => ⟨(h3 a ha).1, fun b _ hb => ?_⟩⟩
    obtain ⟨k1, k2, k3⟩ := (h3 a ha).2 b hb
    exact ⟨k1, k3, fun c _ hc => k2 c hc⟩
  · rintro ⟨h1, h2, h3⟩
    refine ⟨h1, h2, fun a ha => ⟨(h3 a ha).1, fun b hb => ?_⟩⟩
    obtain ⟨k1, k2, k3⟩ := (h3 a ha).2 b (bit_lt (small_get hs a) hb) hb
    refine ⟨k1, fun c hc => ?_, k2⟩
    have := ((h3 b k1).2 c (bit_lt (small_get hs b) hc) hc).1
    exact k3 c this hc
set_option maxRecDepth 100000 in
set_option maxHeartbeats 4000000 in
theorem rright_calls (up : List Nat) (hs : Small up) (A : Option Addr) (n c : Nat) (hn : n = up.length) (w : World) (hy : Ms w (.slice A n c) up) :
    Calls Tryd.prog 16 #[.slice A n c] w fun e w' => e = .returned (.bool (tr (Ord up))) ∧ w' = w := by
  obtain ⟨r, hr⟩ : ∃ r, r = tr (Ord up) := ⟨_, rfl⟩
  rw [← hr]
  have hrH : Hid (r = tr (Ord up)) := hr
  have hn' : Hid (n = up.length) := hn
  have hsH : Hid (Small up) := hs
  have hyH : Hid (Ms w (.slice A n c) up) := hy
  clear hr hn hs hy
  go_enter Tryd.func16, Tryd.ntmps16
  by_cases hlo : n < 1
  · have hI : (n : Int) < 1 := by omega
    have hrf : Hid (r = false) := by show _ = _; rw [hrH.out]; exact tr_false fun h => by have := h.1; have := hn'.out; omega
    go_wp2_with fail
    go_ret
    refine ⟨?_, rfl⟩; rw [hrf.out]; rfl
  by_cases hhi : 64 < n
  · have hI : ¬ (n : Int) < 1 := by omega
    have hI2 : (64 : Int) < (n : Int) := by omega
    have hrf : Hid (r = false) := by show _ = _; rw [hrH.out]; exact tr_false fun h => by have := h.2.1; have := hn'.out; omega
    go_wp2_with fail
    go_ret
    refine ⟨?_, rfl⟩; rw [hrf.out]; rfl
  have hI1 : ¬ (n : Int) < 1 := by omega
  have hI2 : ¬ (64 : Int) < (n : Int) := by omega
  go_wp2_with fail
  clear hI1 hI2
  obtain ⟨g, o, rfl, hnc, hg, _⟩ := hyH.out.elem 0 (by rw [← hn'.out]; omega)
  have hreg : Hid (∀ i, i < n → w.cell? ⟨g, o + i, none⟩ = some (.int .u64 ((up.getD i 0 : Nat) : Int))) := fun i hi => elem_ms hyH.out i (by rw [← hn'.out]; exact hi)
  have hnot : Hid (∀ a, a < n → ¬ okA up a → r = false) := fun a ha h => by
    rw [hrH.out]; exact tr_false fun ho => h (((ord_iff hsH.out).1 ho).2.2 a (by rw [← hn'.out]; exact ha))
  go_loop [4] (fun u => ∃ a : Nat, a ≤ n ∧ u = .int .i64 (a : Int) ∧ Hid (∀ j, j < a → okA up j)) (fun u => n - (intOf u).toNat)
  case atStart => exact ⟨0, by omega, rfl, fun j h => by omega⟩
  case round =>
    obtain ⟨a, ha, rfl, hall⟩ := hrel
    by_cases hla : a < n
    · have hI : (a : Int) < (n : Int) := by omega
      obtain ⟨ma, hma⟩ : ∃ z, z = up.getD a 0 := ⟨_, rfl⟩
      have hmaH : Hid (ma = up.getD a 0) := hma
      have hma9 : ma < 18446744073709551616 := by rw [hma]; exact small_get hsH.out _
      have ca : w.cell? ⟨g, o + a, none⟩ = some (.int .u64 (ma : Int)) := by rw [hma]; exact hreg.out a hla
      have ha64 : a < 64 := by omega
      clear hma
      cases hba : bitI ma (a : Int) with
      | false =>
        have hrf : Hid (r = false) := hnot.out a hla fun h => by
          have := h.1; unfold bt at this; rw [← hmaH.out, ← bitI_nat ha64, hba] at this; cases this
        go_wp2_with (go_at_call 29; (first | refine (bitR _ _ true (by assumption) (by assumption) _).mono ?_ | refine (bitR _ _ false (by assumption) (by assumption) _).mono ?_); rintro e w' ⟨rfl, rfl⟩)
        go_ret
        refine ⟨?_, rfl⟩; rw [hrf.out]; rfl
      | true =>
        have haa : Hid (bt up a a = true) := by show _ = _; unfold bt; rw [← hmaH.out, ← bitI_nat ha64, hba]
        go_wp2_with (go_at_call 29; (first | refine (bitR _ _ true (by assumption) (by assumption) _).mono ?_ | refine (bitR _ _ false (by assumption) (by assumption) _).mono ?_); rintro e w' ⟨rfl, rfl⟩)
        clear hba
        go_loop [5] (fun u => ∃ b : Nat, b ≤ 64 ∧ u = .int .i64 (b : Int) ∧ Hid (∀ j, j < b → bt up a j = true → j < n ∧ (j ≠ a → bt up j a = false) ∧ ∀ c, c < n → bt up j c = true → bt up a c = true)) (fun u => 64 - (intOf u).toNat)
        case atStart => exact ⟨0, by omega, rfl, fun j h => by omega⟩
        case round =>
          obtain ⟨b, hb, rfl, hallb⟩ := hrel
          by_cases hlb : b < 64
          · have hJ : (b : Int) < 64 := by omega
            cases hbb : bitI ma (b : Int) with
            | false =>
              have hallb2 : Hid (∀ j, j < b + 1 → bt up a j = true → j < n ∧ (j ≠ a → bt up j a = false) ∧ ∀ c, c < n → bt up j c = true → bt up a c = true) := fun j hj hbj => by
                by_cases hjb : j < b
                · exact hallb.out j hjb hbj
                · have : j = b := by omega
                  subst this; unfold bt at hbj; rw [← hmaH.out, ← bitI_nat hlb, hbb] at hbj; cases hbj
              clear hallb
              go_wp2_with (go_at_call 29; (first | refine (bitR _ _ true (by assumption) (by assumption) _).mono ?_ | refine (bitR _ _ false (by assumption) (by assumption) _).mono ?_); rintro e w' ⟨rfl, rfl⟩)
              go_round
              case rel => exact ⟨b + 1, by omega, by go_num, hallb2⟩
              case measure => simp [intOf]; omega
            | true =>
              have hab : Hid (bt up a b = true) := by show _ = _; unfold bt; rw [← hmaH.out, ← bitI_nat hlb, hbb]
              by_cases hbn : b < n
              · have hK : ¬ (n : Int) ≤ (b : Int) := by omega
                have hKn : ¬ n ≤ b := by omega
                have hKd : decide (n ≤ b) = false := decide_eq_false hKn
                by_cases hba2 : b = a
                · subst hba2
                  have hside : Hid (b ≠ b → bt up b b = false) := fun h => absurd rfl h
                  go_upto_region 15 with (go_at_call 29; (first | refine (bitR _ _ true (by assumption) (by assumption) _).mono ?_ | refine (bitR _ _ false (by assumption) (by assumption) _).mono ?_); rintro e w' ⟨rfl, rfl⟩)
                  clear hK hbb
                  go_wp2_with fail
                  go_loop [6] (fun u => ∃ c : Nat, c ≤ n ∧ u = .int .i64 (c : Int) ∧ Hid (c ≤ n)) (fun u => n - (intOf u).toNat)
                  case atStart => exact ⟨0, by omega, rfl, Nat.zero_le _⟩
                  case round =>
                    obtain ⟨c, hc, rfl, _⟩ := hrel
                    by_cases hlc : c < n
                    · have hJ : (c : Int) < (n : Int) := by omega
                      cases hbc : bitI ma (c : Int) with
                      | false =>
                        go_wp2_with (go_at_call 29; (first | refine (bitR _ _ true (by assumption) (by assumption) _).mono ?_ | refine (bitR _ _ false (by assumption) (by assumption) _).mono ?_); rintro e w' ⟨rfl, rfl⟩)
                        go_round
                        case rel => exact ⟨c + 1, by omega, by go_num, hlc⟩
                        case measure => simp [intOf]; omega
                      | true =>
                        go_wp2_with (go_at_call 29; (first | refine (bitR _ _ true (by assumption) (by assumption) _).mono ?_ | refine (bitR _ _ false (by assumption) (by assumption) _).mono ?_); rintro e w' ⟨rfl, rfl⟩)
                        go_round
                        case rel => exact ⟨c + 1, by omega, by go_num, hlc⟩
                        case measure => simp [intOf]; omega
                    · have hJ : ¬ (c : Int) < (n : Int) := by omega
                      have hallb2 : Hid (∀ j, j < b + 1 → bt up b j = true → j < n ∧ (j ≠ b → bt up j b = false) ∧ ∀ c, c < n → bt up j c = true → bt up b c = true) := fun j hj hbj => by
                        by_cases hjb : j < b
                        · exact hallb.out j hjb hbj
                        · have : j = b := by omega
                          subst this
                          exact ⟨hbn, hside.out, fun c' hc' h => h⟩
                      clear hallb hside
                      go_wp2_with fail
                      go_round
                      case rel => exact ⟨b + 1, by omega, by go_num, hallb2⟩
                      case measure => simp [intOf]; omega
                · have hE : ¬ (b : Int) = (a : Int) := by omega
                  obtain ⟨mb, hmb⟩ : ∃ z, z = up.getD b 0 := ⟨_, rfl⟩
                  have hmbH : Hid (mb = up.getD b 0) := hmb
                  have hmb9 : mb < 18446744073709551616 := by rw [hmb]; exact small_get hsH.out _
                  have cb : w.cell? ⟨g, o + b, none⟩ = some (.int .u64 (mb : Int)) := by rw [hmb]; exact hreg.out b hbn
                  have hKb : (b : Int) < (n : Int) := by omega
                  clear hmb
                  cases hba3 : bitI mb (a : Int) with
                  | true =>
                    have hrf : Hid (r = false) := hnot.out a hla fun h => by
                      have := (h.2 b hlb hab.out).2.1 hba2
                      unfold bt at this; rw [← hmbH.out, ← bitI_nat ha64, hba3] at this; cases this
                    go_wp2_with (go_at_call 29; (first | refine (bitR _ _ true (by assumption) (by assumption) _).mono ?_ | refine (bitR _ _ false (by assumption) (by assumption) _).mono ?_); rintro e w' ⟨rfl, rfl⟩)
                    go_ret
                    refine ⟨?_, rfl⟩; rw [hrf.out]; rfl
                  | false =>
                    have hside : Hid (b ≠ a → bt up b a = false) := fun _ => by unfold bt; rw [← hmbH.out, ← bitI_nat ha64, hba3]
                    clear hba2
                    go_upto_region 15 with (go_at_call 29; (first | refine (bitR _ _ true (by assumption) (by assumption) _).mono ?_ | refine (bitR _ _ false (by assumption) (by assumption) _).mono ?_); rintro e w' ⟨rfl, rfl⟩)
                    clear hE hK hbb hba3
                    go_wp2_with fail
                    go_loop [6] (fun u => ∃ c : Nat, c ≤ n ∧ u = .int .i64 (c : Int) ∧ Hid (∀ j, j < c → bt up b j = true → bt up a j = true)) (fun u => n - (intOf u).toNat)
                    case atStart => exact ⟨0, by omega, rfl, fun j h => by omega⟩
                    case round =>
                      obtain ⟨c, hc, rfl, hallc⟩ := hrel
                      by_cases hlc : c < n
                      · have hJ : (c : Int) < (n : Int) := by omega
                        have hc64 : c < 64 := by omega
                        cases hbc : bitI mb (c : Int) with
                        | false =>
                          have hallc2 : Hid (∀ j, j < c + 1 → bt up b j = true → bt up a j = true) := fun j hj hbj => by
                            by_cases hjc : j < c
                            · exact hallc.out j hjc hbj
                            · have : j = c := by omega
                              subst this; unfold bt at hbj; rw [← hmbH.out, ← bitI_nat hc64, hbc] at hbj; cases hbj
                          clear hallc
                          go_wp2_with (go_at_call 29; (first | refine (bitR _ _ true (by assumption) (by assumption) _).mono ?_ | refine (bitR _ _ false (by assumption) (by assumption) _).mono ?_); rintro e w' ⟨rfl, rfl⟩)
                          go_round
                          case rel => exact ⟨c + 1, by omega, by go_num, hallc2⟩
                          case measure => simp [intOf]; omega
                        | true =>
                          have hbcH : Hid (bt up b c = true) := by show _ = _; unfold bt; rw [← hmbH.out, ← bitI_nat hc64, hbc]
                          cases hac : bitI ma (c : Int) with
                          | true =>
                            have hallc2 : Hid (∀ j, j < c + 1 → bt up b j = true → bt up a j = true) := fun j hj hbj => by
                              by_cases hjc : j < c
                              · exact hallc.out j hjc hbj
                              · have : j = c := by omega
                                subst this; unfold bt; rw [← hmaH.out, ← bitI_nat hc64, hac]
                            clear hallc
                            go_wp2_with (go_at_call 29; (first | refine (bitR _ _ true (by assumption) (by assumption) _).mono ?_ | refine (bitR _ _ false (by assumption) (by assumption) _).mono ?_); rintro e w' ⟨rfl, rfl⟩)
                            go_round
                            case rel => exact ⟨c + 1, by omega, by go_num, hallc2⟩
                            case measure => simp [intOf]; omega
                          | false =>
                            have hrf : Hid (r = false) := hnot.out a hla fun h => by
                              have := (h.2 b hlb hab.out).2.2 c (by rw [← hn'.out]; exact hlc) hbcH.out
                              unfold bt at this; rw [← hmaH.out, ← bitI_nat hc64, hac] at this; cases this
                            go_wp2_with (go_at_call 29; (first | refine (bitR _ _ true (by assumption) (by assumption) _).mono ?_ | refine (bitR _ _ false (by assumption) (by assumption) _).mono ?_); rintro e w' ⟨rfl, rfl⟩)
                            go_ret
                            refine ⟨?_, rfl⟩; rw [hrf.out]; rfl
                      · have hJ : ¬ (c : Int) < (n : Int) := by omega
                        have hallb2 : Hid (∀ j, j < b + 1 → bt up a j = true → j < n ∧ (j ≠ a → bt up j a = false) ∧ ∀ c, c < n → bt up j c = true → bt up a c = true) := fun j hj hbj => by
                          by_cases hjb : j < b
                          · exact hallb.out j hjb hbj
                          · have : j = b := by omega
                            subst this
                            exact ⟨hbn, hside.out, fun c' hc' h => hallc.out c' (by omega) h⟩
                        clear hallb hallc hside
                        go_wp2_with fail
                        go_round
                        case rel => exact ⟨b + 1, by omega, by go_num, hallb2⟩
                        case measure => simp [intOf]; omega
              · have hK : (n : Int) ≤ (b : Int) := by omega
                have hrf : Hid (r = false) := hnot.out a hla fun h => by
                  have := (h.2 b hlb hab.out).1; have := hn'.out; omega
                go_wp2_with (go_at_call 29; (first | refine (bitR _ _ true (by assumption) (by assumption) _).mono ?_ | refine (bitR _ _ false (by assumption) (by assumption) _).mono ?_); rintro e w' ⟨rfl, rfl⟩)
                go_ret
                refine ⟨?_, rfl⟩; rw [hrf.out]; rfl
          · have hJ : ¬ (b : Int) < 64 := by omega
            have hall2 : Hid (∀ j, j < a + 1 → okA up j) := fun j hj => by
              by_cases hja : j < a
              · exact hall.out j hja
              · have : j = a := by omega
                subst this
                refine ⟨haa.out, fun b' hb' hbj => ?_⟩
                have := hallb.out b' (by omega) hbj
                rw [hn'.out] at this; exact this
            clear hall hallb
            go_wp2_with fail
            go_round
            case rel => exact ⟨a + 1, by omega, by go_num, hall2⟩
            case measure => simp [intOf]; omega
    · have hI : ¬ (a : Int) < (n : Int) := by omega
      have hrt : Hid (r = true) := by
        show _ = _
        rw [hrH.out, tr_iff, ord_iff hsH.out]
        have := hn'.out
        exact ⟨by omega, by omega, fun j hj => hall.out j (by omega)⟩
      go_wp2_with fail
      go_ret
      refine ⟨?_, rfl⟩; rw [hrt.out]; rfl

end Go.Proofs.YtfbbpodlemllcaaDoor
