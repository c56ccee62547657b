/-
  Orders, the reference: Pairs.
-/
import Derived.Test.YtfbbpodlemllcaaDoorPoRefs2
namespace Go.Proofs.YtfbbpodlemllcaaDoor
open Go.RowKit Go.Shelf
set_option linter.unusedVariables false
set_option linter.unusedSimpArgs false
set_option pp.maxSteps 50000
theorem andNot_bit {m k : Nat} (hk : k < 18446744073709551616) (hm : m < 18446744073709551616) (j : Nat) : (m &&& (18446744073709551615 - k)).testBit j = (m.testBit j && !k.testBit j) := by
  rw [Nat.testBit_and, show 18446744073709551615 - k = 2 ^ 64 - (k + 1) by omega, Nat.testBit_two_pow_sub_succ hk]
  by_cases hj : j < 64
  · simp [hj]
  · have : m.testBit j = false := Nat.testBit_lt_two_pow (Nat.lt_of_lt_of_le hm (Nat.pow_le_pow_right (n := 2) (i := 64) (by decide) (by omega)))
    simp [this]
/-- Between a and b. -/
def badC (up : List Nat) (a b c : Nat) : Bool := decide (c ≠ a) && decide (c ≠ b) && bt up a c && bt up c b
def condC (up : List Nat) (n a b : Nat) : Bool := decide (a ≠ b) && bt up a b && (List.range n).all fun c => !badC up a b c
theorem filter_range {p q : Nat → Bool} {n N : Nat} (hN : n ≤ N) (h1 : ∀ j, j < n → p j = q j) (h2 : ∀ j, n ≤ j → p j = false) : (List.range N).filter p = (List.range n).filter q := by
  obtain ⟨d, rfl⟩ : ∃ d, N = n + d := ⟨N - n, by omega⟩
  rw [List.range_add, List.filter_append]
  have h3 : ((List.range d).map (n + ·)).filter p = [] := List.filter_eq_nil_iff.2 fun j hj => by
    obtain ⟨x, _, rfl⟩ := List.mem_map.1 hj
    rw [h2 _ (by omega)]; decide
  rw [h3, List.append_nil]
  exact List.filter_congr fun j hj => h1 j (List.mem_range.1 hj)
theorem strict_bit {up : List Nat} {a k : Nat} (hs : Small up) (ha : a < 64) : (strictM up a).testBit k = (bt up a k && decide (k ≠ a)) := by
  unfold strictM bt
  rw [andNot_bit (pow_lt64 ha) (small_get hs a), Nat.testBit_two_pow]
  congr 1
  by_cases h : a = k
  · subst h; simp
  · simp [h, Ne.symm h]
theorem without_bit {st b k : Nat} (hs : st < 18446744073709551616) (hb : b < 64) : (without st b).testBit k = (st.testBit k && decide (k ≠ b)) := by
  unfold without
  rw [andNot_bit (pow_lt64 hb) hs, Nat.testBit_two_pow]
  congr 1
  by_cases h : b = k
  · subst h; simp
  · simp [h, Ne.symm h]
theorem cover_cond {up : List Nat} {a : Nat} (hs : Small up) (ho : Ord up) (ha : a < up.length) : coverA up a = ((List.range up.length).filter (condC up up.length a)).map fun (b : Nat) => (((a : Nat) : Int), (b : Int)) := by
  unfold coverA
  congr 1
  unfold bl
  have hn := ho.2.1
  have hst : strictM up a < 18446744073709551616 := Nat.lt_of_le_of_lt Nat.and_le_left (small_get hs a)
  have hlt : ∀ i j, i < up.length → bt up i j = true → j < up.length := fun i j hi h => ((ho.2.2 i hi).2 j h).1
  rw [List.filter_filter]
  refine filter_range hn (fun b hb => ?_) (fun b hb => ?_)
  · rw [strict_bit hs (by omega)]
    unfold condC
    rw [Bool.eq_iff_iff]
    simp only [Bool.and_eq_true, Bool.not_eq_true', decide_eq_true_eq, ne_eq]
    have hbw : (betw up (strictM up a) b = false) ↔ ((List.range up.length).all fun c => !badC up a b c) = true := by
      rw [← Bool.not_eq_true, List.all_eq_true]
      unfold betw
      rw [List.any_eq_true]
      constructor
      · intro h c hc
        have hc := List.mem_range.1 hc
        cases hbad : badC up a b c with
        | false => rfl
        | true =>
          refine absurd ⟨c, List.mem_filter.2 ⟨List.mem_range.2 (by omega), ?_⟩, ?_⟩ h
          · unfold badC at hbad
            simp only [Bool.and_eq_true, decide_eq_true_eq] at hbad
            rw [without_bit hst (by omega), strict_bit hs (by omega)]
            simp [hbad.1.1.1, hbad.1.1.2, hbad.1.2]
          · unfold badC at hbad
            simp only [Bool.and_eq_true] at hbad
            exact hbad.2
      · rintro h ⟨k, hk, hkb⟩
        have hk2 := (List.mem_filter.1 hk).2
        rw [without_bit hst (by omega), strict_bit hs (by omega)] at hk2
        simp only [Bool.and_eq_true, decide_eq_true_eq] at hk2
        have := h k (List.mem_range.2 (hlt a k ha hk2.1.1))
        unfold badC at this
        have hkb' : bt up k b = true := hkb
        simp [hk2.1.1, hk2.1.2, hk2.2, hkb'] at this
    rw [hbw]
    constructor
    · rintro ⟨h1, h2, h3⟩; exact ⟨⟨fun e => h3 e.symm, h2⟩, h1⟩
    · rintro ⟨⟨h1, h2⟩, h3⟩; exact ⟨h3, h2, fun e => h1 e.symm⟩
  · rw [strict_bit hs (by omega)]
    have : bt up a b = false := by
      cases h : bt up a b with
      | false => rfl
      | true => have := hlt a b ha h; omega
    rw [this]; simp
def ZOk (up : List Nat) (a b c : Nat) (z : Bool) : Prop := z = true ↔ ∀ k, k < c → badC up a b k = false
theorem ZOk.iff {up : List Nat} {a b c : Nat} {z : Bool} (h : ZOk up a b c z) : z = true ↔ ∀ k, k < c → badC up a b k = false := h
def rp (up : List Nat) (n a b : Nat) : List P2 := pairsT up a ++ ((List.range b).filter (condC up n a)).map fun (b : Nat) => (((a : Nat) : Int), (b : Int))
theorem rp_zero {up : List Nat} {n a : Nat} : rp up n a 0 = pairsT up a := by simp [rp]
theorem rp_succ {up : List Nat} {n a b : Nat} : rp up n a (b + 1) = if condC up n a b then rp up n a b ++ [(((a : Nat) : Int), (b : Int))] else rp up n a b := by
  unfold rp
  rw [List.range_succ, List.filter_append, List.map_append, ← List.append_assoc]
  cases h : condC up n a b <;> simp [h]
theorem rp_all {up : List Nat} {a : Nat} (hs : Small up) (ho : Ord up) (ha : a < up.length) : rp up up.length a up.length = pairsT up (a + 1) := by
  unfold rp pairsT
  rw [List.range_succ, List.flatMap_append, ← cover_cond hs ho ha]; simp
theorem rp_len {up : List Nat} {n a b : Nat} : (rp up n a b).length ≤ 64 * a + b := by
  unfold rp
  rw [List.length_append, List.length_map]
  have h1 := pairsT_len up a
  have h2 := List.length_filter_le (condC up n a) (List.range b)
  rw [List.length_range] at h2
  omega
set_option maxRecDepth 100000 in
set_option maxHeartbeats 4000000 in
theorem rpairs_calls (up : List Nat) (hs : Small up) (A : Option Addr) (n c0 : Nat) (hn : n = up.length) (w : World) (hy : Ms w (.slice A n c0) up) :
    Calls Tryd.prog 27 #[.slice A n c0] w fun e w' => ∃ v, e = .returned v ∧ w'.ownsRow w.heap.size 44 2 v (pairsS up).length (flat encP (pairsS up)) ∧ Below w.heap.size w w' := by
  have hc := (rright_calls up hs A n c0 hn w hy).mono (R' := fun e w' => e = .returned (.bool (tr (Ord up))) ∧ w = w') fun e w' h => ⟨h.1, h.2.symm⟩
  obtain ⟨L, hL⟩ : ∃ L, L = pairsS up := ⟨_, rfl⟩
  rw [← hL]
  have hLH : Hid (L = pairsS up) := hL
  have hn' : Hid (n = up.length) := hn
  have hsH : Hid (Small up) := hs
  have hyH : Hid (Ms w (.slice A n c0) up) := hy
  obtain ⟨ro, hro⟩ : ∃ r, r = tr (Ord up) := ⟨_, rfl⟩
  have hroH : Hid (ro = tr (Ord up)) := hro
  rw [← hro] at hc
  clear hs hy hL hro hn
  go_enter Tryd.func27, Tryd.ntmps27
  cases ro with
  | false =>
    have hL0 : Hid (L = []) := by show _ = _; rw [hLH.out]; unfold pairsS; rw [← hroH.out]; rfl
    go_wp2_with (go_at_call 16; refine hc.mono ?_; rintro e w' ⟨rfl, rfl⟩)
    go_ret
    exact ⟨_, rfl, by rw [hL0.out]; exact World.ownsRow_nil _ _ _ _, Below.refl _ _⟩
  | true =>
    have hord : Hid (Ord up) := tr_iff.1 hroH.out.symm
    have hLT : Hid (L = pairsT up n) := by show _ = _; rw [hLH.out]; unfold pairsS; rw [← hroH.out, if_pos rfl, hn'.out]
    have h1n : 1 ≤ n := by rw [hn'.out]; exact hord.out.1
    have hn64 : n ≤ 64 := by rw [hn'.out]; exact hord.out.2.1
    clear hLH hroH
    obtain ⟨g, o, rfl, hnc, hg, _⟩ := hyH.out.elem 0 (by rw [← hn'.out]; omega)
    have hreg : Hid (∀ w', Below w.heap.size w w' → ∀ i, i < n → w'.cell? ⟨g, o + i, none⟩ = some (.int .u64 ((up.getD i 0 : Nat) : Int))) := fun w' h i hi => by
      rw [h.cell (by exact hg)]; exact elem_ms hyH.out i (by rw [← hn'.out]; exact hi)
    go_wp2_with (go_at_call 16; refine hc.mono ?_; rintro e w' ⟨rfl, rfl⟩)
    clear hc
    go_loopw [3, 4] (fun v u wr => ∃ a : Nat, a ≤ n ∧ u = .int .i64 (a : Int) ∧ Hid (wr.ownsRow w.heap.size 44 2 v (pairsT up a).length (flat encP (pairsT up a))) ∧ Hid (Below w.heap.size w wr)) (fun _ u _ => n - (intOf u).toNat)
    case atStart => exact ⟨0, by omega, rfl, World.ownsRow_nil _ _ _ _, Below.refl _ _⟩
    case round =>
      obtain ⟨a, ha, rfl, hrow, hbw⟩ := hrel
      by_cases hla : a < n
      · have hI : (a : Int) < (n : Int) := by omega
        have hrowz : Hid (wr.ownsRow w.heap.size 44 2 u3 (rp up n a 0).length (flat encP (rp up n a 0))) := by rw [rp_zero]; exact hrow.out
        clear hrow
        obtain ⟨ma, hma⟩ : ∃ z, z = up.getD a 0 := ⟨_, rfl⟩
        have hmaH : Hid (ma = up.getD a 0) := hma
        have hma9 : ma < 18446744073709551616 := by rw [hma]; exact small_get hsH.out _
        clear hma
        have ha64 : a < 64 := by omega
        go_wp2_with fail
        go_loopw [3, 5] (fun v u wr => ∃ b : Nat, b ≤ n ∧ u = .int .i64 (b : Int) ∧ Hid (wr.ownsRow w.heap.size 44 2 v (rp up n a b).length (flat encP (rp up n a b))) ∧ Hid (Below w.heap.size w wr)) (fun _ u _ => n - (intOf u).toNat)
        case atStart => exact ⟨0, by omega, rfl, hrowz, hbw⟩
        case round =>
          obtain ⟨b, hb, rfl, hrow, hbw⟩ := hrel
          clear hrowz
          by_cases hlb : b < n
          · have hJ : (b : Int) < (n : Int) := by omega
            have hb64 : b < 64 := by omega
            have ca : wr.cell? ⟨g, o + a, none⟩ = some (.int .u64 (ma : Int)) := by rw [hmaH.out]; exact hreg.out wr hbw.out a hla
            by_cases hab : a = b
            · have hrow2 : Hid (wr.ownsRow w.heap.size 44 2 u3 (rp up n a (b + 1)).length (flat encP (rp up n a (b + 1)))) := by
                have : condC up n a b = false := by unfold condC; simp [hab]
                rw [rp_succ, this]; exact hrow.out
              have hE : (a : Int) = (b : Int) := by omega
              have hEb : ((a : Int) != (b : Int)) = false := by rw [hE]; simp
              clear hrow hab
              go_wp2_with (go_at_call 29; (first | refine (bitR _ _ true (by assumption) (by assumption) _).mono ?_ | refine (bitR _ _ false (by assumption) (by assumption) _).mono ?_); rintro e w' ⟨rfl, rfl⟩)
              go_loop [6, 7] (fun v u => v = .bool false ∧ u = .int .i64 0 ∧ Hid (0 < n)) (fun _ _ => 0)
              case atStart => exact ⟨rfl, rfl, by show _ < _; omega⟩
              case round =>
                obtain ⟨rfl, rfl, _⟩ := hrel
                have hI0 : (0 : Int) < (n : Int) := by omega
                go_wp2_with fail
                go_roundw
                case rel => first | exact ⟨b + 1, by omega, by go_num, hrow2, hbw⟩ | exact ⟨b + 1, by omega, by omega, hrow2⟩
                case measure => simp [intOf]; omega
            · have hE : ¬ (a : Int) = (b : Int) := by omega
              have hEb : ((a : Int) != (b : Int)) = true := by rw [bne_iff_ne]; exact hE
              cases hbb : bitI ma (b : Int) with
              | false =>
                have hrow2 : Hid (wr.ownsRow w.heap.size 44 2 u3 (rp up n a (b + 1)).length (flat encP (rp up n a (b + 1)))) := by
                  have : condC up n a b = false := by
                    have h : bt up a b = false := by unfold bt; rw [← hmaH.out, ← bitI_nat hb64, hbb]
                    unfold condC; rw [h]; simp
                  rw [rp_succ, this]; exact hrow.out
                clear hrow hab
                go_wp2_with (go_at_call 29; (first | refine (bitR _ _ true (by assumption) (by assumption) _).mono ?_ | refine (bitR _ _ false (by assumption) (by assumption) _).mono ?_); rintro e w' ⟨rfl, rfl⟩)
                go_loop [6, 7] (fun v u => v = .bool false ∧ u = .int .i64 0 ∧ Hid (0 < n)) (fun _ _ => 0)
                case atStart => exact ⟨rfl, rfl, by show _ < _; omega⟩
                case round =>
                  obtain ⟨rfl, rfl, _⟩ := hrel
                  have hI0 : (0 : Int) < (n : Int) := by omega
                  go_wp2_with fail
                  go_roundw
                  case rel => first | exact ⟨b + 1, by omega, by go_num, hrow2, hbw⟩ | exact ⟨b + 1, by omega, by omega, hrow2⟩
                  case measure => simp [intOf]; omega
              | true =>
                have hbab : Hid (bt up a b = true) := by show _ = _; unfold bt; rw [← hmaH.out, ← bitI_nat hb64, hbb]
                go_wp2_with (go_at_call 29; (first | refine (bitR _ _ true (by assumption) (by assumption) _).mono ?_ | refine (bitR _ _ false (by assumption) (by assumption) _).mono ?_); rintro e w' ⟨rfl, rfl⟩)
                clear hbb
                go_loop [6, 7] (fun v u => ∃ (c : Nat) (z : Bool), c ≤ n ∧ u = .int .i64 (c : Int) ∧ v = .bool z ∧ Hid (ZOk up a b c z)) (fun _ u => n - (intOf u).toNat)
                case atStart => exact ⟨0, true, by omega, rfl, rfl, ⟨fun _ k hk => by omega, fun _ => rfl⟩⟩
                case round =>
                  obtain ⟨c, z, hc, rfl, rfl, hz⟩ := hrel
                  by_cases hlc : c < n
                  · have hK : (c : Int) < (n : Int) := by omega
                    cases z with
                    | false =>
                      have hcf : Hid (condC up n a b = false) := by
                        show _ = _
                        rw [Bool.eq_false_iff]
                        intro h
                        unfold condC at h
                        rw [Bool.and_eq_true, List.all_eq_true] at h
                        have := hz.out.iff.2 fun k hk => by have := h.2 k (List.mem_range.2 (by omega)); simpa using this
                        cases this
                      have hrow2 : Hid (wr.ownsRow w.heap.size 44 2 u3 (rp up n a (b + 1)).length (flat encP (rp up n a (b + 1)))) := by
                        rw [rp_succ, hcf.out]; exact hrow.out
                      clear hrow hz hcf
                      go_wp2_with fail
                      go_roundw
                      case rel => first | exact ⟨b + 1, by omega, by go_num, hrow2, hbw⟩ | exact ⟨b + 1, by omega, by omega, hrow2⟩
                      case measure => simp [intOf]; omega
                    | true =>
                      obtain ⟨mc, hmc⟩ : ∃ z, z = up.getD c 0 := ⟨_, rfl⟩
                      have hmcH : Hid (mc = up.getD c 0) := hmc
                      have hmc9 : mc < 18446744073709551616 := by rw [hmc]; exact small_get hsH.out _
                      have cc : wr.cell? ⟨g, o + c, none⟩ = some (.int .u64 (mc : Int)) := by rw [hmc]; exact hreg.out wr hbw.out c hlc
                      have hc64 : c < 64 := by omega
                      clear hmc
                      by_cases hca : c = a
                      · have hE1 : (c : Int) = (a : Int) := by omega
                        have hz2 : Hid (ZOk up a b (c + 1) true) := by
                          refine ⟨fun _ k hk => ?_, fun _ => rfl⟩
                          by_cases hk2 : k < c
                          · exact hz.out.iff.1 rfl k hk2
                          · have : k = c := by omega
                            subst this; unfold badC; simp [hca]
                        clear hz
                        go_wp2_with (go_at_call 29; (first | refine (bitR _ _ true (by assumption) (by assumption) _).mono ?_ | refine (bitR _ _ false (by assumption) (by assumption) _).mono ?_); rintro e w' ⟨rfl, rfl⟩)
                        go_round
                        case rel => exact ⟨c + 1, true, by omega, by go_num, rfl, hz2⟩
                        case measure => simp [intOf]; omega
                      · have hE1 : ¬ (c : Int) = (a : Int) := by omega
                        have hE1b : ((c : Int) != (a : Int)) = true := by rw [bne_iff_ne]; exact hE1
                        by_cases hcb : c = b
                        · have hE2 : (c : Int) = (b : Int) := by omega
                          have hz2 : Hid (ZOk up a b (c + 1) true) := by
                            refine ⟨fun _ k hk => ?_, fun _ => rfl⟩
                            by_cases hk2 : k < c
                            · exact hz.out.iff.1 rfl k hk2
                            · have : k = c := by omega
                              subst this; unfold badC; simp [hcb]
                          clear hz
                          go_wp2_with (go_at_call 29; (first | refine (bitR _ _ true (by assumption) (by assumption) _).mono ?_ | refine (bitR _ _ false (by assumption) (by assumption) _).mono ?_); rintro e w' ⟨rfl, rfl⟩)
                          go_round
                          case rel => exact ⟨c + 1, true, by omega, by go_num, rfl, hz2⟩
                          case measure => simp [intOf]; omega
                        · have hE2 : ¬ (c : Int) = (b : Int) := by omega
                          have hE2b : ((c : Int) != (b : Int)) = true := by rw [bne_iff_ne]; exact hE2
                          cases hac : bitI ma (c : Int) with
                          | false =>
                            have hx : bt up a c = false := by unfold bt; rw [← hmaH.out, ← bitI_nat hc64, hac]
                            have hz2 : Hid (ZOk up a b (c + 1) true) := by
                              refine ⟨fun _ k hk => ?_, fun _ => rfl⟩
                              by_cases hk2 : k < c
                              · exact hz.out.iff.1 rfl k hk2
                              · have : k = c := by omega
                                subst this; unfold badC; rw [hx]; simp
                            clear hz
                            go_wp2_with (go_at_call 29; (first | refine (bitR _ _ true (by assumption) (by assumption) _).mono ?_ | refine (bitR _ _ false (by assumption) (by assumption) _).mono ?_); rintro e w' ⟨rfl, rfl⟩)
                            go_round
                            case rel => exact ⟨c + 1, true, by omega, by go_num, rfl, hz2⟩
                            case measure => simp [intOf]; omega
                          | true =>
                            have hx : Hid (bt up a c = true) := by show _ = _; unfold bt; rw [← hmaH.out, ← bitI_nat hc64, hac]
                            cases hbc : bitI mc (b : Int) with
                            | false =>
                              have hy : bt up c b = false := by unfold bt; rw [← hmcH.out, ← bitI_nat hb64, hbc]
                              have hz2 : Hid (ZOk up a b (c + 1) true) := by
                                refine ⟨fun _ k hk => ?_, fun _ => rfl⟩
                                by_cases hk2 : k < c
                                · exact hz.out.iff.1 rfl k hk2
                                · have : k = c := by omega
                                  subst this; unfold badC; rw [hy]; simp
                              clear hz
                              go_wp2_with (go_at_call 29; (first | refine (bitR _ _ true (by assumption) (by assumption) _).mono ?_ | refine (bitR _ _ false (by assumption) (by assumption) _).mono ?_); rintro e w' ⟨rfl, rfl⟩)
                              go_round
                              case rel => exact ⟨c + 1, true, by omega, by go_num, rfl, hz2⟩
                              case measure => simp [intOf]; omega
                            | true =>
                              have hy : Hid (bt up c b = true) := by show _ = _; unfold bt; rw [← hmcH.out, ← bitI_nat hb64, hbc]
                              have hz2 : Hid (ZOk up a b (c + 1) false) := by
                                refine ⟨fun h => (by cases h), fun h => ?_⟩
                                have := h c (by omega)
                                unfold badC at this
                                rw [hx.out, hy.out] at this
                                simp [hca, hcb] at this
                              clear hz
                              go_wp2_with (go_at_call 29; (first | refine (bitR _ _ true (by assumption) (by assumption) _).mono ?_ | refine (bitR _ _ false (by assumption) (by assumption) _).mono ?_); rintro e w' ⟨rfl, rfl⟩)
                              go_round
                              case rel => exact ⟨c + 1, false, by omega, by go_num, rfl, hz2⟩
                              case measure => simp [intOf]; omega
                  · have hK : ¬ (c : Int) < (n : Int) := by omega
                    have hcn : c = n := by omega
                    cases z with
                    | false =>
                      have hcf : Hid (condC up n a b = false) := by
                        show _ = _
                        rw [Bool.eq_false_iff]
                        intro h
                        unfold condC at h
                        rw [Bool.and_eq_true, List.all_eq_true] at h
                        have := hz.out.iff.2 fun k hk => by have := h.2 k (List.mem_range.2 (by omega)); simpa using this
                        cases this
                      clear hcn
                      have hrow2 : Hid (wr.ownsRow w.heap.size 44 2 u3 (rp up n a (b + 1)).length (flat encP (rp up n a (b + 1)))) := by
                        rw [rp_succ, hcf.out]; exact hrow.out
                      clear hrow hz hcf
                      go_wp2_with fail
                      go_roundw
                      case rel => first | exact ⟨b + 1, by omega, by go_num, hrow2, hbw⟩ | exact ⟨b + 1, by omega, by omega, hrow2⟩
                      case measure => simp [intOf]; omega
                    | true =>
                      have hct : Hid (condC up n a b = true) := by
                        show _ = _
                        unfold condC
                        rw [Bool.and_eq_true, Bool.and_eq_true, List.all_eq_true]
                        refine ⟨⟨decide_eq_true hab, hbab.out⟩, fun k hk => ?_⟩
                        have := hz.out.iff.1 rfl k (by have := List.mem_range.1 hk; omega)
                        rw [this]; rfl
                      have hrl : Hid (rp up n a (b + 1) = rp up n a b ++ [((a : Int), (b : Int))]) := by show _ = _; rw [rp_succ, hct.out]; rfl
                      have hlen := rp_len (up := up) (n := n) (a := a) (b := b)
                      clear hz hct hcn
                      go_upto_region 17 with fail
                      refine wp_region_lit ?_
                      refine sl_run rfl u3 wr (by kernel_rfl) ?_
                      simp only [Act.put, List.setIfInBounds_toArray, List.set_cons_zero, List.set_cons_succ]
                      refine sl_run rfl (.int .i64 (a : Int)) wr (by kernel_rfl) ?_
                      simp only [Act.put, List.setIfInBounds_toArray, List.set_cons_zero, List.set_cons_succ]
                      refine sl_run rfl (.int .i64 (b : Int)) wr (by kernel_rfl) ?_
                      simp only [Act.put, List.setIfInBounds_toArray, List.set_cons_zero, List.set_cons_succ]
                      refine sl_run rfl (.agg #[.int .i64 (a : Int), .int .i64 (b : Int)]) wr (by kernel_rfl) ?_
                      simp only [Act.put, List.setIfInBounds_toArray, List.set_cons_zero, List.set_cons_succ]
                      refine sl_run rfl (.slice (some ⟨wr.heap.size, 0, none⟩) 1 1) (wr.alloc (.cells #[.int .i64 (a : Int), .int .i64 (b : Int)] 44)) (by kernel_rfl) ?_
                      simp only [Act.put, List.setIfInBounds_toArray, List.set_cons_zero, List.set_cons_succ]
                      obtain ⟨i44, hi44, hz0, hz1, hz2⟩ := info_parts inf44
                      have hnew : (wr.alloc (.cells #[.int .i64 (a : Int), .int .i64 (b : Int)] 44)).heap[wr.heap.size]? = some (.cells #[.int .i64 (a : Int), .int .i64 (b : Int)] 44 (0, 0)) := heap_alloc_new _ _
                      have hbn : Below wr.heap.size wr (wr.alloc (.cells #[.int .i64 (a : Int), .int .i64 (b : Int)] 44)) := (Below.refl _ _).alloc (Nat.le_refl _) _
                      have hrow1 : (wr.alloc (.cells #[.int .i64 (a : Int), .int .i64 (b : Int)] 44)).ownsRow w.heap.size 44 2 u3 (rp up n a b).length (flat encP (rp up n a b)) := hrow.out.kept (row := none) (World.grownBy_alloc _ _ none) (by cases hv : u3.ownBlock <;> simp)
                      refine appendRw 22 44 16 i44 z44 Tryd.underlying22 hi44 hz0 hz1 hz2 rfl (by decide) encP_size encP_ones rfl _ _ rfl w.heap.size u3 (rp up n a b) [((a : Int), (b : Int))] (by kernel_rfl) hrow1 (.slice (some ⟨wr.heap.size, 0, none⟩) 1 1) (by kernel_rfl) (rw_one (enc := encP) ((a : Int), (b : Int)) hnew) (by simp; omega) (by simp; omega) (by have := hbw.out.size; simp; omega) ?_
                      intro v' w3 hown' hgrow
                      simp only [Act.put, List.setIfInBounds_toArray, List.set_cons_zero, List.set_cons_succ]
                      rw [← hrl.out] at hown'
                      have hown2 : Hid (w3.ownsRow w.heap.size 44 2 v' (rp up n a (b + 1)).length (flat encP (rp up n a (b + 1)))) := hown'
                      have hb3 : Hid (Below w.heap.size w w3) := (hbw.out.trans (hbn.mono hbw.out.size)).grown hgrow (by have := hbw.out.size; simp; omega) (fun q hq => by
                        rcases hrow.out.2 with ⟨h1, _⟩ | ⟨g9, cap, cur, h1, h2, _⟩
                        · rw [h1] at hq; simp [Value.ownBlock] at hq
                        · rw [h1] at hq; simp [Value.ownBlock] at hq; omega)
                      clear hown' hgrow hnew hbn hrow1 hrow hrl hlen hi44 hz0 hz1 hz2
                      refine sl_run rfl v' w3 (by kernel_rfl) ?_
                      simp only [Act.put, List.setIfInBounds_toArray, List.set_cons_zero, List.set_cons_succ]
                      refine wpList_nil ?_
                      go_wp2_with fail
                      go_roundw
                      case rel => exact ⟨b + 1, by omega, by go_num, hown2, hb3⟩
                      case measure => simp [intOf]; omega
          · have hJ : ¬ (b : Int) < (n : Int) := by omega
            have hbn : b = n := by omega
            have hrow2 : Hid (wr.ownsRow w.heap.size 44 2 u3 (pairsT up (a + 1)).length (flat encP (pairsT up (a + 1)))) := by
              rw [← rp_all hsH.out hord.out (by rw [← hn'.out]; exact hla)]
              have := hrow.out; rw [hbn, hn'.out] at this; exact this
            clear hrow hbn
            go_wp2_with fail
            go_roundw
            case rel => exact ⟨a + 1, by omega, by go_num, hrow2, hbw⟩
            case measure => simp [intOf]; omega
      · have hI : ¬ (a : Int) < (n : Int) := by omega
        have han : a = n := by omega
        have hrow2 : Hid (wr.ownsRow w.heap.size 44 2 u3 L.length (flat encP L)) := by
          rw [hLT.out, ← han]; exact hrow.out
        clear hrow han
        go_wp2_with fail
        go_ret
        exact ⟨_, rfl, hrow2.out, hbw.out⟩

end Go.Proofs.YtfbbpodlemllcaaDoor
