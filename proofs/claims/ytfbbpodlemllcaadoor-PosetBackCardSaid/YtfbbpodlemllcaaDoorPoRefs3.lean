/-
  Orders, the reference: Join.
-/
import Derived.Test.YtfbbpodlemllcaaDoorPoRefs2
import Derived.Test.YtfbbpodlemllcaaDoorPoJoin
namespace Go.Proofs.YtfbbpodlemllcaaDoor
open Go.RowKit Go.Shelf
set_option linter.unusedVariables false
set_option linter.unusedSimpArgs false
set_option pp.maxSteps 50000
def okC (up : List Nat) (mi mj c : Nat) : Prop := mi.testBit c = true ∧ mj.testBit c = true ∧ ∀ d, d < up.length → mi.testBit d = true → mj.testBit d = true → bt up c d = true
theorem okC_iff {up : List Nat} {mi mj c : Nat} (hs : Small up) (hi : mi < 18446744073709551616) (hlt : ∀ d, mi.testBit d = true → d < up.length) (hc : c < 64) : ((mi &&& mj).testBit c && least up (mi &&& mj) c) = true ↔ okC up mi mj c := by
  rw [Nat.testBit_and, Bool.and_eq_true, Bool.and_eq_true]
  unfold least okC
  rw [beq_iff_eq, andNot_zero (Nat.lt_of_le_of_lt Nat.and_le_left hi) (small_get hs c)]
  constructor
  · rintro ⟨⟨h1, h2⟩, h3⟩
    exact ⟨h1, h2, fun d _ h4 h5 => h3 d (by rw [Nat.testBit_and, h4, h5]; rfl)⟩
  · rintro ⟨h1, h2, h3⟩
    refine ⟨⟨h1, h2⟩, fun d hd => ?_⟩
    rw [Nat.testBit_and, Bool.and_eq_true] at hd
    exact h3 d (hlt d hd.1) hd.1 hd.2
theorem find_some {up : List Nat} {m c : Nat} (hc : c < 64) (h : (m.testBit c && least up m c) = true) (hno : ∀ c', c' < c → (m.testBit c' && least up m c') = false) : (bl m).find? (least up m) = some c := by
  unfold bl
  rw [List.find?_filter]
  rw [List.find?_range_eq_some]
  have e : ∀ j, decide (m.testBit j = true ∧ least up m j = true) = (m.testBit j && least up m j) := fun j => by rw [Bool.eq_iff_iff]; simp
  refine ⟨by rw [e]; exact h, List.mem_range.2 hc, fun j hj => by rw [e, hno j hj]; rfl⟩
theorem find_none {up : List Nat} {m : Nat} (hno : ∀ c', c' < 64 → (m.testBit c' && least up m c') = false) : (bl m).find? (least up m) = none := by
  unfold bl
  rw [List.find?_filter]
  rw [List.find?_range_eq_none]
  have e : ∀ j, decide (m.testBit j = true ∧ least up m j = true) = (m.testBit j && least up m j) := fun j => by rw [Bool.eq_iff_iff]; simp
  exact fun j hj => by rw [e, hno j hj]; rfl
set_option maxRecDepth 100000 in
set_option maxHeartbeats 4000000 in
theorem rjoin_calls (up : List Nat) (hs : Small up) (A : Option Addr) (n c : Nat) (hn : n = up.length) (a b : Int) (w : World) (hy : Ms w (.slice A n c) up) :
    Calls Tryd.prog 18 #[.slice A n c, .int .i64 a, .int .i64 b] w fun e w' => e = .returned (.tuple #[.int .i64 (((joinS up a b).getD 0 : Nat) : Int), .bool (joinS up a b).isSome]) ∧ w = w' := by
  have hca := rlabel_calls up hs A n c hn a w hy
  have hcb := rlabel_calls up hs A n c hn b w hy
  obtain ⟨r, hr⟩ : ∃ r, r = joinS up a b := ⟨_, rfl⟩
  rw [← hr]
  have hrH : Hid (r = joinS up a b) := hr
  have hn' : Hid (n = up.length) := hn
  have hsH : Hid (Small up) := hs
  have hyH : Hid (Ms w (.slice A n c) up) := hy
  obtain ⟨la, hla⟩ : ∃ r, r = tr (Lab up a) := ⟨_, rfl⟩
  obtain ⟨lb, hlb⟩ : ∃ r, r = tr (Lab up b) := ⟨_, rfl⟩
  have hlaH : Hid (la = tr (Lab up a)) := hla
  have hlbH : Hid (lb = tr (Lab up b)) := hlb
  rw [← hla] at hca
  rw [← hlb] at hcb
  clear hr hn hs hy hla hlb
  have hnone : ∀ h : ¬ (Lab up a ∧ Lab up b), r = none := fun h => by
    rw [hrH.out]; unfold joinS; rw [tr_false (fun h2 => h (has_two.1 h2)), if_neg (by decide)]
  go_enter Tryd.func18, Tryd.ntmps18
  cases la with
  | false =>
    have hr0 : Hid (r = none) := hnone fun h => by have := tr_iff.2 h.1; rw [← hlaH.out] at this; cases this
    clear hnone
    go_wp2_with (go_at_call 32; refine hca.mono ?_; rintro e w' ⟨rfl, rfl⟩)
    go_ret2
    refine ⟨?_, rfl⟩; rw [hr0.out]; rfl
  | true =>
    cases lb with
    | false =>
      have hr0 : Hid (r = none) := hnone fun h => by have := tr_iff.2 h.2; rw [← hlbH.out] at this; cases this
      clear hnone
      by_cases hab : a = b
      · subst hab
        exact nomatch hlaH.out.trans hlbH.out.symm
      · go_wp2_with (go_at_call 32; (first | (refine hca.mono ?_; clear hca) | refine hcb.mono ?_); rintro e w' ⟨rfl, rfl⟩)
        go_ret2
        refine ⟨?_, rfl⟩; rw [hr0.out]; rfl
    | true =>
      clear hnone
      have hLa : Lab up a := tr_iff.1 hlaH.out.symm
      have hLb : Lab up b := tr_iff.1 hlbH.out.symm
      obtain ⟨i, rfl, hi, hn64⟩ := lab_nat hn'.out hLa
      obtain ⟨j, rfl, hj, _⟩ := lab_nat hn'.out hLb
      have hI : (i : Int) < (n : Int) := by omega
      have hJ : (j : Int) < (n : Int) := by omega
      obtain ⟨g, o, rfl, hnc, hg, _⟩ := hyH.out.elem i (by rw [← hn'.out]; exact hi)
      have hreg : Hid (∀ i, i < n → w.cell? ⟨g, o + i, none⟩ = some (.int .u64 ((up.getD i 0 : Nat) : Int))) := fun i hi => elem_ms hyH.out i (by rw [← hn'.out]; exact hi)
      obtain ⟨mi, hmi⟩ : ∃ z, z = up.getD i 0 := ⟨_, rfl⟩
      obtain ⟨mj, hmj⟩ : ∃ z, z = up.getD j 0 := ⟨_, rfl⟩
      have hmi9 : mi < 18446744073709551616 := by rw [hmi]; exact small_get hsH.out _
      have hmj9 : mj < 18446744073709551616 := by rw [hmj]; exact small_get hsH.out _
      have ci : w.cell? ⟨g, o + i, none⟩ = some (.int .u64 (mi : Int)) := by rw [hmi]; exact hreg.out i hi
      have cj : w.cell? ⟨g, o + j, none⟩ = some (.int .u64 (mj : Int)) := by rw [hmj]; exact hreg.out j hj
      have hlt : Hid (∀ d, mi.testBit d = true → d < up.length) := fun d hd => by
        rw [hmi] at hd
        exact ((hLa.1.2.2 i (by rw [← hn'.out]; exact hi)).2 d hd).1
      have hr0 : Hid (r = (bl (mi &&& mj)).find? (least up (mi &&& mj))) := by
        show _ = _
        rw [hrH.out]; unfold joinS
        rw [tr_true (has_two.2 ⟨hLa, hLb⟩), if_pos rfl, Int.toNat_natCast, Int.toNat_natCast, ← hmi, ← hmj]
      by_cases hij : i = j
      · subst hij
        have hmij : mj = mi := hmj.trans hmi.symm
        clear hLa hLb hrH hmj hmi
        subst hmij
        go_upto_region 3 with (go_at_call 32; (first | (refine hca.mono ?_; clear hca) | refine hcb.mono ?_); rintro e w' ⟨rfl, rfl⟩)
        try clear hca
        try clear hcb
        go_wp2_with fail
        go_loop [8] (fun u => ∃ x : Nat, x ≤ n ∧ u = .int .i64 (x : Int) ∧ Hid (∀ k, k < x → ¬ okC up mj mj k)) (fun u => n - (intOf u).toNat)
        case atStart => exact ⟨0, by omega, rfl, fun k h => by omega⟩
        case round =>
          obtain ⟨x, hx, rfl, hno⟩ := hrel
          by_cases hlx : x < n
          · have hX : (x : Int) < (n : Int) := by omega
            have hx64 : x < 64 := by omega
            obtain ⟨mx, hmx⟩ : ∃ z, z = up.getD x 0 := ⟨_, rfl⟩
            have hmx9 : mx < 18446744073709551616 := by rw [hmx]; exact small_get hsH.out _
            have cx : w.cell? ⟨g, o + x, none⟩ = some (.int .u64 (mx : Int)) := by rw [hmx]; exact hreg.out x hlx
            have hmxH : Hid (mx = up.getD x 0) := hmx
            have hb1 := bitI_nat (m := mj) hx64
            have hb2 := bitI_nat (m := mj) hx64
            obtain ⟨ok, hok⟩ : ∃ ok, ok = (mj.testBit x && mj.testBit x) := ⟨_, rfl⟩
            have hokH : Hid (ok = (mj.testBit x && mj.testBit x)) := hok
            clear hmx
            cases hxi : bitI mj (x : Int) with
            | false =>
              go_wp2_with (go_at_call 29; (first | refine (bitR _ _ true (by assumption) (by assumption) _).mono ?_ | refine (bitR _ _ false (by assumption) (by assumption) _).mono ?_); rintro e w' ⟨rfl, rfl⟩)
              have hokv : Hid (ok = false) := by show _ = _; rw [hok, ← hb1]; simp only [hxi]; rfl
              clear hok hb1 hb2
              go_loop [9, 10] (fun v u => ∃ (y : Nat) (z : Bool), y ≤ n ∧ u = .int .i64 (y : Int) ∧ v = .bool z ∧ Hid (z = true ↔ (ok = true ∧ ∀ k, k < y → mj.testBit k = true → mj.testBit k = true → bt up x k = true))) (fun _ u => n - (intOf u).toNat)
              case atStart => exact ⟨0, ok, by omega, rfl, by rw [hokv.out], ⟨fun h => ⟨h, fun k hk => by omega⟩, fun h => h.1⟩⟩
              case round =>
                obtain ⟨y, z, hy, rfl, rfl, hz⟩ := hrel
                by_cases hly : y < n
                · have hY : (y : Int) < (n : Int) := by omega
                  have hy64 : y < 64 := by omega
                  cases hyi : bitI mj (y : Int) with
                  | false =>
                    have hz2 : Hid (z = true ↔ (ok = true ∧ ∀ k, k < y + 1 → mj.testBit k = true → mj.testBit k = true → bt up x k = true)) := by
                      refine hz.out.trans ⟨fun h => ⟨h.1, fun k hk h1 h2 => ?_⟩, fun h => ⟨h.1, fun k hk => h.2 k (by omega)⟩⟩
                      by_cases hk2 : k < y
                      · exact h.2 k hk2 h1 h2
                      · have : k = y := by omega
                        subst this; rw [← bitI_nat hy64, hyi] at h1; cases h1
                    clear hz
                    go_wp2_with (go_at_call 29; (first | refine (bitR _ _ true (by assumption) (by assumption) _).mono ?_ | refine (bitR _ _ false (by assumption) (by assumption) _).mono ?_); rintro e w' ⟨rfl, rfl⟩)
                    go_round
                    case rel => exact ⟨y + 1, z, by omega, by go_num, rfl, hz2⟩
                    case measure => simp [intOf]; omega
                  | true =>
                    cases hyj : bitI mj (y : Int) with
                    | false =>
                      exact nomatch hyi.symm.trans hyj
                    | true =>
                      cases hyx : bitI mx (y : Int) with
                      | true =>
                        have hz2 : Hid (z = true ↔ (ok = true ∧ ∀ k, k < y + 1 → mj.testBit k = true → mj.testBit k = true → bt up x k = true)) := by
                          refine hz.out.trans ⟨fun h => ⟨h.1, fun k hk h1 h2 => ?_⟩, fun h => ⟨h.1, fun k hk => h.2 k (by omega)⟩⟩
                          by_cases hk2 : k < y
                          · exact h.2 k hk2 h1 h2
                          · have : k = y := by omega
                            subst this; unfold bt; rw [← hmxH.out, ← bitI_nat hy64, hyx]
                        clear hz
                        go_wp2_with (go_at_call 29; (first | refine (bitR _ _ true (by assumption) (by assumption) _).mono ?_ | refine (bitR _ _ false (by assumption) (by assumption) _).mono ?_); rintro e w' ⟨rfl, rfl⟩)
                        go_round
                        case rel => exact ⟨y + 1, z, by omega, by go_num, rfl, hz2⟩
                        case measure => simp [intOf]; omega
                      | false =>
                        have hz2 : Hid (false = true ↔ (ok = true ∧ ∀ k, k < y + 1 → mj.testBit k = true → mj.testBit k = true → bt up x k = true)) := by
                          refine ⟨fun h => (by cases h), fun h => ?_⟩
                          have := h.2 y (by omega) (by rw [← bitI_nat hy64, hyi]) (by rw [← bitI_nat hy64, hyj])
                          unfold bt at this; rw [← hmxH.out, ← bitI_nat hy64, hyx] at this; cases this
                        clear hz
                        go_wp2_with (go_at_call 29; (first | refine (bitR _ _ true (by assumption) (by assumption) _).mono ?_ | refine (bitR _ _ false (by assumption) (by assumption) _).mono ?_); rintro e w' ⟨rfl, rfl⟩)
                        go_round
                        case rel => exact ⟨y + 1, false, by omega, by go_num, rfl, hz2⟩
                        case measure => simp [intOf]; omega
                · have hY : ¬ (y : Int) < (n : Int) := by omega
                  have hzo : Hid (z = true ↔ okC up mj mj x) := by
                    refine hz.out.trans ?_
                    rw [hokH.out, Bool.and_eq_true]
                    unfold okC
                    have hyn : y = up.length := by have := hn'.out; omega
                    rw [hyn]
                    exact ⟨fun h => ⟨h.1.1, h.1.2, h.2⟩, fun h => ⟨⟨h.1, h.2.1⟩, h.2.2⟩⟩
                  clear hz
                  cases z with
                  | true =>
                    have hr1 : Hid (r = some x) := by
                      show _ = _
                      rw [hr0.out]
                      refine find_some hx64 ((okC_iff hsH.out hmj9 hlt.out hx64).2 (hzo.out.1 rfl)) fun k hk => ?_
                      rw [Bool.eq_false_iff]
                      exact fun h => hno.out k hk ((okC_iff hsH.out hmj9 hlt.out (by omega)).1 h)
                    go_wp2_with fail
                    go_ret2
                    refine ⟨?_, rfl⟩; rw [hr1.out]; rfl
                  | false =>
                    have hno2 : Hid (∀ k, k < x + 1 → ¬ okC up mj mj k) := fun k hk h => by
                      by_cases hk2 : k < x
                      · exact hno.out k hk2 h
                      · have : k = x := by omega
                        subst this; have := hzo.out.2 h; cases this
                    clear hno hzo
                    go_wp2_with fail
                    go_round
                    case rel => exact ⟨x + 1, by omega, by go_num, hno2⟩
                    case measure => simp [intOf]; omega
            | true =>
              go_wp2_with (go_at_call 29; (first | refine (bitR _ _ true (by assumption) (by assumption) _).mono ?_ | refine (bitR _ _ false (by assumption) (by assumption) _).mono ?_); rintro e w' ⟨rfl, rfl⟩)
              have hokv : Hid (ok = true) := by show _ = _; rw [hok, ← hb1]; simp only [hxi]; rfl
              clear hok hb1 hb2
              go_loop [9, 10] (fun v u => ∃ (y : Nat) (z : Bool), y ≤ n ∧ u = .int .i64 (y : Int) ∧ v = .bool z ∧ Hid (z = true ↔ (ok = true ∧ ∀ k, k < y → mj.testBit k = true → mj.testBit k = true → bt up x k = true))) (fun _ u => n - (intOf u).toNat)
              case atStart => exact ⟨0, ok, by omega, rfl, by rw [hokv.out], ⟨fun h => ⟨h, fun k hk => by omega⟩, fun h => h.1⟩⟩
              case round =>
                obtain ⟨y, z, hy, rfl, rfl, hz⟩ := hrel
                by_cases hly : y < n
                · have hY : (y : Int) < (n : Int) := by omega
                  have hy64 : y < 64 := by omega
                  cases hyi : bitI mj (y : Int) with
                  | false =>
                    have hz2 : Hid (z = true ↔ (ok = true ∧ ∀ k, k < y + 1 → mj.testBit k = true → mj.testBit k = true → bt up x k = true)) := by
                      refine hz.out.trans ⟨fun h => ⟨h.1, fun k hk h1 h2 => ?_⟩, fun h => ⟨h.1, fun k hk => h.2 k (by omega)⟩⟩
                      by_cases hk2 : k < y
                      · exact h.2 k hk2 h1 h2
                      · have : k = y := by omega
                        subst this; rw [← bitI_nat hy64, hyi] at h1; cases h1
                    clear hz
                    go_wp2_with (go_at_call 29; (first | refine (bitR _ _ true (by assumption) (by assumption) _).mono ?_ | refine (bitR _ _ false (by assumption) (by assumption) _).mono ?_); rintro e w' ⟨rfl, rfl⟩)
                    go_round
                    case rel => exact ⟨y + 1, z, by omega, by go_num, rfl, hz2⟩
                    case measure => simp [intOf]; omega
                  | true =>
                    cases hyj : bitI mj (y : Int) with
                    | false =>
                      exact nomatch hyi.symm.trans hyj
                    | true =>
                      cases hyx : bitI mx (y : Int) with
                      | true =>
                        have hz2 : Hid (z = true ↔ (ok = true ∧ ∀ k, k < y + 1 → mj.testBit k = true → mj.testBit k = true → bt up x k = true)) := by
                          refine hz.out.trans ⟨fun h => ⟨h.1, fun k hk h1 h2 => ?_⟩, fun h => ⟨h.1, fun k hk => h.2 k (by omega)⟩⟩
                          by_cases hk2 : k < y
                          · exact h.2 k hk2 h1 h2
                          · have : k = y := by omega
                            subst this; unfold bt; rw [← hmxH.out, ← bitI_nat hy64, hyx]
                        clear hz
                        go_wp2_with (go_at_call 29; (first | refine (bitR _ _ true (by assumption) (by assumption) _).mono ?_ | refine (bitR _ _ false (by assumption) (by assumption) _).mono ?_); rintro e w' ⟨rfl, rfl⟩)
                        go_round
                        case rel => exact ⟨y + 1, z, by omega, by go_num, rfl, hz2⟩
                        case measure => simp [intOf]; omega
                      | false =>
                        have hz2 : Hid (false = true ↔ (ok = true ∧ ∀ k, k < y + 1 → mj.testBit k = true → mj.testBit k = true → bt up x k = true)) := by
                          refine ⟨fun h => (by cases h), fun h => ?_⟩
                          have := h.2 y (by omega) (by rw [← bitI_nat hy64, hyi]) (by rw [← bitI_nat hy64, hyj])
                          unfold bt at this; rw [← hmxH.out, ← bitI_nat hy64, hyx] at this; cases this
                        clear hz
                        go_wp2_with (go_at_call 29; (first | refine (bitR _ _ true (by assumption) (by assumption) _).mono ?_ | refine (bitR _ _ false (by assumption) (by assumption) _).mono ?_); rintro e w' ⟨rfl, rfl⟩)
                        go_round
                        case rel => exact ⟨y + 1, false, by omega, by go_num, rfl, hz2⟩
                        case measure => simp [intOf]; omega
                · have hY : ¬ (y : Int) < (n : Int) := by omega
                  have hzo : Hid (z = true ↔ okC up mj mj x) := by
                    refine hz.out.trans ?_
                    rw [hokH.out, Bool.and_eq_true]
                    unfold okC
                    have hyn : y = up.length := by have := hn'.out; omega
                    rw [hyn]
                    exact ⟨fun h => ⟨h.1.1, h.1.2, h.2⟩, fun h => ⟨⟨h.1, h.2.1⟩, h.2.2⟩⟩
                  clear hz
                  cases z with
                  | true =>
                    have hr1 : Hid (r = some x) := by
                      show _ = _
                      rw [hr0.out]
                      refine find_some hx64 ((okC_iff hsH.out hmj9 hlt.out hx64).2 (hzo.out.1 rfl)) fun k hk => ?_
                      rw [Bool.eq_false_iff]
                      exact fun h => hno.out k hk ((okC_iff hsH.out hmj9 hlt.out (by omega)).1 h)
                    go_wp2_with fail
                    go_ret2
                    refine ⟨?_, rfl⟩; rw [hr1.out]; rfl
                  | false =>
                    have hno2 : Hid (∀ k, k < x + 1 → ¬ okC up mj mj k) := fun k hk h => by
                      by_cases hk2 : k < x
                      · exact hno.out k hk2 h
                      · have : k = x := by omega
                        subst this; have := hzo.out.2 h; cases this
                    clear hno hzo
                    go_wp2_with fail
                    go_round
                    case rel => exact ⟨x + 1, by omega, by go_num, hno2⟩
                    case measure => simp [intOf]; omega
          · have hX : ¬ (x : Int) < (n : Int) := by omega
            have hr1 : Hid (r = none) := by
              show _ = _
              rw [hr0.out]
              refine find_none fun k hk => ?_
              rw [Bool.eq_false_iff]
              intro h
              have h2 := (okC_iff hsH.out hmj9 hlt.out hk).1 h
              have := hlt.out k h2.1
              exact hno.out k (by rw [← hn'.out] at this; omega) h2
            go_wp2_with fail
            go_ret2
            refine ⟨?_, rfl⟩; rw [hr1.out]; rfl
      · clear hLa hLb hrH hmj hmi
        go_upto_region 3 with (go_at_call 32; (first | (refine hca.mono ?_; clear hca) | refine hcb.mono ?_); rintro e w' ⟨rfl, rfl⟩)
        go_wp2_with fail
        go_loop [8] (fun u => ∃ x : Nat, x ≤ n ∧ u = .int .i64 (x : Int) ∧ Hid (∀ k, k < x → ¬ okC up mi mj k)) (fun u => n - (intOf u).toNat)
        case atStart => exact ⟨0, by omega, rfl, fun k h => by omega⟩
        case round =>
          obtain ⟨x, hx, rfl, hno⟩ := hrel
          by_cases hlx : x < n
          · have hX : (x : Int) < (n : Int) := by omega
            have hx64 : x < 64 := by omega
            obtain ⟨mx, hmx⟩ : ∃ z, z = up.getD x 0 := ⟨_, rfl⟩
            have hmx9 : mx < 18446744073709551616 := by rw [hmx]; exact small_get hsH.out _
            have cx : w.cell? ⟨g, o + x, none⟩ = some (.int .u64 (mx : Int)) := by rw [hmx]; exact hreg.out x hlx
            have hmxH : Hid (mx = up.getD x 0) := hmx
            have hb1 := bitI_nat (m := mi) hx64
            have hb2 := bitI_nat (m := mj) hx64
            obtain ⟨ok, hok⟩ : ∃ ok, ok = (mi.testBit x && mj.testBit x) := ⟨_, rfl⟩
            have hokH : Hid (ok = (mi.testBit x && mj.testBit x)) := hok
            clear hmx
            cases hxi : bitI mi (x : Int) with
            | false =>
              go_wp2_with (go_at_call 29; (first | refine (bitR _ _ true (by assumption) (by assumption) _).mono ?_ | refine (bitR _ _ false (by assumption) (by assumption) _).mono ?_); rintro e w' ⟨rfl, rfl⟩)
              have hokv : Hid (ok = false) := by show _ = _; rw [hok, ← hb1, hxi]; rfl
              clear hok hb1 hb2
              go_loop [9, 10] (fun v u => ∃ (y : Nat) (z : Bool), y ≤ n ∧ u = .int .i64 (y : Int) ∧ v = .bool z ∧ Hid (z = true ↔ (ok = true ∧ ∀ k, k < y → mi.testBit k = true → mj.testBit k = true → bt up x k = true))) (fun _ u => n - (intOf u).toNat)
              case atStart => exact ⟨0, ok, by omega, rfl, by rw [hokv.out], ⟨fun h => ⟨h, fun k hk => by omega⟩, fun h => h.1⟩⟩
              case round =>
                obtain ⟨y, z, hy, rfl, rfl, hz⟩ := hrel
                by_cases hly : y < n
                · have hY : (y : Int) < (n : Int) := by omega
                  have hy64 : y < 64 := by omega
                  cases hyi : bitI mi (y : Int) with
                  | false =>
                    have hz2 : Hid (z = true ↔ (ok = true ∧ ∀ k, k < y + 1 → mi.testBit k = true → mj.testBit k = true → bt up x k = true)) := by
                      refine hz.out.trans ⟨fun h => ⟨h.1, fun k hk h1 h2 => ?_⟩, fun h => ⟨h.1, fun k hk => h.2 k (by omega)⟩⟩
                      by_cases hk2 : k < y
                      · exact h.2 k hk2 h1 h2
                      · have : k = y := by omega
                        subst this; rw [← bitI_nat hy64, hyi] at h1; cases h1
                    clear hz
                    go_wp2_with (go_at_call 29; (first | refine (bitR _ _ true (by assumption) (by assumption) _).mono ?_ | refine (bitR _ _ false (by assumption) (by assumption) _).mono ?_); rintro e w' ⟨rfl, rfl⟩)
                    go_round
                    case rel => exact ⟨y + 1, z, by omega, by go_num, rfl, hz2⟩
                    case measure => simp [intOf]; omega
                  | true =>
                    cases hyj : bitI mj (y : Int) with
                    | false =>
                      have hz2 : Hid (z = true ↔ (ok = true ∧ ∀ k, k < y + 1 → mi.testBit k = true → mj.testBit k = true → bt up x k = true)) := by
                        refine hz.out.trans ⟨fun h => ⟨h.1, fun k hk h1 h2 => ?_⟩, fun h => ⟨h.1, fun k hk => h.2 k (by omega)⟩⟩
                        by_cases hk2 : k < y
                        · exact h.2 k hk2 h1 h2
                        · have : k = y := by omega
                          subst this; rw [← bitI_nat hy64, hyj] at h2; cases h2
                      clear hz
                      go_wp2_with (go_at_call 29; (first | refine (bitR _ _ true (by assumption) (by assumption) _).mono ?_ | refine (bitR _ _ false (by assumption) (by assumption) _).mono ?_); rintro e w' ⟨rfl, rfl⟩)
                      go_round
                      case rel => exact ⟨y + 1, z, by omega, by go_num, rfl, hz2⟩
                      case measure => simp [intOf]; omega
                    | true =>
                      cases hyx : bitI mx (y : Int) with
                      | true =>
                        have hz2 : Hid (z = true ↔ (ok = true ∧ ∀ k, k < y + 1 → mi.testBit k = true → mj.testBit k = true → bt up x k = true)) := by
                          refine hz.out.trans ⟨fun h => ⟨h.1, fun k hk h1 h2 => ?_⟩, fun h => ⟨h.1, fun k hk => h.2 k (by omega)⟩⟩
                          by_cases hk2 : k < y
                          · exact h.2 k hk2 h1 h2
                          · have : k = y := by omega
                            subst this; unfold bt; rw [← hmxH.out, ← bitI_nat hy64, hyx]
                        clear hz
                        go_wp2_with (go_at_call 29; (first | refine (bitR _ _ true (by assumption) (by assumption) _).mono ?_ | refine (bitR _ _ false (by assumption) (by assumption) _).mono ?_); rintro e w' ⟨rfl, rfl⟩)
                        go_round
                        case rel => exact ⟨y + 1, z, by omega, by go_num, rfl, hz2⟩
                        case measure => simp [intOf]; omega
                      | false =>
                        have hz2 : Hid (false = true ↔ (ok = true ∧ ∀ k, k < y + 1 → mi.testBit k = true → mj.testBit k = true → bt up x k = true)) := by
                          refine ⟨fun h => (by cases h), fun h => ?_⟩
                          have := h.2 y (by omega) (by rw [← bitI_nat hy64, hyi]) (by rw [← bitI_nat hy64, hyj])
                          unfold bt at this; rw [← hmxH.out, ← bitI_nat hy64, hyx] at this; cases this
                        clear hz
                        go_wp2_with (go_at_call 29; (first | refine (bitR _ _ true (by assumption) (by assumption) _).mono ?_ | refine (bitR _ _ false (by assumption) (by assumption) _).mono ?_); rintro e w' ⟨rfl, rfl⟩)
                        go_round
                        case rel => exact ⟨y + 1, false, by omega, by go_num, rfl, hz2⟩
                        case measure => simp [intOf]; omega
                · have hY : ¬ (y : Int) < (n : Int) := by omega
                  have hzo : Hid (z = true ↔ okC up mi mj x) := by
                    refine hz.out.trans ?_
                    rw [hokH.out, Bool.and_eq_true]
                    unfold okC
                    have hyn : y = up.length := by have := hn'.out; omega
                    rw [hyn]
                    exact ⟨fun h => ⟨h.1.1, h.1.2, h.2⟩, fun h => ⟨⟨h.1, h.2.1⟩, h.2.2⟩⟩
                  clear hz
                  cases z with
                  | true =>
                    have hr1 : Hid (r = some x) := by
                      show _ = _
                      rw [hr0.out]
                      refine find_some hx64 ((okC_iff hsH.out hmi9 hlt.out hx64).2 (hzo.out.1 rfl)) fun k hk => ?_
                      rw [Bool.eq_false_iff]
                      exact fun h => hno.out k hk ((okC_iff hsH.out hmi9 hlt.out (by omega)).1 h)
                    go_wp2_with fail
                    go_ret2
                    refine ⟨?_, rfl⟩; rw [hr1.out]; rfl
                  | false =>
                    have hno2 : Hid (∀ k, k < x + 1 → ¬ okC up mi mj k) := fun k hk h => by
                      by_cases hk2 : k < x
                      · exact hno.out k hk2 h
                      · have : k = x := by omega
                        subst this; have := hzo.out.2 h; cases this
                    clear hno hzo
                    go_wp2_with fail
                    go_round
                    case rel => exact ⟨x + 1, by omega, by go_num, hno2⟩
                    case measure => simp [intOf]; omega
            | true =>
              cases hxj : bitI mj (x : Int) with
              | false =>
                go_wp2_with (go_at_call 29; (first | refine (bitR _ _ true (by assumption) (by assumption) _).mono ?_ | refine (bitR _ _ false (by assumption) (by assumption) _).mono ?_); rintro e w' ⟨rfl, rfl⟩)
                have hokv : Hid (ok = false) := by show _ = _; rw [hok, ← hb1, ← hb2]; simp only [hxi, hxj]; rfl
                clear hok hb1 hb2
                go_loop [9, 10] (fun v u => ∃ (y : Nat) (z : Bool), y ≤ n ∧ u = .int .i64 (y : Int) ∧ v = .bool z ∧ Hid (z = true ↔ (ok = true ∧ ∀ k, k < y → mi.testBit k = true → mj.testBit k = true → bt up x k = true))) (fun _ u => n - (intOf u).toNat)
                case atStart => exact ⟨0, ok, by omega, rfl, by rw [hokv.out], ⟨fun h => ⟨h, fun k hk => by omega⟩, fun h => h.1⟩⟩
                case round =>
                  obtain ⟨y, z, hy, rfl, rfl, hz⟩ := hrel
                  by_cases hly : y < n
                  · have hY : (y : Int) < (n : Int) := by omega
                    have hy64 : y < 64 := by omega
                    cases hyi : bitI mi (y : Int) with
                    | false =>
                      have hz2 : Hid (z = true ↔ (ok = true ∧ ∀ k, k < y + 1 → mi.testBit k = true → mj.testBit k = true → bt up x k = true)) := by
                        refine hz.out.trans ⟨fun h => ⟨h.1, fun k hk h1 h2 => ?_⟩, fun h => ⟨h.1, fun k hk => h.2 k (by omega)⟩⟩
                        by_cases hk2 : k < y
                        · exact h.2 k hk2 h1 h2
                        · have : k = y := by omega
                          subst this; rw [← bitI_nat hy64, hyi] at h1; cases h1
                      clear hz
                      go_wp2_with (go_at_call 29; (first | refine (bitR _ _ true (by assumption) (by assumption) _).mono ?_ | refine (bitR _ _ false (by assumption) (by assumption) _).mono ?_); rintro e w' ⟨rfl, rfl⟩)
                      go_round
                      case rel => exact ⟨y + 1, z, by omega, by go_num, rfl, hz2⟩
                      case measure => simp [intOf]; omega
                    | true =>
                      cases hyj : bitI mj (y : Int) with
                      | false =>
                        have hz2 : Hid (z = true ↔ (ok = true ∧ ∀ k, k < y + 1 → mi.testBit k = true → mj.testBit k = true → bt up x k = true)) := by
                          refine hz.out.trans ⟨fun h => ⟨h.1, fun k hk h1 h2 => ?_⟩, fun h => ⟨h.1, fun k hk => h.2 k (by omega)⟩⟩
                          by_cases hk2 : k < y
                          · exact h.2 k hk2 h1 h2
                          · have : k = y := by omega
                            subst this; rw [← bitI_nat hy64, hyj] at h2; cases h2
                        clear hz
                        go_wp2_with (go_at_call 29; (first | refine (bitR _ _ true (by assumption) (by assumption) _).mono ?_ | refine (bitR _ _ false (by assumption) (by assumption) _).mono ?_); rintro e w' ⟨rfl, rfl⟩)
                        go_round
                        case rel => exact ⟨y + 1, z, by omega, by go_num, rfl, hz2⟩
                        case measure => simp [intOf]; omega
                      | true =>
                        cases hyx : bitI mx (y : Int) with
                        | true =>
                          have hz2 : Hid (z = true ↔ (ok = true ∧ ∀ k, k < y + 1 → mi.testBit k = true → mj.testBit k = true → bt up x k = true)) := by
                            refine hz.out.trans ⟨fun h => ⟨h.1, fun k hk h1 h2 => ?_⟩, fun h => ⟨h.1, fun k hk => h.2 k (by omega)⟩⟩
                            by_cases hk2 : k < y
                            · exact h.2 k hk2 h1 h2
                            · have : k = y := by omega
                              subst this; unfold bt; rw [← hmxH.out, ← bitI_nat hy64, hyx]
                          clear hz
                          go_wp2_with (go_at_call 29; (first | refine (bitR _ _ true (by assumption) (by assumption) _).mono ?_ | refine (bitR _ _ false (by assumption) (by assumption) _).mono ?_); rintro e w' ⟨rfl, rfl⟩)
                          go_round
                          case rel => exact ⟨y + 1, z, by omega, by go_num, rfl, hz2⟩
                          case measure => simp [intOf]; omega
                        | false =>
                          have hz2 : Hid (false = true ↔ (ok = true ∧ ∀ k, k < y + 1 → mi.testBit k = true → mj.testBit k = true → bt up x k = true)) := by
                            refine ⟨fun h => (by cases h), fun h => ?_⟩
                            have := h.2 y (by omega) (by rw [← bitI_nat hy64, hyi]) (by rw [← bitI_nat hy64, hyj])
                            unfold bt at this; rw [← hmxH.out, ← bitI_nat hy64, hyx] at this; cases this
                          clear hz
                          go_wp2_with (go_at_call 29; (first | refine (bitR _ _ true (by assumption) (by assumption) _).mono ?_ | refine (bitR _ _ false (by assumption) (by assumption) _).mono ?_); rintro e w' ⟨rfl, rfl⟩)
                          go_round
                          case rel => exact ⟨y + 1, false, by omega, by go_num, rfl, hz2⟩
                          case measure => simp [intOf]; omega
                  · have hY : ¬ (y : Int) < (n : Int) := by omega
                    have hzo : Hid (z = true ↔ okC up mi mj x) := by
                      refine hz.out.trans ?_
                      rw [hokH.out, Bool.and_eq_true]
                      unfold okC
                      have hyn : y = up.length := by have := hn'.out; omega
                      rw [hyn]
                      exact ⟨fun h => ⟨h.1.1, h.1.2, h.2⟩, fun h => ⟨⟨h.1, h.2.1⟩, h.2.2⟩⟩
                    clear hz
                    cases z with
                    | true =>
                      have hr1 : Hid (r = some x) := by
                        show _ = _
                        rw [hr0.out]
                        refine find_some hx64 ((okC_iff hsH.out hmi9 hlt.out hx64).2 (hzo.out.1 rfl)) fun k hk => ?_
                        rw [Bool.eq_false_iff]
                        exact fun h => hno.out k hk ((okC_iff hsH.out hmi9 hlt.out (by omega)).1 h)
                      go_wp2_with fail
                      go_ret2
                      refine ⟨?_, rfl⟩; rw [hr1.out]; rfl
                    | false =>
                      have hno2 : Hid (∀ k, k < x + 1 → ¬ okC up mi mj k) := fun k hk h => by
                        by_cases hk2 : k < x
                        · exact hno.out k hk2 h
                        · have : k = x := by omega
                          subst this; have := hzo.out.2 h; cases this
                      clear hno hzo
                      go_wp2_with fail
                      go_round
                      case rel => exact ⟨x + 1, by omega, by go_num, hno2⟩
                      case measure => simp [intOf]; omega
              | true =>
                go_wp2_with (go_at_call 29; (first | refine (bitR _ _ true (by assumption) (by assumption) _).mono ?_ | refine (bitR _ _ false (by assumption) (by assumption) _).mono ?_); rintro e w' ⟨rfl, rfl⟩)
                have hokv : Hid (ok = true) := by show _ = _; rw [hok, ← hb1, ← hb2]; simp only [hxi, hxj]; rfl
                clear hok hb1 hb2
                go_loop [9, 10] (fun v u => ∃ (y : Nat) (z : Bool), y ≤ n ∧ u = .int .i64 (y : Int) ∧ v = .bool z ∧ Hid (z = true ↔ (ok = true ∧ ∀ k, k < y → mi.testBit k = true → mj.testBit k = true → bt up x k = true))) (fun _ u => n - (intOf u).toNat)
                case atStart => exact ⟨0, ok, by omega, rfl, by rw [hokv.out], ⟨fun h => ⟨h, fun k hk => by omega⟩, fun h => h.1⟩⟩
                case round =>
                  obtain ⟨y, z, hy, rfl, rfl, hz⟩ := hrel
                  by_cases hly : y < n
                  · have hY : (y : Int) < (n : Int) := by omega
                    have hy64 : y < 64 := by omega
                    cases hyi : bitI mi (y : Int) with
                    | false =>
                      have hz2 : Hid (z = true ↔ (ok = true ∧ ∀ k, k < y + 1 → mi.testBit k = true → mj.testBit k = true → bt up x k = true)) := by
                        refine hz.out.trans ⟨fun h => ⟨h.1, fun k hk h1 h2 => ?_⟩, fun h => ⟨h.1, fun k hk => h.2 k (by omega)⟩⟩
                        by_cases hk2 : k < y
                        · exact h.2 k hk2 h1 h2
                        · have : k = y := by omega
                          subst this; rw [← bitI_nat hy64, hyi] at h1; cases h1
                      clear hz
                      go_wp2_with (go_at_call 29; (first | refine (bitR _ _ true (by assumption) (by assumption) _).mono ?_ | refine (bitR _ _ false (by assumption) (by assumption) _).mono ?_); rintro e w' ⟨rfl, rfl⟩)
                      go_round
                      case rel => exact ⟨y + 1, z, by omega, by go_num, rfl, hz2⟩
                      case measure => simp [intOf]; omega
                    | true =>
                      cases hyj : bitI mj (y : Int) with
                      | false =>
                        have hz2 : Hid (z = true ↔ (ok = true ∧ ∀ k, k < y + 1 → mi.testBit k = true → mj.testBit k = true → bt up x k = true)) := by
                          refine hz.out.trans ⟨fun h => ⟨h.1, fun k hk h1 h2 => ?_⟩, fun h => ⟨h.1, fun k hk => h.2 k (by omega)⟩⟩
                          by_cases hk2 : k < y
                          · exact h.2 k hk2 h1 h2
                          · have : k = y := by omega
                            subst this; rw [← bitI_nat hy64, hyj] at h2; cases h2
                        clear hz
                        go_wp2_with (go_at_call 29; (first | refine (bitR _ _ true (by assumption) (by assumption) _).mono ?_ | refine (bitR _ _ false (by assumption) (by assumption) _).mono ?_); rintro e w' ⟨rfl, rfl⟩)
                        go_round
                        case rel => exact ⟨y + 1, z, by omega, by go_num, rfl, hz2⟩
                        case measure => simp [intOf]; omega
                      | true =>
                        cases hyx : bitI mx (y : Int) with
                        | true =>
                          have hz2 : Hid (z = true ↔ (ok = true ∧ ∀ k, k < y + 1 → mi.testBit k = true → mj.testBit k = true → bt up x k = true)) := by
                            refine hz.out.trans ⟨fun h => ⟨h.1, fun k hk h1 h2 => ?_⟩, fun h => ⟨h.1, fun k hk => h.2 k (by omega)⟩⟩
                            by_cases hk2 : k < y
                            · exact h.2 k hk2 h1 h2
                            · have : k = y := by omega
                              subst this; unfold bt; rw [← hmxH.out, ← bitI_nat hy64, hyx]
                          clear hz
                          go_wp2_with (go_at_call 29; (first | refine (bitR _ _ true (by assumption) (by assumption) _).mono ?_ | refine (bitR _ _ false (by assumption) (by assumption) _).mono ?_); rintro e w' ⟨rfl, rfl⟩)
                          go_round
                          case rel => exact ⟨y + 1, z, by omega, by go_num, rfl, hz2⟩
                          case measure => simp [intOf]; omega
                        | false =>
                          have hz2 : Hid (false = true ↔ (ok = true ∧ ∀ k, k < y + 1 → mi.testBit k = true → mj.testBit k = true → bt up x k = true)) := by
                            refine ⟨fun h => (by cases h), fun h => ?_⟩
                            have := h.2 y (by omega) (by rw [← bitI_nat hy64, hyi]) (by rw [← bitI_nat hy64, hyj])
                            unfold bt at this; rw [← hmxH.out, ← bitI_nat hy64, hyx] at this; cases this
                          clear hz
                          go_wp2_with (go_at_call 29; (first | refine (bitR _ _ true (by assumption) (by assumption) _).mono ?_ | refine (bitR _ _ false (by assumption) (by assumption) _).mono ?_); rintro e w' ⟨rfl, rfl⟩)
                          go_round
                          case rel => exact ⟨y + 1, false, by omega, by go_num, rfl, hz2⟩
                          case measure => simp [intOf]; omega
                  · have hY : ¬ (y : Int) < (n : Int) := by omega
                    have hzo : Hid (z = true ↔ okC up mi mj x) := by
                      refine hz.out.trans ?_
                      rw [hokH.out, Bool.and_eq_true]
                      unfold okC
                      have hyn : y = up.length := by have := hn'.out; omega
                      rw [hyn]
                      exact ⟨fun h => ⟨h.1.1, h.1.2, h.2⟩, fun h => ⟨⟨h.1, h.2.1⟩, h.2.2⟩⟩
                    clear hz
                    cases z with
                    | true =>
                      have hr1 : Hid (r = some x) := by
                        show _ = _
                        rw [hr0.out]
                        refine find_some hx64 ((okC_iff hsH.out hmi9 hlt.out hx64).2 (hzo.out.1 rfl)) fun k hk => ?_
                        rw [Bool.eq_false_iff]
                        exact fun h => hno.out k hk ((okC_iff hsH.out hmi9 hlt.out (by omega)).1 h)
                      go_wp2_with fail
                      go_ret2
                      refine ⟨?_, rfl⟩; rw [hr1.out]; rfl
                    | false =>
                      have hno2 : Hid (∀ k, k < x + 1 → ¬ okC up mi mj k) := fun k hk h => by
                        by_cases hk2 : k < x
                        · exact hno.out k hk2 h
                        · have : k = x := by omega
                          subst this; have := hzo.out.2 h; cases this
                      clear hno hzo
                      go_wp2_with fail
                      go_round
                      case rel => exact ⟨x + 1, by omega, by go_num, hno2⟩
                      case measure => simp [intOf]; omega
          · have hX : ¬ (x : Int) < (n : Int) := by omega
            have hr1 : Hid (r = none) := by
              show _ = _
              rw [hr0.out]
              refine find_none fun k hk => ?_
              rw [Bool.eq_false_iff]
              intro h
              have h2 := (okC_iff hsH.out hmi9 hlt.out hk).1 h
              have := hlt.out k h2.1
              exact hno.out k (by rw [← hn'.out] at this; omega) h2
            go_wp2_with fail
            go_ret2
            refine ⟨?_, rfl⟩; rw [hr1.out]; rfl

end Go.Proofs.YtfbbpodlemllcaaDoor
