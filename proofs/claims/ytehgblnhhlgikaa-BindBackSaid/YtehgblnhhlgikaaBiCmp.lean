/-
  Bindings: the program's and the document's comparisons of values.
-/
import Derived.Test.YtehgblnhhlgikaaBiBase
import Derived.Deep.DeepCutAuto
namespace Go.Proofs.Ytehgblnhhlgikaa.Bi
open Go.RowKit
set_option linter.unusedVariables false
set_option linter.unusedSimpArgs false
theorem cmpL_self : ∀ a, cmpL a a = 0
  | [] => rfl
  | x :: a => by rw [cmpL, if_neg (u8_irr x), if_neg (u8_irr x)]; exact cmpL_self a
theorem cmpL_eq {a b : List UInt8} (h : cmpL a b = 0) : a = b := by
  have := eq_cmp a b
  rw [h] at this
  simpa using this
theorem byteList (s : ByteArray) : s.toList.length = s.size := by
  rw [ByteArray.toList_eq]
  obtain ⟨⟨l⟩⟩ := s
  rfl
theorem byteGet (s : ByteArray) (i : Nat) (h : i < s.size) : s.toList[i]? = some s[i] := by
  have hl := byteList s
  rw [List.getElem?_eq_getElem (by omega)]
  congr 1
  have e := ByteArray.toList_eq s
  obtain ⟨⟨l⟩⟩ := s
  simp only [e]
  rfl
theorem bytes_step {a b : ByteArray} {i : Nat} (ha : i < a.size) (hb : i < b.size) : cmpL (a.toList.drop i) (b.toList.drop i) = if a[i] < b[i] then -1 else if b[i] < a[i] then 1 else cmpL (a.toList.drop (i + 1)) (b.toList.drop (i + 1)) := by
  have h1 : a.toList.drop i = a[i] :: a.toList.drop (i + 1) := by
    rw [List.drop_eq_getElem_cons (by rw [byteList]; exact ha)]
    congr 1
    have := byteGet a i ha
    rw [List.getElem?_eq_getElem (by rw [byteList]; exact ha)] at this
    exact Option.some.inj this
  have h2 : b.toList.drop i = b[i] :: b.toList.drop (i + 1) := by
    rw [List.drop_eq_getElem_cons (by rw [byteList]; exact hb)]
    congr 1
    have := byteGet b i hb
    rw [List.getElem?_eq_getElem (by rw [byteList]; exact hb)] at this
    exact Option.some.inj this
  rw [h1, h2, cmpL]
theorem bytes_end {a b : ByteArray} {i : Nat} (h : ¬ (i < a.size ∧ i < b.size)) (hia : i ≤ a.size) (hib : i ≤ b.size) : cmpL (a.toList.drop i) (b.toList.drop i) = if a.size < b.size then -1 else if b.size < a.size then 1 else 0 := by
  have ha := byteList a
  have hb := byteList b
  by_cases h1 : i < a.size
  · have e : b.toList.drop i = [] := List.drop_eq_nil_iff.2 (by omega)
    have e2 : a.toList.drop i = a.toList[i]'(by omega) :: a.toList.drop (i + 1) := List.drop_eq_getElem_cons (by omega)
    rw [e, e2, cmpL, if_neg (by omega), if_pos (by omega)]
  · have e : a.toList.drop i = [] := List.drop_eq_nil_iff.2 (by omega)
    by_cases h2 : i < b.size
    · have e2 : b.toList.drop i = b.toList[i]'(by omega) :: b.toList.drop (i + 1) := List.drop_eq_getElem_cons (by omega)
      rw [e, e2, cmpL, if_pos (by omega)]
    · have e2 : b.toList.drop i = [] := List.drop_eq_nil_iff.2 (by omega)
      rw [e, e2, cmpL, if_neg (by omega), if_neg (by omega)]
set_option maxRecDepth 100000 in
set_option maxHeartbeats 1000000 in
theorem bytes_calls (a b : ByteArray) (hA : a.size ≤ 9223372036854775807) (hB : b.size ≤ 9223372036854775807) (w : World) : Calls Try.prog 37 #[.string a, .string b] w fun e w' => e = .returned (.int .i64 (cmpL a.toList b.toList)) ∧ Below w.heap.size w w' := by
  go_enter Try.func37, Try.ntmps37
  go_wp2_with fail
  go_loopw [5] (fun u wr => ∃ i : Nat, i ≤ a.size ∧ i ≤ b.size ∧ u = .int .i64 i ∧ Hid (cmpL a.toList b.toList = cmpL (a.toList.drop i) (b.toList.drop i)) ∧ Hid (Below w.heap.size w wr)) (fun u _ => a.size - (intOf u).toNat)
  case atStart => exact ⟨0, by omega, by omega, rfl, rfl, Below.refl _ _⟩
  case round =>
    obtain ⟨i, hia, hib, rfl, hc, hB⟩ := hrel
    by_cases hlt : i < a.size ∧ i < b.size
    · obtain ⟨ha, hb⟩ := hlt
      have hst := bytes_step ha hb
      obtain ⟨x, hx⟩ : ∃ x : UInt8, x = a[i] := ⟨_, rfl⟩
      obtain ⟨y, hy⟩ : ∃ y : UInt8, y = b[i] := ⟨_, rfl⟩
      rw [← hx, ← hy] at hst
      have hst' : Hid (cmpL (a.toList.drop i) (b.toList.drop i) = if x < y then -1 else if y < x then 1 else cmpL (a.toList.drop (i + 1)) (b.toList.drop (i + 1))) := hst
      have hI1 : (i : Int) < (a.size : Int) := by omega
      have hI2 : (i : Int) < (b.size : Int) := by omega
      have ixa : ∀ v : World, (Instr.index 9 (.string a) (.int .i64 (i : Int))).run Try.prog v = .ok (.int .u8 (x.toNat : Int)) v := fun v => by
        rw [run_index_string v 9 a .i64 (i : Int) (by exact Try.underlying9), dif_pos (by omega), hx]; rfl
      have ixb : ∀ v : World, (Instr.index 9 (.string b) (.int .i64 (i : Int))).run Try.prog v = .ok (.int .u8 (y.toNat : Int)) v := fun v => by
        rw [run_index_string v 9 b .i64 (i : Int) (by exact Try.underlying9), dif_pos (by omega), hy]; rfl
      clear hx hy hst
      have px := UInt8.lt_iff_toNat_lt (a := x) (b := y)
      have py := UInt8.lt_iff_toNat_lt (a := y) (b := x)
      generalize x.toNat = p at *
      generalize y.toNat = q at *
      by_cases hpq : p < q
      · have hI : (p : Int) < (q : Int) := by omega
        have hr : Hid (cmpL a.toList b.toList = -1) := by show _ = _; rw [hc.out, hst'.out, if_pos (px.2 hpq)]
        clear px py hc hst'
        go_upto_region 4 with fail
        go_quiet (fail)
        have hB2 : Hid (Below w.heap.size w (wr.drewN nq)) := hB.out.trans ⟨rfl, rfl, rfl, Nat.le_refl _, fun _ _ => rfl⟩
        generalize wr.drewN nq = w2 at hB2 ⊢
        go_wp2_with fail
        go_ret
        exact ⟨by rw [hr.out]; rfl, hB2.out⟩
      · have hI : ¬ (p : Int) < (q : Int) := by omega
        have hnx : ¬ x < y := fun h => hpq (px.1 h)
        by_cases hqp : q < p
        · have hI2 : (q : Int) < (p : Int) := by omega
          have hr : Hid (cmpL a.toList b.toList = 1) := by show _ = _; rw [hc.out, hst'.out, if_neg hnx, if_pos (py.2 hqp)]
          clear px py hc hst' hnx
          go_upto_region 4 with fail
          go_quiet (fail)
          have hB2 : Hid (Below w.heap.size w (wr.drewN nq)) := hB.out.trans ⟨rfl, rfl, rfl, Nat.le_refl _, fun _ _ => rfl⟩
          generalize wr.drewN nq = w2 at hB2 ⊢
          go_upto_region 6 with fail
          go_quiet (fail)
          have hB3 : Hid (Below w.heap.size w (w2.drewN nq)) := hB2.out.trans ⟨rfl, rfl, rfl, Nat.le_refl _, fun _ _ => rfl⟩
          generalize w2.drewN nq = w3 at hB3 ⊢
          go_wp2_with fail
          go_ret
          exact ⟨by rw [hr.out]; rfl, hB3.out⟩
        · have hI2 : ¬ (q : Int) < (p : Int) := by omega
          have hny : ¬ y < x := fun h => hqp (py.1 h)
          have hr : Hid (cmpL a.toList b.toList = cmpL (a.toList.drop (i + 1)) (b.toList.drop (i + 1))) := by show _ = _; rw [hc.out, hst'.out, if_neg hnx, if_neg hny]
          clear px py hc hst' hnx hny
          go_upto_region 4 with fail
          go_quiet (fail)
          have hB2 : Hid (Below w.heap.size w (wr.drewN nq)) := hB.out.trans ⟨rfl, rfl, rfl, Nat.le_refl _, fun _ _ => rfl⟩
          generalize wr.drewN nq = w2 at hB2 ⊢
          go_upto_region 6 with fail
          go_quiet (fail)
          have hB3 : Hid (Below w.heap.size w (w2.drewN nq)) := hB2.out.trans ⟨rfl, rfl, rfl, Nat.le_refl _, fun _ _ => rfl⟩
          generalize w2.drewN nq = w3 at hB3 ⊢
          go_wp2_with fail
          go_roundw
          case rel => exact ⟨i + 1, by omega, by omega, by go_num, hr, hB3⟩
          case measure => simp [intOf]; omega
    · have he := bytes_end hlt hia hib
      have hr : Hid (cmpL a.toList b.toList = if a.size < b.size then -1 else if b.size < a.size then 1 else 0) := by show _ = _; rw [hc.out, he]
      clear he hc
      have hA2 : ¬ (a.size : Int) < 0 := by omega
      by_cases h1 : i < a.size
      · have h2 : ¬ i < b.size := fun h => hlt ⟨h1, h⟩
        have hI1 : (i : Int) < (a.size : Int) := by omega
        have hI2 : ¬ (i : Int) < (b.size : Int) := by omega
        have hI3 : ¬ (a.size : Int) < (b.size : Int) := by omega
        have hI4 : (b.size : Int) < (a.size : Int) := by omega
        go_wp2_with fail
        go_ret
        exact ⟨by rw [hr.out, if_neg (by omega), if_pos (by omega)]; rfl, hB.out⟩
      · have hI1 : ¬ (i : Int) < (a.size : Int) := by omega
        by_cases h3 : a.size < b.size
        · have hI3 : (a.size : Int) < (b.size : Int) := by omega
          go_wp2_with fail
          go_ret
          exact ⟨by rw [hr.out, if_pos h3]; rfl, hB.out⟩
        · have hI3 : ¬ (a.size : Int) < (b.size : Int) := by omega
          have hI4 : ¬ (b.size : Int) < (a.size : Int) := by omega
          go_wp2_with fail
          go_ret
          exact ⟨by rw [hr.out, if_neg h3, if_neg (by omega)]; rfl, hB.out⟩
end Go.Proofs.Ytehgblnhhlgikaa.Bi
