/-
  Names and numbers: what value.Name, value.Read and the reference's Name, Number, Read answer, as plain functions.
-/
import Derived.Test.YtmgocpggoajfeaaPAx11
import Derived.Test.YtmgocpggoajfeaaPAx14
import Derived.Test.YtmgocpggoajfeaaPAx15
import Derived.Test.YtmgocpggoajfeaaPAx2
import Derived.Test.YtmgocpggoajfeaaPAx4
import Derived.Test.YtmgocpggoajfeaaPAx5
namespace Go.Proofs.Ytmgocpggoajfeaa.Pure
open Go.RowKit Go.Proofs.Ytmgocpggoajfeaa.PA Go.Proofs.YtmgocpggoajfeaaW.PrintWords Go.Proofs.YtmgocpggoajfeaaW.PrintLast
set_option linter.unusedVariables false
set_option linter.unusedSimpArgs false

theorem w64 {n : Int} (h : -9223372036854775808 ≤ n ∧ n ≤ 9223372036854775807) : wrap64 n = n := by unfold wrap64; omega
theorem up1 (i : Nat) (h : i < 9223372036854775807) : wrap64 ((i : Int) + 1) = ((i + 1 : Nat) : Int) := by unfold wrap64; omega

def okAt (s : ByteArray) (j : Nat) : Bool := decide ((97 ≤ bt s j ∧ bt s j ≤ 122) ∨ (j ≠ 0 ∧ ((48 ≤ bt s j ∧ bt s j ≤ 57) ∨ bt s j = 95)))
def nameB (s : ByteArray) : Bool := (s.toList != [110, 111, 116]) && ((s.toList != [115, 97, 121, 115]) && (decide (s.size ≠ 0) && (decide (s.size ≤ 16) && (List.range' 0 s.size).all (okAt s))))

theorem toList_nil_iff (s : ByteArray) : s.toList = [] ↔ s.size = 0 := by
  rw [ByteArray.toList_eq]
  obtain ⟨⟨l⟩⟩ := s
  simp [ByteArray.size]
theorem bne_size (s : ByteArray) : (s.toList != ([] : List UInt8)) = decide (s.size ≠ 0) := by
  rw [Bool.eq_iff_iff]
  simp [toList_nil_iff]

set_option maxHeartbeats 1000000 in
theorem name_loop (s : ByteArray) (hs : s.size ≤ 16) : ∀ (d i k : Nat), i + d = s.size → d < k →
    value_Name.l0 k s (s.size : Int) (i : Int) = some ((List.range' i d).all (okAt s) && (s.toList != ([] : List UInt8))) := by
  intro d
  induction d with
  | zero =>
    intro i k h hk
    obtain ⟨k, rfl⟩ : ∃ m, k = m + 1 := ⟨k - 1, by omega⟩
    rw [value_Name.l0, if_neg (by omega)]
    simp
  | succ d ih =>
    intro i k h hk
    obtain ⟨k, rfl⟩ : ∃ m, k = m + 1 := ⟨k - 1, by omega⟩
    have hi := ih (i + 1) k (by omega) (by omega)
    rw [value_Name.l0, if_pos (by omega), if_pos (by omega), if_pos (by omega), up1 i (by omega), hi, List.range'_succ, List.all_cons]
    generalize (List.range' (i + 1) d).all (okAt s) = z
    clear hi ih
    by_cases e : okAt s i = true
    · rw [e, Bool.true_and]
      unfold okAt at e
      have e := of_decide_eq_true e
      repeat' split
      all_goals first | rfl | omega
    · have e := Bool.eq_false_iff.mpr e
      rw [e, Bool.false_and, Bool.false_and]
      unfold okAt at e
      have e := of_decide_eq_false e
      repeat' split
      all_goals first | rfl | omega

theorem name_ev (s : ByteArray) : Ev (fun k => value_Name.f k s) (nameB s) := by
  refine ⟨s.size + 3, fun k hk => ?_⟩
  obtain ⟨k, rfl⟩ : ∃ m, k = m + 1 := ⟨k - 1, by omega⟩
  simp only [value_Name.f, nameB]
  by_cases h1 : s.toList = [110, 111, 116]
  · rw [if_pos h1, h1]; rfl
  · rw [if_neg h1]
    have b1 : (s.toList != [110, 111, 116]) = true := by simpa using h1
    rw [b1, Bool.true_and]
    by_cases h2 : s.toList = [115, 97, 121, 115]
    · rw [if_pos h2, h2]; rfl
    · rw [if_neg h2]
      have b2 : (s.toList != [115, 97, 121, 115]) = true := by simpa using h2
      rw [b2, Bool.true_and, value_Name.j0]
      by_cases h3 : s.size ≤ 16
      · rw [if_neg (by simp; omega)]
        have := name_loop s h3 s.size 0 k (by omega) (by omega)
        rw [Int.ofNat_zero] at this
        rw [this, decide_eq_true h3, Bool.true_and, bne_size, Bool.and_comm]
      · rw [if_pos (by simp; omega), decide_eq_false h3, Bool.false_and, Bool.and_false]

set_option maxHeartbeats 1000000 in
theorem rname_loop (s : ByteArray) (hs : s.size ≤ 16) : ∀ (d i k : Nat), i + d = s.size → d < k →
    mandateref01_Name.l0 k s (i : Int) = some ((List.range' i d).all (okAt s)) := by
  intro d
  induction d with
  | zero =>
    intro i k h hk
    obtain ⟨k, rfl⟩ : ∃ m, k = m + 1 := ⟨k - 1, by omega⟩
    rw [mandateref01_Name.l0, if_neg (by omega)]
    simp
  | succ d ih =>
    intro i k h hk
    obtain ⟨k, rfl⟩ : ∃ m, k = m + 1 := ⟨k - 1, by omega⟩
    have hi := ih (i + 1) k (by omega) (by omega)
    rw [mandateref01_Name.l0, if_pos (by omega), if_pos (by omega), up1 i (by omega), hi, List.range'_succ, List.all_cons]
    generalize (List.range' (i + 1) d).all (okAt s) = z
    clear hi ih
    by_cases e : okAt s i = true
    · rw [e, Bool.true_and]
      unfold okAt at e
      have e := of_decide_eq_true e
      repeat' split
      all_goals first | rfl | omega
    · have e := Bool.eq_false_iff.mpr e
      rw [e, Bool.false_and]
      unfold okAt at e
      have e := of_decide_eq_false e
      repeat' split
      all_goals first | rfl | omega

theorem rname_ev (s : ByteArray) : Ev (fun k => mandateref01_Name.f k s) (nameB s) := by
  refine ⟨s.size + 3, fun k hk => ?_⟩
  obtain ⟨k, rfl⟩ : ∃ m, k = m + 1 := ⟨k - 1, by omega⟩
  simp only [mandateref01_Name.f, nameB]
  by_cases h0 : s.size = 0
  · rw [if_pos (by omega), mandateref01_Name.j0, if_pos rfl, h0]; simp
  · rw [if_neg (by omega), decide_eq_true h0, Bool.true_and]
    by_cases h3 : s.size ≤ 16
    · rw [if_neg (by omega), decide_eq_true h3, Bool.true_and]
      by_cases h1 : s.toList = [110, 111, 116]
      · rw [if_pos h1, h1]; rfl
      · rw [if_neg h1]
        have b1 : (s.toList != [110, 111, 116]) = true := by simpa using h1
        rw [b1, Bool.true_and, mandateref01_Name.j0]
        by_cases h2 : s.toList = [115, 97, 121, 115]
        · rw [h2]; rfl
        · have b2 : (s.toList != [115, 97, 121, 115]) = true := by simpa using h2
          rw [if_neg (by simpa using h2), b2, Bool.true_and]
          have := rname_loop s h3 s.size 0 k (by omega) (by omega)
          rw [Int.ofNat_zero] at this
          exact this
    · rw [if_pos (by omega), decide_eq_false h3, Bool.false_and, Bool.and_false, Bool.and_false, mandateref01_Name.j0, if_pos rfl]

/-! ### Numbers -/
theorem bt_split (s : ByteArray) (pre rest : List UInt8) (c : UInt8) (h : s.data.toList = pre ++ c :: rest) : pre.length < s.size ∧ bt s (pre.length : Int) = (c.toNat : Int) := by
  obtain ⟨⟨l⟩⟩ := s
  have h : l = pre ++ c :: rest := h
  subst h
  have hl : pre.length < (⟨⟨pre ++ c :: rest⟩⟩ : ByteArray).size := by show pre.length < (pre ++ c :: rest).length; simp
  refine ⟨hl, ?_⟩
  unfold bt
  rw [dif_pos (by simpa using hl)]
  show (((pre ++ c :: rest)[(pre.length : Int).toNat]'(by simp)).toNat : Int) = _
  simp
theorem size_list (s : ByteArray) : s.size = s.data.toList.length := by obtain ⟨⟨l⟩⟩ := s; rfl
def isDig (c : UInt8) : Bool := decide (48 ≤ c.toNat ∧ c.toNat ≤ 57)
def valL (acc : Nat) (l : List UInt8) : Nat := l.foldl (fun a c => a * 10 + (c.toNat - 48)) acc
theorem valL_nil (a : Nat) : valL a [] = a := rfl
theorem valL_cons (a : Nat) (c : UInt8) (r : List UInt8) : valL a (c :: r) = valL (a * 10 + (c.toNat - 48)) r := by unfold valL; rw [List.foldl_cons]
theorem valL_le : ∀ (l : List UInt8) (a : Nat), a ≤ valL a l := by
  intro l
  induction l with
  | nil => intro a; exact Nat.le_refl _
  | cons c r ih => intro a; rw [valL_cons]; exact Nat.le_trans (by omega) (ih _)
theorem valL_lt : ∀ (l : List UInt8) (a b : Nat), l.all isDig = true → a < 10 ^ b → valL a l < 10 ^ (b + l.length) := by
  intro l
  induction l with
  | nil => intro a b _ h; exact h
  | cons c r ih =>
    intro a b hd h
    rw [List.all_cons, Bool.and_eq_true] at hd
    have hc := of_decide_eq_true hd.1
    rw [valL_cons]
    have := ih (a * 10 + (c.toNat - 48)) (b + 1) hd.2 (by rw [Nat.pow_succ]; omega)
    rw [List.length_cons, show b + (r.length + 1) = b + 1 + r.length from by omega]
    exact this
theorem valL_append : ∀ (l : List UInt8) (a : Nat) (c : UInt8), valL a (l ++ [c]) = valL a l * 10 + (c.toNat - 48) := by
  intro l
  induction l with
  | nil => intro a c; rfl
  | cons d r ih => intro a c; rw [List.cons_append, valL_cons, valL_cons, ih]
def decL (n : Nat) : List UInt8 := if n < 10 then [UInt8.ofNat (48 + n)] else decL (n / 10) ++ [UInt8.ofNat (48 + n % 10)]
termination_by n
theorem dig_toNat (n : Nat) (h : n < 10) : (UInt8.ofNat (48 + n)).toNat = 48 + n := by
  simp only [UInt8.toNat_ofNat']
  omega
theorem decL_ne (n : Nat) : decL n ≠ [] := by rw [decL]; split <;> simp
theorem decL_dig (n : Nat) : (decL n).all isDig = true := by
  induction n using Nat.strongRecOn with
  | _ n ih =>
    rw [decL]
    split
    · have := dig_toNat n (by omega)
      rw [List.all_cons, List.all_nil, Bool.and_true]
      exact decide_eq_true (by omega)
    · rw [List.all_append, ih (n / 10) (by omega)]
      have := dig_toNat (n % 10) (by omega)
      rw [Bool.true_and, List.all_cons, List.all_nil, Bool.and_true]
      exact decide_eq_true (by omega)
theorem valL_decL (n : Nat) : valL 0 (decL n) = n := by
  induction n using Nat.strongRecOn with
  | _ n ih =>
    rw [decL]
    split
    · rw [valL_cons, dig_toNat n (by omega)]
      show 0 * 10 + (48 + n - 48) = n
      omega
    · rw [valL_append, ih (n / 10) (by omega), dig_toNat (n % 10) (by omega)]
      omega
theorem decL_len (n : Nat) : (decL n).length ≤ n / 10 + 2 := by
  induction n using Nat.strongRecOn with
  | _ n ih =>
    rw [decL]
    split
    · simp
    · have := ih (n / 10) (by omega)
      simp
      omega
theorem decL_head (n : Nat) (h : 0 < n) : (decL n).head? ≠ some 48 := by
  induction n using Nat.strongRecOn with
  | _ n ih =>
    rw [decL]
    split
    · intro e
      have e := Option.some.inj e
      have := congrArg UInt8.toNat e
      rw [dig_toNat n (by omega)] at this
      have h48 : (48 : UInt8).toNat = 48 := rfl
      omega
    · have := ih (n / 10) (by omega) (by omega)
      rw [List.head?_append]
      cases hh : (decL (n / 10)).head? with
      | none => exact absurd (List.head?_eq_none_iff.mp hh) (decL_ne _)
      | some c => rw [hh] at this; exact this
theorem decL_zero : decL 0 = [48] := by rw [decL]; rfl
/-- Digits as they are written: not empty, and no 0 ahead of others. -/
def canon (ds : List UInt8) : Bool := decide (ds ≠ []) && (decide (ds.head? ≠ some 48) || decide (ds.length = 1))
theorem valL_pos : ∀ (r : List UInt8) (a : Nat), 0 < a → a * 10 ^ r.length ≤ valL a r := by
  intro r
  induction r with
  | nil => intro a _; rw [valL_nil]; simp
  | cons c r ih =>
    intro a h
    rw [valL_cons, List.length_cons, Nat.pow_succ]
    refine Nat.le_trans ?_ (ih (a * 10 + (c.toNat - 48)) (by omega))
    rw [show a * (10 ^ r.length * 10) = a * 10 * 10 ^ r.length from by rw [Nat.mul_comm (10 ^ r.length) 10, Nat.mul_assoc]]
    exact Nat.mul_le_mul_right _ (by omega)
theorem head_pos (c : UInt8) (r : List UInt8) (hd : (c :: r).all isDig = true) (h : (c :: r).head? ≠ some 48) : 48 < c.toNat := by
  rw [List.all_cons, Bool.and_eq_true] at hd
  have h1 := of_decide_eq_true hd.1
  rcases Nat.lt_or_ge 48 c.toNat with h2 | h2
  · exact h2
  · exfalso
    apply h
    have : c = 48 := UInt8.toNat_inj.mp (by show c.toNat = 48; omega)
    rw [this]; rfl
theorem decL_valL_snoc (n : Nat) (h : 0 < n) (c : UInt8) (hc : isDig c = true) : decL (n * 10 + (c.toNat - 48)) = decL n ++ [c] := by
  have hc := of_decide_eq_true hc
  rw [decL, if_neg (by omega), show (n * 10 + (c.toNat - 48)) / 10 = n from by omega, show (n * 10 + (c.toNat - 48)) % 10 = c.toNat - 48 from by omega, show 48 + (c.toNat - 48) = c.toNat from by omega]
  congr 1
  simp
theorem decL_from : ∀ (r : List UInt8) (a : Nat), 0 < a → r.all isDig = true → decL (valL a r) = decL a ++ r := by
  intro r
  induction r with
  | nil => intro a _ _; rw [valL_nil]; simp
  | cons c r ih =>
    intro a h hd
    rw [List.all_cons, Bool.and_eq_true] at hd
    rw [valL_cons, ih _ (by omega) hd.2, decL_valL_snoc a h c hd.1]
    simp
theorem decL_valL (ds : List UInt8) (hd : ds.all isDig = true) (hc : canon ds = true) : decL (valL 0 ds) = ds := by
  match ds, hd, hc with
  | [], _, hc => simp [canon] at hc
  | c :: r, hd, hc =>
    by_cases h : (c :: r).head? = some 48
    · have hl : (c :: r).length = 1 := by simpa [canon, h] using hc
      have hr : r = [] := by cases r with
        | nil => rfl
        | cons _ _ => simp at hl
      subst hr
      obtain rfl : c = 48 := by simpa using h
      show decL 0 = [48]
      exact decL_zero
    · have hp := head_pos c r hd h
      have hd' := hd
      rw [List.all_cons, Bool.and_eq_true] at hd'
      have hc := of_decide_eq_true hd'.1
      rw [valL_cons, decL_from r _ (by omega) hd'.2, show 0 * 10 + (c.toNat - 48) = c.toNat - 48 from by omega, decL, if_pos (by omega), show 48 + (c.toNat - 48) = c.toNat from by omega]
      simp
theorem canon_decL (n : Nat) : canon (decL n) = true := by
  unfold canon
  rcases Nat.eq_zero_or_pos n with rfl | h
  · rw [decL_zero]; rfl
  · rw [decide_eq_true (decL_ne n), decide_eq_true (decL_head n h)]; rfl
/-- How a list of digits and a number meet. -/
theorem decL_eq_iff (ds : List UInt8) (hd : ds.all isDig = true) (v : Nat) (hv : v = valL 0 ds) : decL v = ds ↔ canon ds = true := by
  subst hv
  exact ⟨fun h => by have := canon_decL (valL 0 ds); rwa [h] at this, decL_valL ds hd⟩
def numL (n : Int) : List UInt8 := if n < 0 then 45 :: decL n.natAbs else decL n.natAbs
/-! ### Reading -/
theorem extract_list (s : ByteArray) (a b : Nat) : (s.extract a b).data.toList = (s.data.toList.drop a).take (b - a) := by
  rw [ByteArray.data_extract, Array.toList_extract]
theorem u64w (n : Int) : IntKind.u64.wrap n = n % 18446744073709551616 := by simp [IntKind.wrap, IntKind.bits, IntKind.signed]
theorem wrapneg (v : Nat) (h : v ≤ 9223372036854775808) : wrap64 (IntKind.u64.wrap (-(v : Int))) = -(v : Int) := by
  rw [u64w]; unfold wrap64; omega
def finishR (neg : Bool) (v : Nat) : ByteArray × Int × Bool :=
  if neg = true then (if v ≤ 9223372036854775808 then ((⟨#[]⟩ : ByteArray), -(v : Int), true) else ((⟨#[]⟩ : ByteArray), 0, false))
  else (if v < 9223372036854775808 then ((⟨#[]⟩ : ByteArray), (v : Int), true) else ((⟨#[]⟩ : ByteArray), 0, false))
theorem read_end (k : Nat) (d : ByteArray) (neg : Bool) (v : Nat) (hv : v < 10000000000000000000) : value_Read.l0 (k + 2) d neg (v : Int) (d.size : Int) (d.size : Int) = some (finishR neg v) := by
  rw [value_Read.l0, if_neg (by omega)]
  unfold finishR
  cases neg with
  | true =>
    rw [if_pos rfl, if_pos rfl, value_Read.j2]
    by_cases h : v ≤ 9223372036854775808
    · rw [if_pos (by simp; omega), if_pos h, wrapneg v h]
    · rw [if_neg (by simp; omega), if_pos rfl, if_neg h]
  | false =>
    rw [if_neg (by decide), if_neg (by decide), value_Read.j2, if_neg (by decide), if_neg (by decide)]
    by_cases h : v < 9223372036854775808
    · rw [if_pos (by omega), if_pos h, w64 (by omega)]
    · rw [if_neg (by omega), if_neg h]
theorem nat_w64 (n : Nat) (h : n < 9223372036854775807) : wrap64 ((n : Int) + 1) = ((n + 1 : Nat) : Int) := up1 n h
theorem pow19 (n : Nat) (h : n ≤ 19) : 10 ^ n ≤ 10000000000000000000 := by
  have : (10 : Nat) ^ n ≤ 10 ^ 19 := Nat.pow_le_pow_right (by omega) h
  simpa using this
theorem read_loop (d : ByteArray) (neg : Bool) : ∀ (rest pre : List UInt8) (acc k : Nat), d.data.toList = pre ++ rest → pre.length + rest.length ≤ 19 → acc < 10 ^ pre.length → rest.length + 2 ≤ k →
    value_Read.l0 k d neg (acc : Int) (d.size : Int) (pre.length : Int) = some (if rest.all isDig = true then finishR neg (valL acc rest) else ((⟨#[]⟩ : ByteArray), 0, false)) := by
  intro rest
  induction rest with
  | nil =>
    intro pre acc k h hl ha hk
    obtain ⟨k, rfl⟩ : ∃ m, k = m + 2 := ⟨k - 2, by simp at hk; omega⟩
    have hs : pre.length = d.size := by rw [size_list, h, List.append_nil]
    rw [hs, read_end k d neg acc (Nat.lt_of_lt_of_le ha (pow19 _ (by simp at hl; omega))), valL_nil]
    simp
  | cons c r ih =>
    intro pre acc k h hl ha hk
    obtain ⟨k, rfl⟩ : ∃ m, k = m + 1 := ⟨k - 1, by simp at hk; omega⟩
    obtain ⟨hlt, hbt⟩ := bt_split d pre r c h
    rw [List.length_cons] at hl hk
    rw [value_Read.l0, if_pos (by omega), if_pos (by omega), if_pos (by omega), hbt, List.all_cons]
    by_cases h1 : c.toNat < 48
    · rw [if_pos (by omega)]
      have : isDig c = false := decide_eq_false (by omega)
      rw [this]; rfl
    · rw [if_neg (by omega)]
      by_cases h2 : 57 < c.toNat
      · rw [if_pos (by omega)]
        have : isDig c = false := decide_eq_false (by omega)
        rw [this]; rfl
      · rw [if_neg (by omega)]
        have hd : isDig c = true := decide_eq_true (by omega)
        rw [hd, Bool.true_and, valL_cons]
        have hp : acc * 10 + (c.toNat - 48) < 10 ^ (pre ++ [c]).length := by
          rw [List.length_append, List.length_singleton, Nat.pow_succ]; omega
        have hb := Nat.lt_of_lt_of_le hp (pow19 _ (by simp; omega))
        have e1 : IntKind.u64.wrap ((IntKind.u64.wrap (10 * (acc : Int))) + (((c.toNat : Int) - 48) % 256)) = ((acc * 10 + (c.toNat - 48) : Nat) : Int) := by
          rw [u64w, u64w]; omega
        rw [e1, nat_w64 _ (by omega)]
        have := ih (pre ++ [c]) (acc * 10 + (c.toNat - 48)) k (by rw [h]; simp) (by rw [List.length_append, List.length_singleton]; omega) hp (by omega)
        rw [List.length_append, List.length_singleton] at this
        exact this
def cutD (s : ByteArray) : Bool × List UInt8 := match s.data.toList with
  | c :: r => if c = 45 then (true, r) else (false, c :: r)
  | [] => (false, [])
def readDs (neg : Bool) (ds : List UInt8) : ByteArray × Int × Bool :=
  if (canon ds && (!(neg && (ds.head? == some 48)) && (decide (ds.length ≤ 19) && ds.all isDig))) = true then finishR neg (valL 0 ds) else ((⟨#[]⟩ : ByteArray), 0, false)
def readS (s : ByteArray) : ByteArray × Int × Bool := if nameB s = true then (s, 0, true) else readDs (cutD s).1 (cutD s).2
theorem cut_f (s : ByteArray) : ∃ d : ByteArray, strings_CutPrefix.f s (⟨#[45]⟩ : ByteArray) = some (d, (cutD s).1) ∧ d.data.toList = (cutD s).2 := by
  have h1 : ((⟨#[45]⟩ : ByteArray).size : Int) = 1 := rfl
  have h2 : (⟨#[45]⟩ : ByteArray).toList = [45] := by rw [ByteArray.toList_eq]
  unfold strings_CutPrefix.f stringslite_CutPrefix.f stringslite_HasPrefix.f
  rw [h1, h2, size_list, ByteArray.toList_eq, extract_list]
  unfold cutD
  cases hL : s.data.toList with
  | nil => exact ⟨s, by simp, hL⟩
  | cons c r =>
    by_cases hc : c = 45
    · subst hc
      refine ⟨s.extract 1 s.size, ?_, ?_⟩
      · have q : (1 : Int) ≤ (r.length : Int) + 1 := by omega
        simp [size_list, hL, q]
      · rw [extract_list, hL, size_list, hL]; simp
    · refine ⟨s, ?_, ?_⟩
      · have q : (1 : Int) ≤ (r.length : Int) + 1 := by omega
        simp [hc, q]
      · simp [hc, hL]
theorem bt0 (d : ByteArray) (c : UInt8) (r : List UInt8) (h : d.data.toList = c :: r) : bt d 0 = (c.toNat : Int) := by
  have := (bt_split d [] r c (by simpa using h)).2
  simpa using this
theorem read_ev (s : ByteArray) : Ev (fun k => value_Read.f k s) (readS s) := by
  obtain ⟨K, hK⟩ := name_ev s
  refine ⟨max K 30, fun k hk => ?_⟩
  have hn := hK k (by omega)
  obtain ⟨d, hd, hl⟩ := cut_f s
  simp only [value_Read.f] at hn ⊢
  rw [hn, Option.bind_some]
  unfold readS
  by_cases hb : nameB s = true
  · rw [if_pos hb, if_pos hb]
  · rw [if_neg hb, if_neg hb, hd, Option.bind_some]
    generalize (cutD s).1 = neg at *
    generalize (cutD s).2 = ds at *
    clear hn hd hb hK
    obtain ⟨k, rfl⟩ : ∃ m, k = m + 1 := ⟨k - 1, by omega⟩
    have hloop : ds.length ≤ 19 → value_Read.l0 k d neg 0 (d.size : Int) 0 = some (if ds.all isDig = true then finishR neg (valL 0 ds) else ((⟨#[]⟩ : ByteArray), 0, false)) := fun h19 => by
      have := read_loop d neg ds [] 0 k (by simpa using hl) (by simpa using h19) (by simp) (by omega)
      simpa using this
    have hsz : d.size = ds.length := by rw [size_list, hl]
    have hL : d.toList = ds := by rw [ByteArray.toList_eq, hl]
    dsimp only
    rw [hL]
    unfold readDs
    cases ds with
    | nil => simp [value_Read.j0, canon]
    | cons c r =>
      have hlen : (c :: r).length = r.length + 1 := List.length_cons
      rw [if_neg (by simp)]
      by_cases h19 : (c :: r).length ≤ 19
      · have hlp := hloop h19
        rw [if_neg (by omega), if_pos (by omega), bt0 d c r hl, decide_eq_true h19, Bool.true_and]
        by_cases h48 : c = 48
        · subst h48
          rw [if_pos (show ((UInt8.toNat 48 : Nat) : Int) = 48 from rfl)]
          cases neg with
          | true => rw [if_pos rfl, value_Read.j0, if_pos rfl]; simp
          | false =>
            rw [if_neg (by decide), value_Read.j0]
            by_cases h1 : r.length = 0
            · rw [if_neg (by simp; omega), hlp]
              have : canon (48 :: r) = true := by simp [canon, h1]
              rw [this]; simp
            · rw [if_pos (by simp; omega)]
              have : canon (48 :: r) = false := by simp [canon, h1]
              rw [this]; simp
        · have h48' : ¬ ((c.toNat : Int) = 48) := fun e => h48 (UInt8.toNat_inj.mp (by show c.toNat = 48; omega))
          rw [if_neg h48', value_Read.j0, if_neg (by decide), hlp]
          have e1 : canon (c :: r) = true := by simp [canon, h48]
          have e2 : ((c :: r).head? == some 48) = false := by simp [h48]
          rw [e1, e2]; simp
      · rw [if_pos (by omega), value_Read.j0, if_pos rfl, decide_eq_false h19]; simp

/-! ### The reference's -/
theorem str1 (x : Int) : (strOfNums [x]).data.toList = [UInt8.ofNat x.toNat] := rfl
theorem append_list (a b : ByteArray) : (a ++ b).data.toList = a.data.toList ++ b.data.toList := by simp
theorem append_size (a b : ByteArray) : (a ++ b).size = a.size + b.size := by simp
theorem num_loop : ∀ (n k : Nat) (out : ByteArray), n < 9223372036854775808 → n + 1 < k → out.size + (decL n).length ≤ 9223372036854775807 →
    ∃ r, mandateref01_Number.l0 k (n : Int) out true = some r ∧ r.data.toList = decL n ++ out.data.toList := by
  intro n
  induction n using Nat.strongRecOn with
  | _ n ih =>
    intro k out hn hk hs
    obtain ⟨k, rfl⟩ : ∃ m, k = m + 1 := ⟨k - 1, by omega⟩
    have e1 : wrap64 (Int.tdiv (n : Int) 10) = ((n / 10 : Nat) : Int) := by
      rw [Int.tdiv_eq_ediv_of_nonneg (by omega), w64 (by omega)]; omega
    have e2 : (wrap64 (48 + (Int.tmod (n : Int) 10))) % 256 = ((48 + n % 10 : Nat) : Int) := by
      rw [Int.tmod_eq_emod_of_nonneg (by omega), w64 (by omega)]; omega
    have hlen : (strOfNums [((48 + n % 10 : Nat) : Int)]).size = 1 := rfl
    have hpos : 0 < (decL n).length := List.length_pos_iff.mpr (decL_ne n)
    rw [mandateref01_Number.l0, if_pos rfl, Option.bind_some, e1, e2, hlen, if_pos (by omega)]
    by_cases h : n < 10
    · have h0 : n / 10 = 0 := by omega
      rw [h0, show decide (((0 : Nat) : Int) > 0) = false from rfl]
      obtain ⟨k, rfl⟩ : ∃ m, k = m + 1 := ⟨k - 1, by omega⟩
      refine ⟨_, by rw [mandateref01_Number.l0, if_neg (by decide)], ?_⟩
      rw [append_list, str1, Int.toNat_natCast, decL, if_pos h, show n % 10 = n from by omega]
    · have h1 : decide (((n / 10 : Nat) : Int) > 0) = true := decide_eq_true (by omega)
      rw [h1]
      have hd : decL n = decL (n / 10) ++ [UInt8.ofNat (48 + n % 10)] := by rw [decL, if_neg h]
      rw [hd, List.length_append, List.length_singleton] at hs
      obtain ⟨r, hr, hl⟩ := ih (n / 10) (by omega) k (strOfNums [((48 + n % 10 : Nat) : Int)] ++ out) (by omega) (by omega) (by rw [append_size, hlen]; omega)
      refine ⟨r, hr, ?_⟩
      rw [hl, append_list, str1, Int.toNat_natCast, hd]
      simp
theorem num_pos (n : Nat) (hn : n < 9223372036854775808) : ∃ r, (∀ k, n + 3 < k → mandateref01_Number.f k (n : Int) = some r) ∧ r.data.toList = decL n := by
  have hl := decL_len n
  have key : ∀ k, n + 3 < k → ∃ r, mandateref01_Number.f k (n : Int) = some r ∧ r.data.toList = decL n := by
    intro k hk
    obtain ⟨k, rfl⟩ : ∃ m, k = m + 1 := ⟨k - 1, by omega⟩
    rw [mandateref01_Number.f, if_neg (by omega), if_neg (by omega)]
    obtain ⟨r, hr, hd⟩ := num_loop n k (⟨#[]⟩ : ByteArray) hn (by omega) (by
      show 0 + _ ≤ _
      omega)
    exact ⟨r, hr, by rw [hd]; simp⟩
  obtain ⟨r, hr, hd⟩ := key (n + 4) (by omega)
  refine ⟨r, fun k hk => ?_, hd⟩
  obtain ⟨r', hr', hd'⟩ := key k hk
  rw [hr']
  congr 1
  have : r'.data = r.data := by
    apply Array.toList_inj.mp
    rw [hd, hd']
  cases r; cases r'; simp_all
theorem num_ev (n : Int) (h : -9223372036854775808 ≤ n ∧ n < 9223372036854775808) : ∃ r, Ev (fun k => mandateref01_Number.f k n) r ∧ r.data.toList = numL n := by
  unfold numL
  by_cases h0 : n < 0
  · rw [if_pos h0]
    by_cases hm : n = -9223372036854775808
    · subst hm
      refine ⟨(⟨#[45, 57, 50, 50, 51, 51, 55, 50, 48, 51, 54, 56, 53, 52, 55, 55, 53, 56, 48, 56]⟩ : ByteArray), ⟨1, fun k hk => ?_⟩, ?_⟩
      · obtain ⟨k, rfl⟩ : ∃ m, k = m + 1 := ⟨k - 1, by omega⟩
        simp only [mandateref01_Number.f]
        rw [if_pos trivial]
      · show _ = 45 :: decL (9223372036854775808)
        have hds : ([57, 50, 50, 51, 51, 55, 50, 48, 51, 54, 56, 53, 52, 55, 55, 53, 56, 48, 56] : List UInt8).all isDig = true := by decide
        have := decL_valL _ hds (by decide)
        rw [show valL 0 ([57, 50, 50, 51, 51, 55, 50, 48, 51, 54, 56, 53, 52, 55, 55, 53, 56, 48, 56] : List UInt8) = 9223372036854775808 from by decide] at this
        rw [this]
    · obtain ⟨r, hr, hd⟩ := num_pos n.natAbs (by omega)
      refine ⟨(⟨#[45]⟩ : ByteArray) ++ r, ⟨n.natAbs + 6, fun k hk => ?_⟩, ?_⟩
      · obtain ⟨k, rfl⟩ : ∃ m, k = m + 1 := ⟨k - 1, by omega⟩
        simp only [mandateref01_Number.f]
        have e : wrap64 (-n) = (n.natAbs : Int) := by rw [w64 (by omega)]; omega
        have hl := decL_len n.natAbs
        have hs : r.size = (decL n.natAbs).length := by rw [size_list, hd]
        rw [if_neg hm, if_pos h0, e, hr k (by omega), Option.bind_some, if_pos (by omega)]
      · rw [append_list, hd]; rfl
  · rw [if_neg h0]
    obtain ⟨r, hr, hd⟩ := num_pos n.natAbs (by omega)
    refine ⟨r, ⟨n.natAbs + 4, fun k hk => ?_⟩, hd⟩
    have e : n = (n.natAbs : Int) := by omega
    have := hr k (by omega)
    rw [← e] at this
    exact this

theorem Ev.const {α : Type} (r : α) : Ev (fun _ => some r) r := ⟨0, fun _ _ => rfl⟩
def failR : ByteArray × Int × Bool := ((⟨#[]⟩ : ByteArray), 0, false)
def endR (L : List UInt8) (at_ : Int) (v : Nat) : ByteArray × Int × Bool :=
  if at_ = 0 then (if v = 9223372036854775808 then failR else if decL v = L then ((⟨#[]⟩ : ByteArray), (v : Int), true) else failR)
  else (if numL (-(v : Int)) = L then ((⟨#[]⟩ : ByteArray), -(v : Int), true) else failR)
theorem rread_end (s : ByteArray) (at_ : Int) (v : Nat) (hv : v ≤ 9223372036854775808) : Ev (fun k => mandateref01_Read.l0 k s at_ (-(v : Int)) (s.size : Int)) (endR s.data.toList at_ v) := by
  unfold endR
  by_cases h0 : at_ = 0
  · by_cases hm : v = 9223372036854775808
    · refine Ev.step (f := fun _ => some failR) (fun k => ?_) (Ev.const _ |> fun h => by rw [if_pos h0, if_pos hm]; exact h)
      simp only [mandateref01_Read.l0]
      rw [if_neg (by omega), if_pos h0, if_pos (by omega)]; rfl
    · obtain ⟨r, hr, hd⟩ := num_ev (v : Int) (by omega)
      have hn : numL (v : Int) = decL v := by unfold numL; rw [if_neg (by omega)]; rfl
      rw [hn] at hd
      have e : wrap64 (- -(v : Int)) = (v : Int) := by rw [w64 (by omega)]; omega
      refine Ev.step (f := fun k => (mandateref01_Number.f k (v : Int)).bind fun t => if t.toList = s.toList then some ((⟨#[]⟩ : ByteArray), (v : Int), true) else some failR) (fun k => ?_) ?_
      · simp only [mandateref01_Read.l0]
        rw [if_neg (by omega), if_pos h0, if_neg (by omega), e]; rfl
      · refine Ev.bind hr ?_
        rw [if_pos h0, if_neg hm, ByteArray.toList_eq, ByteArray.toList_eq, hd]
        by_cases h : decL v = s.data.toList
        · rw [if_pos h]; exact ⟨0, fun k _ => by rw [if_pos h]⟩
        · rw [if_neg h]; exact ⟨0, fun k _ => by rw [if_neg h]⟩
  · obtain ⟨r, hr, hd⟩ := num_ev (-(v : Int)) (by omega)
    refine Ev.step (f := fun k => (mandateref01_Number.f k (-(v : Int))).bind fun t => if t.toList = s.toList then some ((⟨#[]⟩ : ByteArray), -(v : Int), true) else some failR) (fun k => ?_) ?_
    · simp only [mandateref01_Read.l0]
      rw [if_neg (by omega), if_neg h0]; rfl
    · refine Ev.bind hr ?_
      rw [if_neg h0, ByteArray.toList_eq, ByteArray.toList_eq, hd]
      by_cases h : numL (-(v : Int)) = s.data.toList
      · rw [if_pos h]; exact ⟨0, fun k _ => by rw [if_pos h]⟩
      · rw [if_neg h]; exact ⟨0, fun k _ => by rw [if_neg h]⟩
theorem over (v d : Nat) (hv : v ≤ 9223372036854775808) (hd : d ≤ 9) : (-(v : Int) < wrap64 (Int.tdiv (wrap64 ((-9223372036854775808) + (d : Int))) 10)) ↔ 9223372036854775808 < v * 10 + d := by
  have e1 : wrap64 ((-9223372036854775808) + (d : Int)) = -((9223372036854775808 - d : Nat) : Int) := by rw [w64 (by omega)]; omega
  have e2 : Int.tdiv (-((9223372036854775808 - d : Nat) : Int)) 10 = -(((9223372036854775808 - d) / 10 : Nat) : Int) := by
    rw [Int.neg_tdiv, Int.tdiv_eq_ediv_of_nonneg (by omega)]; omega
  rw [e1, e2, w64 (by omega)]
  omega
theorem rread_loop (s : ByteArray) (at_ : Int) (hsz : s.size ≤ 20) : ∀ (rest pre : List UInt8) (v : Nat), s.data.toList = pre ++ rest → v ≤ 9223372036854775808 →
    Ev (fun k => mandateref01_Read.l0 k s at_ (-(v : Int)) (pre.length : Int)) (if rest.all isDig = true ∧ valL v rest ≤ 9223372036854775808 then endR s.data.toList at_ (valL v rest) else failR) := by
  intro rest
  induction rest with
  | nil =>
    intro pre v h hv
    have hs : pre.length = s.size := by rw [size_list, h, List.append_nil]
    rw [hs, if_pos ⟨rfl, by rw [valL_nil]; exact hv⟩, valL_nil]
    exact rread_end s at_ v hv
  | cons c r ih =>
    intro pre v h hv
    obtain ⟨hlt, hbt⟩ := bt_split s pre r c h
    have hc := c.toNat_lt
    rw [List.all_cons]
    by_cases h1 : c.toNat < 48
    · have hd : isDig c = false := decide_eq_false (by omega)
      rw [hd, Bool.false_and, if_neg (by simp)]
      refine Ev.step (f := fun _ => some failR) (fun k => ?_) (Ev.const _)
      simp only [mandateref01_Read.l0]
      rw [if_pos (by omega), if_pos (by omega), hbt, w64 (n := (c.toNat : Int)) (by omega), w64 (n := (c.toNat : Int) - 48) (by omega), if_pos (by omega)]; rfl
    · by_cases h2 : 57 < c.toNat
      · have hd : isDig c = false := decide_eq_false (by omega)
        rw [hd, Bool.false_and, if_neg (by simp)]
        refine Ev.step (f := fun _ => some failR) (fun k => ?_) (Ev.const _)
        simp only [mandateref01_Read.l0]
        rw [if_pos (by omega), if_pos (by omega), hbt, w64 (n := (c.toNat : Int)) (by omega), w64 (n := (c.toNat : Int) - 48) (by omega), if_neg (by omega), if_pos (by omega)]; rfl
      · have hd : isDig c = true := decide_eq_true (by omega)
        have ed : (c.toNat : Int) - 48 = ((c.toNat - 48 : Nat) : Int) := by omega
        have ho := over v (c.toNat - 48) hv (by omega)
        rw [hd, Bool.true_and, valL_cons]
        by_cases h3 : 9223372036854775808 < v * 10 + (c.toNat - 48)
        · rw [if_neg (fun hh => by have := valL_le r (v * 10 + (c.toNat - 48)); omega)]
          refine Ev.step (f := fun _ => some failR) (fun k => ?_) (Ev.const _)
          simp only [mandateref01_Read.l0]
          rw [if_pos (by omega), if_pos (by omega), hbt, w64 (n := (c.toNat : Int)) (by omega), w64 (n := (c.toNat : Int) - 48) (by omega), if_neg (by omega), if_neg (by omega), ed, if_pos (ho.mpr h3)]; rfl
        · have := ih (pre ++ [c]) (v * 10 + (c.toNat - 48)) (by rw [h]; simp) (by omega)
          rw [List.length_append, List.length_singleton] at this
          refine Ev.step (fun k => ?_) this
          simp only [mandateref01_Read.l0]
          rw [if_pos (by omega), if_pos (by omega), hbt, w64 (n := (c.toNat : Int)) (by omega), w64 (n := (c.toNat : Int) - 48) (by omega), if_neg (by omega), if_neg (by omega), ed, if_neg (fun hh => h3 (ho.mp hh)), w64 (n := -(v : Int) * 10) (by omega), w64 (n := -(v : Int) * 10 - ((c.toNat - 48 : Nat) : Int)) (by omega), up1 _ (by omega)]
          congr 1
          omega
theorem long_big (c : UInt8) (r : List UInt8) (hd : (c :: r).all isDig = true) (hc : canon (c :: r) = true) (hl : r.length = 19) : 9223372036854775808 < valL 0 (c :: r) := by
  have h48 : (c :: r).head? ≠ some 48 := by
    intro e
    simp [canon, e, hl] at hc
  have hp := head_pos c r hd h48
  rw [valL_cons]
  have := valL_pos r (0 * 10 + (c.toNat - 48)) (by omega)
  rw [hl] at this
  have h19 : (10 : Nat) ^ 19 = 10000000000000000000 := by decide
  rw [h19] at this
  omega
theorem neg_end (r : List UInt8) (hl : r.length ≤ 19) : (if r.all isDig = true ∧ valL 0 r ≤ 9223372036854775808 then endR (45 :: r) 1 (valL 0 r) else failR) = readDs true r := by
  unfold readDs
  by_cases hd : r.all isDig = true
  · rw [hd, decide_eq_true hl]
    by_cases hc : canon r = true
    · rw [hc]
      by_cases h48 : r.head? = some 48
      · have hr1 : r.length = 1 := by
          have := hc
          simp [canon, h48] at this
          exact this.2
        obtain ⟨c, rfl⟩ := List.length_eq_one_iff.mp hr1
        obtain rfl : c = 48 := by simpa using h48
        rw [if_pos ⟨rfl, by decide⟩]
        have : decL 0 = [48] := decL_zero
        simp [endR, numL, valL, this, failR]
      · have e : (r.head? == some 48) = false := by simpa using h48
        rw [e]
        simp only [Bool.and_false, Bool.not_false, Bool.and_true, true_and, if_true]
        unfold finishR
        rw [if_pos rfl]
        by_cases hv : valL 0 r ≤ 9223372036854775808
        · rw [if_pos hv, if_pos hv]
          have hpos : 0 < valL 0 r := by
            match r, hd, hc, h48 with
            | [], _, hc, _ => simp [canon] at hc
            | c :: r, hd, _, h48 =>
              have := head_pos c r hd h48
              rw [valL_cons]
              have h2 := valL_le r (0 * 10 + (c.toNat - 48))
              omega
          have hn : numL (-(valL 0 r : Int)) = 45 :: r := by
            unfold numL
            rw [if_pos (by omega), Int.natAbs_neg, Int.natAbs_natCast, decL_valL r hd hc]
          unfold endR
          rw [if_neg (by decide), if_pos hn]
        · rw [if_neg hv, if_neg hv]; rfl
    · have hc' : canon r = false := Bool.eq_false_iff.mpr hc
      rw [hc']
      simp only [Bool.false_and, Bool.false_eq_true, if_false]
      by_cases hv : valL 0 r ≤ 9223372036854775808
      · rw [if_pos ⟨trivial, hv⟩]
        unfold endR
        rw [if_neg (by decide), if_neg]
        · rfl
        · intro e
          unfold numL at e
          by_cases h0 : -(valL 0 r : Int) < 0
          · rw [if_pos h0, Int.natAbs_neg, Int.natAbs_natCast] at e
            exact hc ((decL_eq_iff r hd _ rfl).mp (List.cons.inj e).2)
          · rw [if_neg h0] at e
            have h0' : valL 0 r = 0 := by omega
            rw [h0'] at e
            have e2 : decL 0 = 45 :: r := e
            rw [decL_zero] at e2
            exact absurd (List.cons.inj e2).1 (by decide)
      · rw [if_neg (fun h => hv h.2)]; rfl
  · have hd' : r.all isDig = false := Bool.eq_false_iff.mpr hd
    rw [hd']; simp; rfl
theorem pos_end (c : UInt8) (r : List UInt8) (hl : (c :: r).length ≤ 20) : (if (c :: r).all isDig = true ∧ valL 0 (c :: r) ≤ 9223372036854775808 then endR (c :: r) 0 (valL 0 (c :: r)) else failR) = readDs false (c :: r) := by
  unfold readDs
  by_cases hd : (c :: r).all isDig = true
  · rw [hd, Bool.false_and, Bool.not_false, Bool.and_true, Bool.true_and]
    by_cases hc : canon (c :: r) = true
    · rw [hc, Bool.true_and]
      by_cases h19 : (c :: r).length ≤ 19
      · rw [decide_eq_true h19, if_pos rfl]
        unfold finishR endR
        rw [if_neg (show ¬ (false = true) by decide), if_pos rfl]
        by_cases hv : valL 0 (c :: r) ≤ 9223372036854775808
        · rw [if_pos ⟨rfl, hv⟩]
          by_cases hm : valL 0 (c :: r) = 9223372036854775808
          · rw [if_pos hm, if_neg (by omega)]; rfl
          · rw [if_neg hm, if_pos (decL_valL _ hd hc), if_pos (by omega)]
        · rw [if_neg (fun h => hv h.2), if_neg (by omega)]; rfl
      · have hb := long_big c r hd hc (by rw [List.length_cons] at hl h19; omega)
        rw [decide_eq_false h19, if_neg (fun h => by omega)]; rfl
    · have hc' : canon (c :: r) = false := Bool.eq_false_iff.mpr hc
      rw [hc']
      simp only [Bool.false_and, Bool.false_eq_true, if_false]
      by_cases hv : valL 0 (c :: r) ≤ 9223372036854775808
      · rw [if_pos ⟨trivial, hv⟩]
        unfold endR
        rw [if_pos rfl, if_neg (fun e => hc ((decL_eq_iff _ hd _ rfl).mp e))]
        by_cases hm : valL 0 (c :: r) = 9223372036854775808
        · rw [if_pos hm]; rfl
        · rw [if_neg hm]; rfl
      · rw [if_neg (fun h => hv h.2)]; rfl
  · have hd' : (c :: r).all isDig = false := Bool.eq_false_iff.mpr hd
    rw [hd']; simp; rfl
theorem readDs_long (neg : Bool) (ds : List UInt8) (h : 19 < ds.length) : readDs neg ds = failR := by
  unfold readDs
  rw [decide_eq_false (by omega)]; simp; rfl
theorem rread_ev (s : ByteArray) : Ev (fun k => mandateref01_Read.f k s) (readS s) := by
  refine Ev.congr (f := fun k => (mandateref01_Name.f k s).bind fun t => if t = true then (some (s, 0, true)) else (if (s.size : Int) > 0 then (if 0 < (s.size : Int) then (mandateref01_Read.j0 k s 0 ((bt s 0) == 45)) else none) else (mandateref01_Read.j0 k s 0 false))) (fun k => rfl) ?_
  refine Ev.bind (rname_ev s) ?_
  unfold readS
  by_cases hb : nameB s = true
  · rw [if_pos hb]; exact ⟨0, fun k _ => by dsimp only; rw [if_pos hb]⟩
  · rw [if_neg hb]
    refine Ev.congr (f := fun k => if (s.size : Int) > 0 then (if 0 < (s.size : Int) then (mandateref01_Read.j0 k s 0 ((bt s 0) == 45)) else none) else (mandateref01_Read.j0 k s 0 false)) (fun k => by rw [if_neg hb]) ?_
    have fail2 : ∀ at_, Ev (fun k => mandateref01_Read.j2 k s at_ true) failR := fun at_ => Ev.step (f := fun _ => some failR) (fun k => by simp only [mandateref01_Read.j2]; rfl) (Ev.const _)
    have hsz := size_list s
    unfold cutD
    cases hL : s.data.toList with
    | nil =>
      rw [hL, List.length_nil] at hsz
      refine Ev.congr (f := fun k => mandateref01_Read.j0 k s 0 false) (fun k => by rw [if_neg (by omega)]) ?_
      refine Ev.step (f := fun k => mandateref01_Read.j1 k s 0) (fun k => by simp only [mandateref01_Read.j0]; rw [if_neg (by decide)]) ?_
      refine Ev.step (f := fun k => mandateref01_Read.j2 k s 0 true) (fun k => by simp only [mandateref01_Read.j1]; rw [if_pos (by omega)]) ?_
      exact fail2 0
    | cons c r =>
      rw [hL, List.length_cons] at hsz
      have hb0 := bt0 s c r hL
      refine Ev.congr (f := fun k => mandateref01_Read.j0 k s 0 ((c.toNat : Int) == 45)) (fun k => by rw [if_pos (by omega), if_pos (by omega), hb0]) ?_
      by_cases h45 : c = 45
      · subst h45
        dsimp only
        rw [if_pos (show (45 : UInt8) = 45 from rfl)]
        refine Ev.step (f := fun k => mandateref01_Read.j1 k s 1) (fun k => by simp only [mandateref01_Read.j0]; rw [if_pos (by rfl)]) ?_
        by_cases hr : r.length = 0
        · refine Ev.step (f := fun k => mandateref01_Read.j2 k s 1 true) (fun k => by simp only [mandateref01_Read.j1]; rw [if_pos (by omega)]) ?_
          have : r = [] := List.eq_nil_of_length_eq_zero hr
          subst this
          exact fail2 1
        · by_cases h20 : r.length ≤ 19
          · refine Ev.step (f := fun k => mandateref01_Read.j2 k s 1 false) (fun k => by simp only [mandateref01_Read.j1]; rw [if_neg (by omega), decide_eq_false (by omega)]) ?_
            refine Ev.step (f := fun k => mandateref01_Read.l0 k s 1 0 1) (fun k => by simp only [mandateref01_Read.j2]; rw [if_neg (by decide)]) ?_
            have := rread_loop s 1 (by omega) r [45] 0 (by rw [hL]; rfl) (by omega)
            rw [hL, neg_end r h20] at this
            exact this
          · refine Ev.step (f := fun k => mandateref01_Read.j2 k s 1 true) (fun k => by simp only [mandateref01_Read.j1]; rw [if_neg (by omega), decide_eq_true (by omega)]) ?_
            rw [readDs_long _ _ (by dsimp only; omega)]
            exact fail2 1
      · dsimp only
        rw [if_neg h45]
        have h45' : ((c.toNat : Int) == 45) = false := beq_eq_false_iff_ne.mpr (fun e => h45 (UInt8.toNat_inj.mp (by show c.toNat = 45; omega)))
        rw [h45']
        refine Ev.step (f := fun k => mandateref01_Read.j1 k s 0) (fun k => by simp only [mandateref01_Read.j0]; rw [if_neg (by decide)]) ?_
        by_cases h20 : r.length + 1 ≤ 20
        · refine Ev.step (f := fun k => mandateref01_Read.j2 k s 0 false) (fun k => by simp only [mandateref01_Read.j1]; rw [if_neg (by omega), decide_eq_false (by omega)]) ?_
          refine Ev.step (f := fun k => mandateref01_Read.l0 k s 0 0 0) (fun k => by simp only [mandateref01_Read.j2]; rw [if_neg (by decide)]) ?_
          have := rread_loop s 0 (by omega) (c :: r) [] 0 (by rw [hL]; rfl) (by omega)
          rw [hL, pos_end c r (by rw [List.length_cons]; omega)] at this
          exact this
        · refine Ev.step (f := fun k => mandateref01_Read.j2 k s 0 true) (fun k => by simp only [mandateref01_Read.j1]; rw [if_neg (by omega), decide_eq_true (by omega)]) ?_
          rw [readDs_long _ _ (by dsimp only; rw [List.length_cons]; omega)]
          exact fail2 0

end Go.Proofs.Ytmgocpggoajfeaa.Pure
