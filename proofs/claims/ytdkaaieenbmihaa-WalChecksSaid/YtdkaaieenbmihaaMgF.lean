/-
  Contracts of functions that the laws of this chapter reach, joined.
-/
import Derived.Test.YtdkaaieenbmihaaMgE
import Derived.Test.YtdkaaieenbmihaaMgB
import Derived.Laws.Bits64b
import Derived.ScopeJumps
import Derived.WalkMore
set_option linter.unusedVariables false
set_option linter.unusedSimpArgs false
namespace Go.Proofs.Ytdkaaieenbmihaa
open Go.RowKit
open Sha (vals Bytes Lies bytesC sumB)
open Go.Proofs.YtdkaaieenbmihaaW.PrintWords Go.Proofs.YtdkaaieenbmihaaW.PrintLast Go.Proofs.YtdkaaieenbmihaaW.PrintMore
def numB (sz n : Nat) : List Nat := (List.range sz).map fun i => n / 2 ^ (8 * (sz - 1 - i)) % 256
def ints (l : List Nat) : List Int := l.map fun (n : Nat) => (n : Int)
theorem ints_app (a b : List Nat) : ints (a ++ b) = ints a ++ ints b := by simp [ints]
theorem ints_len (a : List Nat) : (ints a).length = a.length := by simp [ints]
theorem nums_ints (l : List Nat) : nums .u8 (ints l) = vals l := by simp [nums, ints, vals]
theorem numB_len (sz n : Nat) : (numB sz n).length = sz := by simp [numB]
theorem numB_lt (sz n : Nat) : ∀ x ∈ numB sz n, x < 256 := by
  intro x hx
  simp [numB] at hx
  obtain ⟨_, _, rfl⟩ := hx
  exact Nat.mod_lt _ (by decide)
theorem shr_nat (n s : Nat) (hs : s ≤ 64) : (shr .u64 (n : Int) (s : Int)) % 256 = ((n / 2 ^ s % 256 : Nat) : Int) := by
  unfold shr
  have hb : IntKind.u64.bits = 64 := rfl
  rw [hb, Nat.min_eq_left (by omega)]
  simp
theorem number8 (l : List Nat) (n : Nat) (hl : l.length ≤ 1000000000) (k : Nat) (hk : 9 ≤ k) : PA.wal_put.f k (ints l) (n : Int) 8 = some (ints (l ++ numB 8 n)) := by
  obtain ⟨k, rfl⟩ : ∃ m, k = m + 9 := ⟨k - 9, by omega⟩
  unfold PA.wal_put.f
  have w : ∀ i : Nat, i < 8 → wrap64 (8 * wrap64 (wrap64 (8 - 1) - (i : Int))) = ((8 * (8 - 1 - i) : Nat) : Int) := fun i hi => by unfold wrap64; omega
  have step : ∀ (m i : Nat) (a : List Nat), i < 8 → a.length ≤ 2000000000 → PA.wal_put.l0 (m + 1) (ints a) (n : Int) 8 8 (i : Int) = PA.wal_put.l0 m (ints (a ++ [n / 2 ^ (8 * (8 - 1 - i)) % 256])) (n : Int) 8 8 ((i + 1 : Nat) : Int) := fun m i a hi ha => by
    rw [PA.wal_put.l0, if_pos (by omega), w i hi, if_pos (by omega), if_pos (by rw [ints_len]; omega), shr_nat _ _ (by omega), ints_app]
    congr 1
    unfold wrap64; omega
  have last : ∀ (m : Nat) (a : List Nat), PA.wal_put.l0 (m + 1) (ints a) (n : Int) 8 8 ((8 : Nat) : Int) = some (ints a) := fun m a => by
    rw [PA.wal_put.l0, if_neg (by omega)]
  rw [show (0 : Int) = ((0 : Nat) : Int) from rfl, step _ 0 l (by omega) (by omega), step _ 1 _ (by omega) (by simp; omega), step _ 2 _ (by omega) (by simp; omega), step _ 3 _ (by omega) (by simp; omega), step _ 4 _ (by omega) (by simp; omega), step _ 5 _ (by omega) (by simp; omega), step _ 6 _ (by omega) (by simp; omega), step _ 7 _ (by omega) (by simp; omega), last]
  simp [numB, List.range_succ]
theorem number4 (l : List Nat) (n : Nat) (hl : l.length ≤ 1000000000) (k : Nat) (hk : 9 ≤ k) : PA.wal_put.f k (ints l) (n : Int) 4 = some (ints (l ++ numB 4 n)) := by
  obtain ⟨k, rfl⟩ : ∃ m, k = m + 5 := ⟨k - 5, by omega⟩
  unfold PA.wal_put.f
  have w : ∀ i : Nat, i < 4 → wrap64 (8 * wrap64 (wrap64 (4 - 1) - (i : Int))) = ((8 * (4 - 1 - i) : Nat) : Int) := fun i hi => by unfold wrap64; omega
  have step : ∀ (m i : Nat) (a : List Nat), i < 4 → a.length ≤ 2000000000 → PA.wal_put.l0 (m + 1) (ints a) (n : Int) 4 4 (i : Int) = PA.wal_put.l0 m (ints (a ++ [n / 2 ^ (8 * (4 - 1 - i)) % 256])) (n : Int) 4 4 ((i + 1 : Nat) : Int) := fun m i a hi ha => by
    rw [PA.wal_put.l0, if_pos (by omega), w i hi, if_pos (by omega), if_pos (by rw [ints_len]; omega), shr_nat _ _ (by omega), ints_app]
    congr 1
    unfold wrap64; omega
  have last : ∀ (m : Nat) (a : List Nat), PA.wal_put.l0 (m + 1) (ints a) (n : Int) 4 4 ((4 : Nat) : Int) = some (ints a) := fun m a => by
    rw [PA.wal_put.l0, if_neg (by omega)]
  rw [show (0 : Int) = ((0 : Nat) : Int) from rfl, step _ 0 l (by omega) (by omega), step _ 1 _ (by omega) (by simp; omega), step _ 2 _ (by omega) (by simp; omega), step _ 3 _ (by omega) (by simp; omega), last]
  simp [numB, List.range_succ]
theorem rnumber (sz n : Nat) (hs : sz ≤ 8) (k : Nat) (hk : 10 ≤ k) : PA.mandateref18_Number.f k (n : Int) (sz : Int) = some (ints (numB sz n)) := by
  unfold PA.mandateref18_Number.f
  have e0 : wrap64 ((sz : Int) - 1) = (sz : Int) - 1 := by unfold wrap64; omega
  rw [e0]
  have go : ∀ (d m : Nat) (a : List Nat), d ≤ 8 → a.length ≤ 8 - d → PA.mandateref18_Number.l0 (m + d + 1) (n : Int) (ints a) ((d : Int) - 1) = some (ints (a ++ numB d n)) := by
    intro d
    induction d with
    | zero => intro m a _ _; rw [PA.mandateref18_Number.l0, if_neg (by omega)]; simp [numB]
    | succ d ih =>
      intro m a hd ha
      have w : IntKind.u64.wrap (wrap64 (8 * (((d + 1 : Nat) : Int) - 1))) = ((8 * d : Nat) : Int) := by
        rw [show ∀ n : Int, IntKind.u64.wrap n = n % 18446744073709551616 from fun n => by simp [IntKind.wrap, IntKind.bits, IntKind.signed]]; unfold wrap64; omega
      rw [PA.mandateref18_Number.l0, if_pos (by omega), w, if_pos (by omega), if_pos (by rw [ints_len]; omega), shr_nat _ _ (by omega)]
      have e : ints a ++ [((n / 2 ^ (8 * d) % 256 : Nat) : Int)] = ints (a ++ [n / 2 ^ (8 * d) % 256]) := by rw [ints_app]; rfl
      have e2 : wrap64 (((d + 1 : Nat) : Int) - 1 - 1) = (d : Int) - 1 := by unfold wrap64; omega
      rw [e, e2, show m + (d + 1) = m + d + 1 from rfl, ih _ _ (by omega) (by simp; omega)]
      congr 2
      rw [List.append_assoc]
      congr 1
      unfold numB
      rw [List.range_succ_eq_map, List.map_cons, List.map_map]
      have e3 : d + 1 - 1 - 0 = d := by omega
      rw [e3, List.singleton_append]
      congr 1
      apply List.map_congr_left
      intro i hi
      have := List.mem_range.1 hi
      simp only [Function.comp]
      congr 3
      omega
  obtain ⟨m, rfl⟩ : ∃ m, k = m + sz + 1 := ⟨k - sz - 1, by omega⟩
  have := go sz m [] hs (by simp)
  simpa [ints] using this
/-- A row of bytes of the call's own, in the print's words and in these. -/
theorem kd_own {w : World} {base : Nat} {P : Nat → Prop} {v : Value} {l : List Nat} (h : Kd.R (Kd.int .u8) 5 w base P v (ints l)) : w.ownsRow base 5 1 v l.length (vals l) := by
  obtain ⟨_, inner, ho, hr⟩ := h
  have hin : inner = nums .u8 (ints l) := by
    refine List.ext_getElem? fun j => ?_
    by_cases hj : j < (ints l).length
    · have h1 := hr.2 j _ (List.getElem?_eq_getElem hj)
      have h2 : (inner.drop (j * 1)).take 1 = [Value.int .u8 (ints l)[j]] := h1
      have h3 : j < inner.length := by rw [hr.1]; simpa [Kd.int, Kd.scalar] using hj
      rw [Nat.mul_one, List.drop_eq_getElem_cons h3] at h2
      simp only [List.take_succ_cons, List.take_zero, List.cons.injEq, and_true] at h2
      rw [List.getElem?_eq_getElem h3, h2, nums, List.getElem?_map, List.getElem?_eq_getElem hj]; rfl
    · have h3 : inner.length = (ints l).length := by rw [hr.1]; simp [Kd.int, Kd.scalar]
      rw [List.getElem?_eq_none (by omega), List.getElem?_eq_none (by rw [nums_length]; omega)]
  rw [hin, nums_ints, ints_len] at ho
  exact ho
theorem own_kd {w : World} {base : Nat} {v : Value} {l : List Nat} (h : w.ownsRow base 5 1 v l.length (vals l)) : Kd.R (Kd.int .u8) 5 w base (fun k => v.ownBlock = some k) v (ints l) := by
  refine ⟨fun k hk => hk, vals l, by rw [ints_len]; exact h, ?_, fun j p hp => ?_⟩
  · simp [Kd.int, Kd.scalar, vals, ints]
  · show ((vals l).drop (j * 1)).take 1 = [Value.int .u8 p]
    have hj : j < l.length := by rw [← ints_len]; exact (List.getElem?_eq_some_iff.1 hp).1
    have hj2 : j < (vals l).length := by simpa [vals] using hj
    rw [Nat.mul_one, List.drop_eq_getElem_cons hj2]
    have e : p = ((l[j] : Nat) : Int) := by
      have : (ints l)[j]? = some ((l[j] : Nat) : Int) := by simp [ints, hj]
      rw [this] at hp; exact (Option.some.inj hp).symm
    simp [vals, e]
/-- A number's bytes behind a row of the call's own. -/
theorem put_calls (sz : Nat) (hsz : sz = 8 ∨ sz = 4) (l : List Nat) (n : Nat) (hl : l.length ≤ 1000000000) (v : Value) (w0 w : World) (hB : Below w0.heap.size w0 w) (hown : w.ownsRow w0.heap.size 5 1 v l.length (vals l)) :
    Calls Try.prog 24 #[v, .int .u64 (n : Int), .int .i64 (sz : Int)] w fun e w' => ∃ v', e = .returned v' ∧ w'.ownsRow w0.heap.size 5 1 v' (l ++ numB sz n).length (vals (l ++ numB sz n)) ∧ Below w0.heap.size w0 w' ∧ Kept w w' (fun k => v.ownBlock = some k) := by
  have hf : PA.wal_put.f 20 (ints l) (n : Int) (sz : Int) = some (ints (l ++ numB sz n)) := by
    rcases hsz with rfl | rfl
    · exact number8 l n hl 20 (by decide)
    · exact number4 l n hl 20 (by decide)
  exact (PA.wal_put.calls 20 (fun k => v.ownBlock = some k) v (ints l) (n : Int) (sz : Int) _ w0 w hB (own_kd hown) hf).mono fun e w' h => by
    obtain ⟨v', h1, h2, h3, h4⟩ := h
    exact ⟨v', h1, kd_own h2, h3, h4⟩
theorem rNumber_calls (sz n : Nat) (hs : sz ≤ 8) (w : World) :
    Calls Try.prog 27 #[.int .u64 (n : Int), .int .i64 (sz : Int)] w fun e w' => ∃ v', e = .returned v' ∧ w'.ownsRow w.heap.size 5 1 v' (numB sz n).length (vals (numB sz n)) ∧ Below w.heap.size w w' :=
  (PA.mandateref18_Number.calls 20 (n : Int) (sz : Int) _ w (rnumber sz n hs 20 (by decide))).mono fun e w' h => by
    obtain ⟨v', h1, h2, h3⟩ := h
    exact ⟨v', h1, kd_own h2, h3⟩
theorem flat_vals (l : List Nat) : flat encB l = vals l := by
  induction l with
  | nil => rfl
  | cons x l ih => 
    show (encB x).toList ++ flat encB l = _
    rw [ih]; rfl
theorem rw_bytes {w : World} {v : Value} {l : List Nat} : Rw 1 encB w v l ↔ Bytes w v l := by
  constructor
  · rintro (h | ⟨g, o, c, h1, h2, h3, h4⟩)
    · exact .inl h
    · refine .inr ⟨g, o, c, h1, h2, h3, fun j hj => ?_⟩
      have := h4 j hj 0 (.int .u8 (l.getD j default : Nat)) rfl
      rw [Nat.mul_one, Nat.add_zero] at this
      exact this
  · rintro (h | ⟨g, o, c, h1, h2, h3, h4⟩)
    · exact .inl h
    · refine .inr ⟨g, o, c, h1, h2, h3, fun j hj r u hu => ?_⟩
      have hr : r = 0 := by
        have : r < 1 := (List.getElem?_eq_some_iff.1 hu).1
        omega
      subst hr
      have := h4 j hj
      rw [Nat.mul_one, Nat.add_zero, this]
      exact hu
theorem own_bytes {w : World} {base : Nat} {v : Value} {l : List Nat} (h : w.ownsRow base 5 1 v l.length (vals l)) : Bytes w v l :=
  rw_bytes.1 (Rw.own (enc := encB) encB_size (by decide) (by rw [flat_vals]; exact h))
theorem bytes_kd {w : World} {A : Option Addr} {n c : Nat} {l : List Nat} (hl : l.length ≤ 140737488355327) (h : Bytes w (.slice A n c) l) : n = l.length ∧ n ≤ c ∧ Kd.C (Kd.int .u8) w A l.length (ints l) := by
  rcases h with ⟨A', c', h0, rfl, _⟩ | ⟨g, o, c', h0, h1, h2, h3⟩
  · injection h0 with q1 q2 q3
    subst q2
    exact ⟨rfl, Nat.zero_le _, ⟨rfl, Nat.zero_le _, fun h => by cases h⟩⟩
  · injection h0 with q1 q2 q3
    subst q1 q2 q3
    refine ⟨rfl, h1, ⟨ints_len l, by omega, fun _ => ⟨_, rfl, fun j p hp => ?_⟩⟩⟩
    have hj : j < l.length := by rw [← ints_len]; exact (List.getElem?_eq_some_iff.1 hp).1
    refine ⟨[.int .u8 p], rfl, rfl, fun i u hu => ?_⟩
    have hi : i = 0 := by
      have : i < 1 := (List.getElem?_eq_some_iff.1 hu).1
      omega
    subst hi
    have hc := h3 j hj
    have e : p = ((l.getD j 0 : Nat) : Int) := by
      have : (ints l)[j]? = some ((l.getD j 0 : Nat) : Int) := by simp [ints, hj]
      rw [this] at hp; exact (Option.some.inj hp).symm
    have hz : (Kd.int .u8).sz = 1 := rfl
    rw [hz, Nat.mul_one, Nat.add_zero, Addr.add_mid, hc, ← e]
    exact hu
theorem strs (l : List Int) : (strOfNums l).data.toList = l.map fun x => UInt8.ofNat x.toNat := by simp [strOfNums]
theorem str_back {a : List Nat} (h : ∀ x ∈ a, x < 256) : (strOfNums (ints a)).toList.map UInt8.toNat = a := by
  rw [ByteArray.toList_eq, strs, ints, List.map_map, List.map_map]
  refine (List.map_congr_left (g := id) fun x hx => ?_).trans (List.map_id _)
  have := h x hx
  simp [Function.comp, Nat.mod_eq_of_lt this]
theorem equal_calls (a b : List Nat) (ha : ∀ x ∈ a, x < 256) (hb : ∀ x ∈ b, x < 256) (hla : a.length ≤ 140737488355327) (hlb : b.length ≤ 140737488355327) (u v : Value) (w : World) (hu : Bytes w u a) (hv : Bytes w v b) :
    Calls Try.prog 30 #[u, v] w fun e w' => e = .returned (.bool (decide (a = b))) ∧ Below w.heap.size w w' := by
  obtain ⟨A, c, rfl⟩ := hu.form
  obtain ⟨A2, c2, rfl⟩ := hv.form
  obtain ⟨_, h1, h2⟩ := bytes_kd hla hu
  obtain ⟨_, h3, h4⟩ := bytes_kd hlb hv
  have hf : PA.bytes_Equal.f (ints a) (ints b) = some (decide (a = b)) := by
    unfold PA.bytes_Equal.f
    congr 1
    rw [Bool.eq_iff_iff, beq_iff_eq, decide_eq_true_iff]
    exact ⟨fun h => by rw [← str_back ha, h, str_back hb], fun h => by rw [h]⟩
  have := PA.bytes_Equal.calls A c (ints a) A2 c2 (ints b) _ w (by rw [ints_len]; exact h2) (by rw [ints_len]; exact h1) (by rw [ints_len]; exact h4) (by rw [ints_len]; exact h3) hf
  rw [ints_len, ints_len] at this
  exact this.mono fun e w' h => ⟨h.1, h.2.below⟩
section
variable {ty : TypeId} {k : Nat} {o : Oper} {a : Act}
theorem exec_takeS (hu : Try.prog.underlying ty = some (.slice (Try.prog.elem ty))) (hsz : ∀ w, (sizeOf (Try.prog.elem ty)).run Try.prog w = .ok k w) (x hi : Operand) (ho : o.op = .slice ty x none (some hi) none) (A : Option Addr) (n c q : Nat) (hx : a.eval x = .slice A n c)
    (hh : a.eval hi = .int .i64 (q : Int)) (hc : q ≤ c) (w : World) : (execOp a.eval o).run Try.prog w = .ok (.value (.slice (if c = 0 then A else A.map (·.add 0)) q c)) w := by
  unfold execOp
  simp only [ho, Option.map_some, Option.map_none, hx, hh, Sem.run_bind, run_sliceAt_slice w ty _ _ _ _ hu, run_slice_h w ty _ n c hu .i64 (q : Int) (by omega) (by omega), hsz, Result.andThen_ok, Sem.run_pure, sliced, Int.toNat_natCast, Nat.zero_mul, Nat.sub_zero]
theorem exec_fromS (hu : Try.prog.underlying ty = some (.slice (Try.prog.elem ty))) (hsz : ∀ w, (sizeOf (Try.prog.elem ty)).run Try.prog w = .ok k w) (x lo : Operand) (ho : o.op = .slice ty x (some lo) none none) (A : Option Addr) (n c q : Nat) (hx : a.eval x = .slice A n c)
    (hh : a.eval lo = .int .i64 (q : Int)) (hc : q ≤ n) (w : World) : (execOp a.eval o).run Try.prog w = .ok (.value (.slice (if c = q then A else A.map (·.add (q * k))) (n - q) (c - q))) w := by
  unfold execOp
  simp only [ho, Option.map_some, Option.map_none, hx, hh, Sem.run_bind, run_sliceAt_slice w ty _ _ _ _ hu, run_slice_l w ty _ n c hu .i64 (q : Int) (by omega) (by omega), hsz, Result.andThen_ok, Sem.run_pure, sliced, Int.toNat_natCast]
end
theorem rw_drop {α : Type} [Inhabited α] {k : Nat} {enc : α → Array Value} {w : World} {l : List α} {A : Option Addr} {n c : Nat} (hn : n = l.length) (hy : Rw k enc w (.slice A n c) l) (q : Nat) (hq : q ≤ n) :
    Rw k enc w (.slice (if c = q then A else A.map (·.add (q * k))) (n - q) (c - q)) (l.drop q) := by
  rcases hy with ⟨A', c', h, rfl, h2⟩ | ⟨g, o, c', h, h2, h3, h4⟩
  · injection h with h5 h6 h7
    subst h5 h6
    have hq0 : q = 0 := by omega
    subst hq0
    subst h7
    refine .inl ⟨if c = 0 then A else A.map (·.add (0 * k)), c - 0, rfl, by simp, fun h => ?_⟩
    rw [Nat.sub_zero]
    by_cases hc : c = 0
    · rw [if_pos hc] at h; exact h2 h
    · rw [if_neg hc] at h
      cases A with
      | none => exact h2 rfl
      | some ad => simp at h
  · injection h with h5 h6 h7
    subst h5 h7
    by_cases hql : q = l.length
    · have : l.drop q = [] := by rw [hql]; simp
      rw [this]
      refine .inl ⟨_, c - q, by congr 1; omega, rfl, fun h => ?_⟩
      split at h
      · cases h
      · simp at h
    · refine .inr ⟨g, o + q * k, c - q, ?_, by rw [List.length_drop]; omega, h3, fun i hi => ?_⟩
      · rw [if_neg (by omega), Option.map_some, Addr.add_mid, List.length_drop, hn]
      · rw [List.length_drop] at hi
        have h5 := h4 (q + i) (by omega)
        have e1 : (l.drop q).getD i default = l.getD (q + i) default := by simp [List.getD_eq_getElem?_getD]
        have e2 : o + q * k + i * k = o + (q + i) * k := by rw [Nat.add_mul]; omega
        rw [e1, e2]; exact h5
theorem exec_sliceA {o : Oper} {a : Act} (w : World) (x hi : Operand) (ho : o.op = .slice 56 x none (some hi) none) (D cut : Nat) (hx : a.eval x = .pointer (some ⟨D, 0, none⟩)) (hh : a.eval hi = .int .i64 (cut : Int)) (hc : cut ≤ 32) :
    (execOp a.eval o).run Try.prog w = .ok (.value (.slice (some ⟨D, 0, none⟩) cut 32)) w := by
  have un : Try.prog.underlying 56 = some (.array (Try.prog.arrayLen 56) (Try.prog.elem 56)) := by kernel_rfl
  have sz : ∀ w, (sizeOf (Try.prog.elem 56)).run Try.prog w = .ok 1 w := fun w => by kernel_rfl
  have al : Try.prog.arrayLen 56 = 32 := by kernel_rfl
  unfold execOp
  simp only [ho, Option.map_some, Option.map_none, hx, hh, Sem.run_bind, run_sliceAt_array_h w 56 ⟨D, 0, none⟩ un .i64 (cut : Int) (by omega) (by rw [al]; omega), sz, al, Result.andThen_ok, Sem.run_pure, slicedAt, Int.toNat_natCast, Nat.zero_mul, Nat.sub_zero, Addr.add_mid, Nat.add_zero]
  rfl
end Go.Proofs.Ytdkaaieenbmihaa
namespace Go.Proofs.Ytdkaaieenbmihaa
open Go.RowKit
open Sha (vals Bytes Lies bytesC sumB)
/-- The number of some bytes, the highest first. -/
def beN (l : List Nat) : Nat := l.foldl (fun a x => a * 256 + x) 0
theorem beN_snoc (l : List Nat) (x : Nat) : beN (l ++ [x]) = beN l * 256 + x := by simp [beN]
theorem beN_lt : ∀ (l : List Nat), (∀ x ∈ l, x < 256) → beN l < 256 ^ l.length := by
  intro l
  induction h : l.length generalizing l with
  | zero => intro _; have := List.length_eq_zero_iff.1 h; subst this; decide
  | succ n ih =>
    intro hl
    obtain ⟨a, x, rfl⟩ : ∃ a x, l = a ++ [x] := by
      rcases List.eq_nil_or_concat l with rfl | ⟨a, x, rfl⟩
      · cases h
      · exact ⟨a, x, by simp⟩
    have h2 : a.length = n := by simpa using h
    have h3 := ih a h2 fun y hy => hl y (by simp [hy])
    have h4 := hl x (by simp)
    rw [beN_snoc, Nat.pow_succ]
    omega
theorem numB_snoc (sz n : Nat) : numB (sz + 1) n = numB sz (n / 256) ++ [n % 256] := by
  unfold numB
  rw [List.range_succ, List.map_append]
  congr 1
  · refine List.map_congr_left fun i hi => ?_
    have hi := List.mem_range.1 hi
    have e : sz + 1 - 1 - i = (sz - 1 - i) + 1 := by omega
    rw [e, Nat.div_div_eq_div_mul, Nat.mul_add, Nat.pow_add, Nat.mul_comm 256, Nat.mul_one, show (256 : Nat) = 2 ^ 8 from rfl]
  · simp
theorem beN_numB (sz n : Nat) : beN (numB sz n) = n % 256 ^ sz := by
  induction sz generalizing n with
  | zero => simp [numB, beN]; omega
  | succ k ih =>
    rw [numB_snoc, beN_snoc, ih, Nat.pow_succ, Nat.mul_comm (256 ^ k) 256, Nat.mod_mul]
    omega
/-- A record's bytes. -/
def recB (n : Nat) (p : List Nat) : List Nat := numB 4 (8 + p.length) ++ ((numB 8 n ++ p) ++ ((sumB (numB 8 n ++ p)).take 4 ++ [197]))
def recS (n : Int) (p : List Nat) : List Nat × Nat := if n < 1 then ([], 1) else if 8192 < p.length then ([], 2) else (recB n.toNat p, 0)
/-- The record at the beginning of some bytes: its number, its payload, its length. -/
def oneS (l : List Nat) : Option (Nat × List Nat × Nat) :=
  if l.length < 17 then none
  else if beN (l.take 4) < 8 ∨ 8200 < beN (l.take 4) ∨ l.length < beN (l.take 4) + 9 then none
  else if (l.drop (4 + beN (l.take 4))).take 4 ≠ (sumB ((l.drop 4).take (beN (l.take 4)))).take 4 ∨ l.getD (8 + beN (l.take 4)) 0 ≠ 197 then none
  else some (beN ((l.drop 4).take 8), ((l.drop 4).take (beN (l.take 4))).drop 8, beN (l.take 4) + 9)
theorem oneS_len {l : List Nat} {n : Nat} {p : List Nat} {k : Nat} (h : oneS l = some (n, p, k)) : 17 ≤ k ∧ k ≤ l.length ∧ p.length + 17 = k := by
  unfold oneS at h
  split at h
  · cases h
  · split at h
    · cases h
    · split at h
      · cases h
      · simp only [Option.some.injEq, Prod.mk.injEq] at h
        obtain ⟨_, rfl, rfl⟩ := h
        refine ⟨by omega, by omega, ?_⟩
        simp only [List.length_drop, List.length_take]
        omega
/-- Records of some bytes from a place on. -/
def scanS (l : List Nat) (f : Nat) (ps : List (List Nat)) (e : Nat) : Nat × List (List Nat) × Nat :=
  match h : oneS (l.drop e) with
  | none => (f, ps, e)
  | some (n, p, k) =>
    if (f = 0 ∧ (n < 1 ∨ 1099511627776 < n)) ∨ (0 < f ∧ n ≠ f + ps.length) then (f, ps, e)
    else scanS l (if f = 0 then n else f) (ps ++ [p]) (e + k)
termination_by l.length - e
decreasing_by
  have := oneS_len h
  simp only [List.length_drop] at this
  omega
theorem scanS_none {l : List Nat} {f : Nat} {ps : List (List Nat)} {e : Nat} (h : oneS (l.drop e) = none) : scanS l f ps e = (f, ps, e) := by
  rw [scanS]
  split
  · rfl
  · rename_i h2; rw [h] at h2; cases h2
theorem scanS_some {l : List Nat} {f : Nat} {ps : List (List Nat)} {e n k : Nat} {p : List Nat} (h : oneS (l.drop e) = some (n, p, k)) :
    scanS l f ps e = if (f = 0 ∧ (n < 1 ∨ 1099511627776 < n)) ∨ (0 < f ∧ n ≠ f + ps.length) then (f, ps, e) else scanS l (if f = 0 then n else f) (ps ++ [p]) (e + k) := by
  rw [scanS]
  split
  · rename_i h2; rw [h] at h2; cases h2
  · rename_i h2; rw [h] at h2; cases h2; rfl
theorem getD_drop (l : List Nat) (a b : Nat) : (l.drop a).getD b 0 = l.getD (a + b) 0 := by
  simp [List.getD, List.getElem?_drop]
/-- A record is read as it was. -/
theorem oneS_rec (n : Nat) (hn : n < 256 ^ 8) (p : List Nat) (hp : p.length ≤ 8192) (hs : (sumB (numB 8 n ++ p)).length = 32) (t : List Nat) :
    oneS (recB n p ++ t) = some (n, p, p.length + 17) := by
  have hsz : beN ((recB n p ++ t).take 4) = 8 + p.length := by
    have e : (recB n p ++ t).take 4 = numB 4 (8 + p.length) := by
      unfold recB
      rw [List.append_assoc, List.take_append_of_le_length (by rw [numB_len]; exact Nat.le_refl _), List.take_of_length_le (by rw [numB_len]; exact Nat.le_refl _)]
    rw [e, beN_numB]
    exact Nat.mod_eq_of_lt (Nat.lt_of_lt_of_le (by omega : 8 + p.length < 16777216) (by decide))
  have e4 : (recB n p ++ t).drop 4 = (numB 8 n ++ p) ++ ((sumB (numB 8 n ++ p)).take 4 ++ ([197] ++ t)) := by
    unfold recB
    rw [List.append_assoc, List.drop_append_of_le_length (by rw [numB_len]; exact Nat.le_refl _), List.drop_of_length_le (by rw [numB_len]; exact Nat.le_refl _)]
    simp only [List.nil_append, List.append_assoc]
  have hb : (numB 8 n ++ p).length = 8 + p.length := by rw [List.length_append, numB_len]
  have e5 : (recB n p ++ t).drop (4 + (8 + p.length)) = (sumB (numB 8 n ++ p)).take 4 ++ ([197] ++ t) := by
    rw [← List.drop_drop, e4, List.drop_append_of_le_length (by omega), List.drop_of_length_le (by omega), List.nil_append]
  have e6 : (recB n p ++ t).getD (8 + (8 + p.length)) 0 = 197 := by
    have : 8 + (8 + p.length) = (4 + (8 + p.length)) + 4 := by omega
    rw [this, ← getD_drop, e5]
    have h4 : ((sumB (numB 8 n ++ p)).take 4).length = 4 := by rw [List.length_take, hs]; rfl
    obtain ⟨q, hq⟩ : ∃ q, q = (sumB (numB 8 n ++ p)).take 4 := ⟨_, rfl⟩
    rw [← hq] at h4 ⊢
    rw [List.getD_eq_getElem?_getD, List.getElem?_append_right (Nat.le_of_eq h4), h4]
    rfl
  have hl : (recB n p ++ t).length = p.length + 17 + t.length := by
    unfold recB
    simp only [List.length_append, numB_len, List.length_take, hs, List.length_singleton]
    omega
  have eb : ((recB n p ++ t).drop 4).take (8 + p.length) = numB 8 n ++ p := by
    rw [e4, List.take_append_of_le_length (by omega), List.take_of_length_le (by omega)]
  unfold oneS
  rw [hsz, if_neg (by omega), if_neg (by omega), eb, e5, e6, if_neg, e4]
  · have q1 : beN (((numB 8 n ++ p) ++ ((sumB (numB 8 n ++ p)).take 4 ++ ([197] ++ t))).take 8) = n := by
      rw [List.append_assoc, List.take_append_of_le_length (by rw [numB_len]; exact Nat.le_refl _), List.take_of_length_le (by rw [numB_len]; exact Nat.le_refl _), beN_numB]
      exact Nat.mod_eq_of_lt hn
    have q2 : (numB 8 n ++ p).drop 8 = p := by
      rw [List.drop_append_of_le_length (by rw [numB_len]; exact Nat.le_refl _), List.drop_of_length_le (by rw [numB_len]; exact Nat.le_refl _), List.nil_append]
    have q3 : 8 + p.length + 9 = p.length + 17 := by omega
    rw [q1, q2, q3]
  · rintro (h | h)
    · apply h
      have h4 : ((sumB (numB 8 n ++ p)).take 4).length = 4 := by rw [List.length_take, hs]; rfl
      rw [List.take_append_of_le_length (by omega), List.take_of_length_le (by omega)]
    · exact h rfl
/-- A record that is cut is none. -/
theorem oneS_cut (n : Nat) (p : List Nat) (hp : p.length ≤ 8192) (hs : (sumB (numB 8 n ++ p)).length = 32) (k : Nat) (hk : k < p.length + 17) :
    oneS ((recB n p).take k) = none := by
  have hl : (recB n p).length = p.length + 17 := by
    unfold recB
    simp only [List.length_append, numB_len, List.length_take, hs, List.length_singleton]
    omega
  have hl2 : ((recB n p).take k).length = k := by rw [List.length_take]; omega
  unfold oneS
  by_cases h17 : k < 17
  · rw [if_pos (by omega)]
  · rw [if_neg (by omega), if_pos]
    have hsz : beN (((recB n p).take k).take 4) = 8 + p.length := by
      have e : ((recB n p).take k).take 4 = numB 4 (8 + p.length) := by
        rw [List.take_take, Nat.min_eq_left (by omega)]
        unfold recB
        rw [List.take_append_of_le_length (by rw [numB_len]; exact Nat.le_refl _), List.take_of_length_le (by rw [numB_len]; exact Nat.le_refl _)]
      rw [e, beN_numB]
      exact Nat.mod_eq_of_lt (Nat.lt_of_lt_of_le (by omega : 8 + p.length < 16777216) (by decide))
    rw [hsz, hl2]
    omega
end Go.Proofs.Ytdkaaieenbmihaa
namespace Go.Proofs.Ytdkaaieenbmihaa
open Go.RowKit
open Sha (vals Bytes Lies bytesC sumB)
theorem Rw.one {w : World} {g o n c : Nat} {l : List Nat} (h : Rw 1 encB w (.slice (some ⟨g, o, none⟩) n c) l) (i : Nat) (hi : i < l.length) : w.cell? ⟨g, o + i, none⟩ = some (.int .u8 ((l.getD i 0 : Nat) : Int)) := by
  have := run_elem h i hi 0 (.int .u8 ((l.getD i default : Nat) : Int)) rfl
  simpa using this
theorem beN_take (l : List Nat) (i : Nat) (hi : i < l.length) : beN (l.take (i + 1)) = beN (l.take i) * 256 + l.getD i 0 := by
  rw [List.take_succ_eq_append_getElem hi, beN_snoc]
  simp [List.getD_eq_getElem?_getD, hi]
theorem beN_small (l : List Nat) (hb : ∀ x ∈ l, x < 256) (i : Nat) (hi : i < 8) : beN (l.take i) < 72057594037927936 := by
  have h1 := beN_lt (l.take i) fun x hx => hb x (List.mem_of_mem_take hx)
  have h2 : 256 ^ (l.take i).length ≤ 256 ^ 7 := Nat.pow_le_pow_right (by decide) (by rw [List.length_take]; omega)
  have h3 : (256 : Nat) ^ 7 = 72057594037927936 := by decide
  omega
theorem getD_lt256 {l : List Nat} (hb : ∀ x ∈ l, x < 256) (i : Nat) : l.getD i 0 < 256 := by
  by_cases h : i < l.length
  · simp only [List.getD_eq_getElem?_getD, List.getElem?_eq_getElem h, Option.getD_some]
    exact hb _ (List.getElem_mem h)
  · simp [List.getD_eq_getElem?_getD, List.getElem?_eq_none (by omega : l.length ≤ i)]
section
variable {o : Oper} {a : Act} {w : World}
theorem exec_shl8 (x : Operand) (ho : o.op = .binOp .shl 37 x (.const (.int .u64 8)) 81) (u : Nat) (hu : u < 72057594037927936) (hx : a.eval x = .int .u64 (u : Int)) : (execOp a.eval o).run Try.prog w = .ok (.value (.int .u64 ((u * 256 : Nat) : Int))) w := by
  have hc : a.eval (.const (.int .u64 8)) = .int .u64 8 := rfl
  unfold execOp
  simp only [ho, hx, hc, eqGuard_shl, binOp_shl, shift_shl_u64 (x := (u : Int)) (yk := .u64) (y := 8) (by decide) (by decide), Sem.run_bind, Sem.run_pure, Result.andThen_ok]
  congr 3
  rw [IntKind.wrap_u64, show (2 : Int) ^ Int.toNat 8 = 256 from rfl]
  omega
theorem exec_orc (x y : Operand) (ho : o.op = .binOp .or 37 x y 37) (u v : Nat) (hu : u < 72057594037927936) (hv : v < 256) (hx : a.eval x = .int .u64 ((u * 256 : Nat) : Int)) (hy : a.eval y = .int .u64 (v : Int)) :
    (execOp a.eval o).run Try.prog w = .ok (.value (.int .u64 ((u * 256 + v : Nat) : Int))) w := by
  have h : u * 256 + v = u * 256 ||| v := by
    have := Nat.two_pow_add_eq_or_of_lt (i := 8) (show v < 2 ^ 8 from hv) u
    rw [Nat.mul_comm]; exact this
  have key : (execOp a.eval o).run Try.prog w = .ok (.value (.int .u64 (bits .or .u64 ((u * 256 : Nat) : Int) (v : Int)))) w := by
    unfold execOp
    simp only [ho, hx, hy]
    kernel_rfl
  rw [key, bits_or_u64_nat _ _ (by omega) (by omega), h]
theorem exec_u8u64 (x : Operand) (ho : o.op = .convert 5 37 x) (u : Nat) (hu : u < 256) (hx : a.eval x = .int .u8 (u : Int)) : (execOp a.eval o).run Try.prog w = .ok (.value (.int .u64 (u : Int))) w := by
  have key : (execOp a.eval o).run Try.prog w = .ok (.value (.int .u64 (IntKind.u64.wrap (u : Int)))) w := by
    unfold execOp
    simp only [ho, hx]
    kernel_rfl
  rw [key, IntKind.wrap_u64]
  congr 3
  omega
theorem exec_mul256 (x : Operand) (ho : o.op = .binOp .mul 37 x (.const (.int .u64 256)) 37) (u : Nat) (hu : u < 72057594037927936) (hx : a.eval x = .int .u64 (u : Int)) : (execOp a.eval o).run Try.prog w = .ok (.value (.int .u64 ((u * 256 : Nat) : Int))) w := by
  have key : (execOp a.eval o).run Try.prog w = .ok (.value (.int .u64 (IntKind.u64.wrap ((u : Int) * 256)))) w := by
    unfold execOp
    simp only [ho, hx]
    kernel_rfl
  rw [key, IntKind.wrap_u64]
  congr 3
  omega
theorem exec_addc (x y : Operand) (ho : o.op = .binOp .add 37 x y 37) (u v : Nat) (hu : u < 72057594037927936) (hv : v < 256) (hx : a.eval x = .int .u64 ((u * 256 : Nat) : Int)) (hy : a.eval y = .int .u64 (v : Int)) :
    (execOp a.eval o).run Try.prog w = .ok (.value (.int .u64 ((u * 256 + v : Nat) : Int))) w := by
  have key : (execOp a.eval o).run Try.prog w = .ok (.value (.int .u64 (IntKind.u64.wrap (((u * 256 : Nat) : Int) + (v : Int))))) w := by
    unfold execOp
    simp only [ho, hx, hy]
    kernel_rfl
  rw [key, IntKind.wrap_u64]
  congr 3
  omega
end
theorem un22 : Try.prog.underlying 22 = some (.slice (Try.prog.elem 22)) := by kernel_rfl
theorem sz22 (w : World) : (sizeOf (Try.prog.elem 22)).run Try.prog w = .ok 1 w := by kernel_rfl
set_option maxRecDepth 100000 in
set_option maxHeartbeats 4000000 in
theorem number_calls (l : List Nat) (hb : ∀ x ∈ l, x < 256) (A : Option Addr) (n c : Nat) (hn : n = l.length) (hn9 : n ≤ 1000000000) (k : Nat) (hk : k ≤ n) (hk8 : k ≤ 8) (w : World) (hy : Rw 1 encB w (.slice A n c) l) :
    Calls Try.prog 29 #[.slice A n c, .int .i64 (k : Int)] w fun e w' => e = .returned (.int .u64 (beN (l.take k) : Int)) ∧ Below w.heap.size w w' := by
  have hn' : Hid (n = l.length) := hn
  have hyw : Hid (Rw 1 encB w (.slice A n c) l) := hy
  have hBw : Hid (Below w.heap.size w w) := Below.refl _ _
  have hbH : Hid (∀ x ∈ l, x < 256) := hb
  have hbd : k ≤ n ∧ n ≤ c := by
    refine ⟨hk, ?_⟩
    rcases hy with ⟨A', c', h, h2, _⟩ | ⟨g, o', c', h, h2, h3, h4⟩
    · subst h2
      injection h with h5 h6 h7
      simp at hn; omega
    · injection h with h5 h6 h7
      omega
  clear hy hn hb
  obtain ⟨A2, hA2⟩ : ∃ A2, A2 = (if c = 0 then A else A.map (·.add 0)) := ⟨_, rfl⟩
  have hy2w : Hid (Rw 1 encB w (.slice A2 k c) (l.take k)) := by
    have h8 := (rw_take hn'.out hyw.out k hk).2
    rw [← hA2] at h8
    exact h8
  obtain ⟨m, hm⟩ : ∃ m, m = l.take k := ⟨_, rfl⟩
  have hml : m.length = k := by rw [hm, List.length_take]; have := hn'.out; omega
  have hmb : Hid (∀ x ∈ m, x < 256) := fun x hx => hbH.out x (by rw [hm] at hx; exact List.mem_of_mem_take hx)
  rw [← hm] at hy2w ⊢
  have hmk : m = m.take k := (List.take_of_length_le (Nat.le_of_eq hml)).symm
  clear hm hbH hn' hyw
  go_enter Try.func29, Try.ntmps29
  go_upto_region 2 with fail
  refine wp_region_lit ?_
  refine sl_run rfl (.slice A n c) w (by kernel_rfl) ?_
  simp only [Act.put, fl1, fl2, fl3]
  refine sl_run rfl (.int .i64 (k : Int)) w (by kernel_rfl) ?_
  simp only [Act.put, fl1, fl2, fl3]
  refine sl_run rfl (.slice A2 k c) w ((exec_takeS un22 sz22 _ _ rfl A n c k (by kernel_rfl) (by kernel_rfl) (Nat.le_trans hbd.1 hbd.2) w).trans (by rw [← hA2])) ?_
  simp only [Act.put, fl1, fl2, fl3]
  refine sl_run rfl (.int .i64 (k : Int)) w (by kernel_rfl) ?_
  simp only [Act.put, fl1, fl2, fl3]
  refine sl_run rfl (.int .i64 0) w (by kernel_rfl) ?_
  simp only [Act.put, fl1, fl2, fl3]
  refine wpList_nil ?_
  clear hA2
  go_wp2_with fail
  go_loopw [5, 12] (fun p5 p12 wr => ∃ j : Nat, j ≤ k ∧ p5 = .int .u64 (beN (m.take j) : Int) ∧ p12 = .int .i64 (j : Int) ∧ Hid (Below w.heap.size w wr)) (fun _ p12 _ => k - (intOf p12).toNat)
  case atStart => exact ⟨0, by omega, rfl, rfl, hBw⟩
  case round =>
    obtain ⟨j, hj, rfl, rfl, hbw⟩ := hrel
    obtain ⟨wo, rfl⟩ : ∃ v : World, v = wr := ⟨_, rfl⟩
    by_cases h1 : j < k
    case neg =>
      have hI : ¬ (j : Int) < (k : Int) := by omega
      obtain rfl : j = k := by omega
      have hF := hbw
      obtain ⟨V, hV⟩ : ∃ V, V = beN (m.take j) := ⟨_, rfl⟩
      
      rw [← hV]
      have hV2 : V = beN m := by rw [hV, ← hmk]
      clear hV hmk
      clear hbw hBw
      go_wp2_with fail
      go_ret
      exact ⟨by rfl, hF.out⟩
    case pos =>
    have hI : (j : Int) < (k : Int) := by omega
    obtain ⟨g, o, rfl, hnc, hg, hel⟩ := hy2w.out.elem j (by omega)
    have hcl : Hid (∀ w', Below w.heap.size w w' → w'.cell? ⟨g, o + j, none⟩ = some (.int .u8 ((m.getD j 0 : Nat) : Int))) := fun w' h => Rw.one (hy2w.out.below h) j (by omega)
    obtain ⟨x, hx⟩ : ∃ x, x = m.getD j 0 := ⟨_, rfl⟩
    have hx2 : x < 256 := by rw [hx]; exact getD_lt256 hmb.out j
    obtain ⟨u, hu⟩ : ∃ u, u = beN (m.take j) := ⟨_, rfl⟩
    have hu2 : u < 72057594037927936 := by rw [hu]; exact beN_small m hmb.out j (by omega)
    have hnx : Hid (beN (m.take (j + 1)) = u * 256 + x) := by
      show _ = _
      rw [beN_take m j (by omega), ← hu, ← hx]
    rw [← hx] at hcl
    rw [← hu]
    clear hx hu hel hg
    go_upto_region 3 with fail
    refine wp_region_lit ?_
    refine sl_run rfl (.bool true) wo (exec_lss _ _ _ rfl _ _ (by kernel_rfl) (by kernel_rfl) true (decide_eq_true hI)) ?_
    simp only [Act.put, fl1, fl2, fl3]
    refine wpList_nil ?_
    go_upto_region 4 with fail
    refine wp_region_lit ?_
    refine sl_run rfl (.pointer (some ⟨g, o + j * 1, none⟩)) wo (exec_index un22 sz22 _ _ rfl g o k c j (by kernel_rfl) (by kernel_rfl) h1 wo) ?_
    simp only [Act.put, fl1, fl2, fl3]
    refine sl_run rfl (.int .u8 (x : Int)) wo (exec_load_cell 5 wo _ rfl ⟨g, o + j * 1, none⟩ (by kernel_rfl) _ (by rw [Nat.mul_one]; exact hcl.out wo hbw.out) (fun _ => by kernel_rfl)) ?_
    simp only [Act.put, fl1, fl2, fl3]
    refine sl_run rfl (.int .u8 (x : Int)) wo (by kernel_rfl) ?_
    simp only [Act.put, fl1, fl2, fl3]
    refine wpList_nil ?_
    go_upto_region 5 with fail
    refine wp_region_lit ?_
    refine sl_run rfl (.int .u64 (u : Int)) wo (by kernel_rfl) ?_
    simp only [Act.put, fl1, fl2, fl3]
    refine sl_run rfl (.int .u64 ((u * 256 : Nat) : Int)) wo (exec_shl8 _ rfl u hu2 (by kernel_rfl)) ?_
    simp only [Act.put, fl1, fl2, fl3]
    refine sl_run rfl (.int .u8 (x : Int)) wo (by kernel_rfl) ?_
    simp only [Act.put, fl1, fl2, fl3]
    refine sl_run rfl (.int .u64 (x : Int)) wo (exec_u8u64 _ rfl x hx2 (by kernel_rfl)) ?_
    simp only [Act.put, fl1, fl2, fl3]
    refine sl_run rfl (.int .u64 ((u * 256 + x : Nat) : Int)) wo (exec_orc _ _ rfl u x hu2 hx2 (by kernel_rfl) (by kernel_rfl)) ?_
    simp only [Act.put, fl1, fl2, fl3]
    refine sl_run rfl (.int .u64 ((u * 256 + x : Nat) : Int)) wo (by kernel_rfl) ?_
    simp only [Act.put, fl1, fl2, fl3]
    refine wpList_nil ?_
    go_upto_region 6 with fail
    refine wp_region_lit ?_
    refine sl_run rfl (.int .i64 ((j : Int) + 1)) wo (exec_add2 _ _ rfl _ _ (by kernel_rfl) (by kernel_rfl) (by omega) (by omega) wo) ?_
    simp only [Act.put, fl1, fl2, fl3]
    refine sl_run rfl (.int .i64 ((j : Int) + 1)) wo (by kernel_rfl) ?_
    simp only [Act.put, fl1, fl2, fl3]
    refine wpList_nil ?_
    rw [← hnx.out]
    clear hcl hnx
    go_wp2_with fail
    go_roundw
    case rel => exact ⟨j + 1, by omega, rfl, by go_num, hbw⟩
    case measure => simp [intOf]; omega
set_option maxRecDepth 100000 in
set_option maxHeartbeats 4000000 in
theorem rnum_calls (l : List Nat) (hb : ∀ x ∈ l, x < 256) (A : Option Addr) (n c : Nat) (hn : n = l.length) (hn9 : n ≤ 1000000000) (k : Nat) (hk : k ≤ n) (hk8 : k ≤ 8) (w : World) (hy : Rw 1 encB w (.slice A n c) l) :
    Calls Try.prog 50 #[.slice A n c, .int .i64 (k : Int)] w fun e w' => e = .returned (.int .u64 (beN (l.take k) : Int)) ∧ Below w.heap.size w w' := by
  have hn' : Hid (n = l.length) := hn
  have hyw : Hid (Rw 1 encB w (.slice A n c) l) := hy
  have hBw : Hid (Below w.heap.size w w) := Below.refl _ _
  have hbH : Hid (∀ x ∈ l, x < 256) := hb
  have hbd : k ≤ n ∧ n ≤ c := by
    refine ⟨hk, ?_⟩
    rcases hy with ⟨A', c', h, h2, _⟩ | ⟨g, o', c', h, h2, h3, h4⟩
    · subst h2
      injection h with h5 h6 h7
      simp at hn; omega
    · injection h with h5 h6 h7
      omega
  clear hy hn hb
  obtain ⟨m, hm⟩ : ∃ m, m = l := ⟨_, rfl⟩
  have hml : n = m.length := by rw [hm]; exact hn'.out
  have hmb : Hid (∀ x ∈ m, x < 256) := fun x hx => hbH.out x (by rw [hm] at hx; exact hx)
  rw [← hm] at hyw ⊢
  have hy2w := hyw
  clear hm hbH hn' hyw
  go_enter Try.func50, Try.ntmps50
  go_wp2_with fail
  go_loopw [5, 6] (fun p5 p6 wr => ∃ j : Nat, j ≤ k ∧ p5 = .int .u64 (beN (m.take j) : Int) ∧ p6 = .int .i64 (j : Int) ∧ Hid (Below w.heap.size w wr)) (fun _ p6 _ => k - (intOf p6).toNat)
  case atStart => exact ⟨0, by omega, rfl, rfl, hBw⟩
  case round =>
    obtain ⟨j, hj, rfl, rfl, hbw⟩ := hrel
    obtain ⟨wo, rfl⟩ : ∃ v : World, v = wr := ⟨_, rfl⟩
    by_cases h1 : j < k
    case neg =>
      have hI : ¬ (j : Int) < (k : Int) := by omega
      obtain rfl : j = k := by omega
      have hF := hbw
      obtain ⟨V, hV⟩ : ∃ V, V = beN (m.take j) := ⟨_, rfl⟩
      
      rw [← hV]
      
      have hVH : Hid (V = beN (m.take j)) := hV
      clear hV
      clear hbw hBw
      go_wp2_with fail
      go_ret
      exact ⟨by rw [hVH.out]; rfl, hF.out⟩
    case pos =>
    have hI : (j : Int) < (k : Int) := by omega
    obtain ⟨g, o, rfl, hnc, hg, hel⟩ := hy2w.out.elem j (by omega)
    have hcl : Hid (∀ w', Below w.heap.size w w' → w'.cell? ⟨g, o + j, none⟩ = some (.int .u8 ((m.getD j 0 : Nat) : Int))) := fun w' h => Rw.one (hy2w.out.below h) j (by omega)
    obtain ⟨x, hx⟩ : ∃ x, x = m.getD j 0 := ⟨_, rfl⟩
    have hx2 : x < 256 := by rw [hx]; exact getD_lt256 hmb.out j
    obtain ⟨u, hu⟩ : ∃ u, u = beN (m.take j) := ⟨_, rfl⟩
    have hu2 : u < 72057594037927936 := by rw [hu]; exact beN_small m hmb.out j (by omega)
    have hnx : Hid (beN (m.take (j + 1)) = u * 256 + x) := by
      show _ = _
      rw [beN_take m j (by omega), ← hu, ← hx]
    rw [← hx] at hcl
    rw [← hu]
    clear hx hu hel hg
    go_upto_region 3 with fail
    refine wp_region_lit ?_
    refine sl_run rfl (.int .i64 (j : Int)) wo (by kernel_rfl) ?_
    simp only [Act.put, fl1, fl2, fl3]
    refine sl_run rfl (.int .i64 (k : Int)) wo (by kernel_rfl) ?_
    simp only [Act.put, fl1, fl2, fl3]
    refine sl_run rfl (.bool true) wo (exec_lss _ _ _ rfl _ _ (by kernel_rfl) (by kernel_rfl) true (decide_eq_true hI)) ?_
    simp only [Act.put, fl1, fl2, fl3]
    refine wpList_nil ?_
    go_upto_region 5 with fail
    refine wp_region_lit ?_
    refine sl_run rfl (.int .u64 (u : Int)) wo (by kernel_rfl) ?_
    simp only [Act.put, fl1, fl2, fl3]
    refine sl_run rfl (.int .u64 ((u * 256 : Nat) : Int)) wo (exec_mul256 _ rfl u hu2 (by kernel_rfl)) ?_
    simp only [Act.put, fl1, fl2, fl3]
    refine sl_run rfl (.slice (some ⟨g, o, none⟩) n c) wo (by kernel_rfl) ?_
    simp only [Act.put, fl1, fl2, fl3]
    refine sl_run rfl (.int .i64 (j : Int)) wo (by kernel_rfl) ?_
    simp only [Act.put, fl1, fl2, fl3]
    refine sl_run rfl (.pointer (some ⟨g, o + j * 1, none⟩)) wo (exec_index un22 sz22 _ _ rfl g o n c j (by kernel_rfl) (by kernel_rfl) (by omega) wo) ?_
    simp only [Act.put, fl1, fl2, fl3]
    refine sl_run rfl (.int .u8 (x : Int)) wo (exec_load_cell 5 wo _ rfl ⟨g, o + j * 1, none⟩ (by kernel_rfl) _ (by rw [Nat.mul_one]; exact hcl.out wo hbw.out) (fun _ => by kernel_rfl)) ?_
    simp only [Act.put, fl1, fl2, fl3]
    refine sl_run rfl (.int .u64 (x : Int)) wo (exec_u8u64 _ rfl x hx2 (by kernel_rfl)) ?_
    simp only [Act.put, fl1, fl2, fl3]
    refine sl_run rfl (.int .u64 ((u * 256 + x : Nat) : Int)) wo (exec_addc _ _ rfl u x hu2 hx2 (by kernel_rfl) (by kernel_rfl)) ?_
    simp only [Act.put, fl1, fl2, fl3]
    refine sl_run rfl (.int .u64 ((u * 256 + x : Nat) : Int)) wo (by kernel_rfl) ?_
    simp only [Act.put, fl1, fl2, fl3]
    refine wpList_nil ?_
    go_upto_region 4 with fail
    refine wp_region_lit ?_
    refine sl_run rfl (.int .i64 (j : Int)) wo (by kernel_rfl) ?_
    simp only [Act.put, fl1, fl2, fl3]
    refine sl_run rfl (.int .i64 ((j : Int) + 1)) wo (exec_add2 _ _ rfl _ _ (by kernel_rfl) (by kernel_rfl) (by omega) (by omega) wo) ?_
    simp only [Act.put, fl1, fl2, fl3]
    refine sl_run rfl (.int .i64 ((j : Int) + 1)) wo (by kernel_rfl) ?_
    simp only [Act.put, fl1, fl2, fl3]
    refine wpList_nil ?_
    rw [← hnx.out]
    clear hcl hnx
    go_wp2_with fail
    go_roundw
    case rel => exact ⟨j + 1, by omega, rfl, by go_num, hbw⟩
    case measure => simp [intOf]; omega
end Go.Proofs.Ytdkaaieenbmihaa
namespace Go.Proofs.Ytdkaaieenbmihaa
open Go.RowKit
open Sha (vals Bytes Lies bytesC sumB)
theorem exec_convI {o : Oper} {a : Act} {w : World} (t u : TypeId) (x : Operand) (ho : o.op = .convert t u x) (n : Int) (k : IntKind) (m : Int) (hx : a.eval x = .int .i64 n) (he : (convert t u (.int .i64 n)).run Try.prog w = .ok (.int k m) w) : (execOp a.eval o).run Try.prog w = .ok (.value (.int k m)) w := by
  unfold execOp
  simp [ho, hx, he]
theorem conv_u64 (n : Int) (h : 0 ≤ n) (h2 : n < 18446744073709551616) (w : World) : (convert 3 37 (.int .i64 n)).run Try.prog w = .ok (.int .u64 n) w := by
  have e : IntKind.u64.wrap n = n := by simp [IntKind.wrap, IntKind.bits, IntKind.signed]; omega
  simp [convert, run_underlying Try.underlying3, run_underlying Try.underlying37, Conv.intToInt, e]
theorem rec_lt (n : Nat) (p : List Nat) (hp : ∀ x ∈ p, x < 256) : ∀ x ∈ numB 8 n ++ p, x < 256 := fun x hx => by
  rcases List.mem_append.1 hx with h | h
  · exact numB_lt _ _ _ h
  · exact hp _ h
theorem getD_of {l : List Nat} (hb : ∀ x ∈ l, x < 256) : ∀ j, l.getD j 0 < 256 := fun j => getD_lt256 hb j
/-- The first bytes of an array. -/
theorem arr_take {w : World} {D : Nat} {S : List Nat} (hS : S.length = 32) (h : w.heap[D]? = some (.cells (bytesC S) 56 (0, 0))) : Rw 1 encB w (.slice (some ⟨D, 0, none⟩) 4 32) (S.take 4) := by
  refine rw_bytes.2 (.inr ⟨D, 0, 32, by rw [List.length_take, hS]; rfl, by rw [List.length_take]; omega, (Array.getElem?_eq_some_iff.1 h).1, fun j hj => ?_⟩)
  rw [List.length_take, hS] at hj
  rw [cell_of_row _ _ _ _ _ _ h, Nat.zero_add, Sha.bytesC_get _ _ (by omega)]
  have : (S.take 4)[j]? = S[j]? := List.getElem?_take_of_lt (by omega)
  simp [List.getD_eq_getElem?_getD, this]
set_option maxRecDepth 100000 in
set_option maxHeartbeats 4000000 in
theorem Record_calls (n : Int) (hn1 : n ≤ 9223372036854775807) (p : List Nat) (hp : ∀ x ∈ p, x < 256) (A : Option Addr) (m c : Nat) (hm : m = p.length) (hm9 : m ≤ 1000000000) (w : World) (hy : Rw 1 encB w (.slice A m c) p) :
    Calls Try.prog 10 #[.int .i64 n, .slice A m c] w fun e w' => ∃ v, e = .returned (.tuple #[v, .int .i64 ((recS n p).2 : Int)]) ∧ Rw 1 encB w' v (recS n p).1 ∧ Below w.heap.size w w' := by
  by_cases h1 : n < 1
  · have hs : recS n p = ([], 1) := by unfold recS; rw [if_pos h1]
    rw [hs]
    clear hs hy hm hp
    go_enter Try.func10, Try.ntmps10
    go_wp2_with fail
    go_ret2
    exact ⟨_, rfl, Rw.nil, Below.refl _ _⟩
  by_cases h2 : (8192 : Int) < (m : Int)
  · have hs : recS n p = ([], 2) := by unfold recS; rw [if_neg h1, if_pos (by omega)]
    rw [hs]
    clear hs hy hm hp
    go_enter Try.func10, Try.ntmps10
    go_wp2_with fail
    go_ret2
    exact ⟨_, rfl, Rw.nil, Below.refl _ _⟩
  obtain ⟨k, rfl⟩ : ∃ k : Nat, n = (k : Int) := ⟨n.toNat, by omega⟩
  have hs : recS (k : Int) p = (recB k p, 0) := by unfold recS; rw [if_neg h1, if_neg (by omega), Int.toNat_natCast]
  rw [hs]
  clear hs
  obtain ⟨S, hS⟩ : ∃ S, S = sumB (numB 8 k ++ p) := ⟨_, rfl⟩
  have hSl : S.length = 32 := by rw [hS]; exact Sha.sumB_length _
  have hrec : Hid (recB k p = ((([] ++ numB 4 (8 + m)) ++ numB 8 k) ++ p) ++ S.take 4 ++ [197]) := by
    show _ = _
    rw [hS, hm]
    unfold recB
    simp only [List.append_assoc, List.nil_append]
  have hSH : Hid (S = sumB (numB 8 k ++ p)) := hS
  have hm' : Hid (m = p.length) := hm
  have hyw : Hid (Rw 1 encB w (.slice A m c) p) := hy
  have hpH : Hid (∀ x ∈ p, x < 256) := hp
  have hBw : Hid (Below w.heap.size w w) := Below.refl _ _
  have hOw : Hid (w.ownsRow w.heap.size 5 1 (.slice none 0 0) ([] : List Nat).length (vals ([] : List Nat))) := World.ownsRow_nil _ _ _ _
  clear hy hm hS hp
  have hnk : (k : Int) ≤ 9223372036854775807 := hn1
  go_enter Try.func10, Try.ntmps10
  go_upto_region 5 with fail
  refine wp_region_lit ?_
  refine sl_run rfl (.slice A m c) w (by kernel_rfl) ?_
  simp only [Act.put, fl1, fl2, fl3]
  refine sl_run rfl (.int .i64 (m : Int)) w (by kernel_rfl) ?_
  simp only [Act.put, fl1, fl2, fl3]
  refine sl_run rfl (.int .i64 (8 + (m : Int))) w (exec_add2 _ _ rfl _ _ (by kernel_rfl) (by kernel_rfl) (by omega) (by omega) w) ?_
  simp only [Act.put, fl1, fl2, fl3]
  refine sl_run rfl (.int .u64 ((8 + m : Nat) : Int)) w (exec_convI _ _ _ rfl _ _ _ (by kernel_rfl) ((conv_u64 (8 + (m : Int)) (by omega) (by omega) w).trans (by rw [Int.natCast_add]; rfl))) ?_
  simp only [Act.put, fl1, fl2, fl3]
  refine sg_call (by kernel_rfl) 24 #[(.slice none 0 0), .int .u64 ((8 + m : Nat) : Int), .int .i64 4] (by kernel_rfl) (R := fun u w' => w'.ownsRow w.heap.size 5 1 u ((([] : List Nat)) ++ numB 4 ((8 + m : Nat))).length (vals ((([] : List Nat)) ++ numB 4 ((8 + m : Nat)))) ∧ Below w.heap.size w w') ((put_calls 4 (by decide) (([] : List Nat)) ((8 + m : Nat)) (by have := hm'.out; simp [numB_len]) (.slice none 0 0) w w hBw.out hOw.out).mono fun e w' h => by
    obtain ⟨u, h1, h2, h3, _⟩ := h
    exact ⟨u, h1, h2, h3⟩) ?_
  rintro v1 w1 ⟨hO9, hB9⟩
  simp only [Act.put, fl1, fl2, fl3]
  have hBw1 : Hid (Below w.heap.size w w1) := hB9
  have hOw1 : Hid (w1.ownsRow w.heap.size 5 1 v1 ((([] : List Nat)) ++ numB 4 ((8 + m : Nat))).length (vals ((([] : List Nat)) ++ numB 4 ((8 + m : Nat))))) := hO9
  clear hO9 hB9 hBw hOw
  refine sl_run rfl (v1) w1 (by kernel_rfl) ?_
  simp only [Act.put, fl1, fl2, fl3]
  refine wpList_nil ?_
  go_upto_region 6 with fail
  refine wp_region_lit ?_
  refine sl_run rfl (v1) w1 (by kernel_rfl) ?_
  simp only [Act.put, fl1, fl2, fl3]
  refine sl_run rfl (.int .i64 (k : Int)) w1 (by kernel_rfl) ?_
  simp only [Act.put, fl1, fl2, fl3]
  refine sl_run rfl (.int .u64 (k : Int)) w1 (exec_convI _ _ _ rfl _ _ _ (by kernel_rfl) (conv_u64 (k : Int) (by omega) (by omega) _)) ?_
  simp only [Act.put, fl1, fl2, fl3]
  refine sg_call (by kernel_rfl) 24 #[v1, .int .u64 (k : Int), .int .i64 8] (by kernel_rfl) (R := fun u w' => w'.ownsRow w.heap.size 5 1 u (((([] : List Nat)) ++ numB 4 ((8 + m : Nat))) ++ numB 8 (k)).length (vals (((([] : List Nat)) ++ numB 4 ((8 + m : Nat))) ++ numB 8 (k))) ∧ Below w.heap.size w w') ((put_calls 8 (by decide) ((([] : List Nat)) ++ numB 4 ((8 + m : Nat))) (k) (by have := hm'.out; simp [numB_len]) v1 w w1 hBw1.out hOw1.out).mono fun e w' h => by
    obtain ⟨u, h1, h2, h3, _⟩ := h
    exact ⟨u, h1, h2, h3⟩) ?_
  rintro v2 w2 ⟨hO9, hB9⟩
  simp only [Act.put, fl1, fl2, fl3]
  have hBw2 : Hid (Below w.heap.size w w2) := hB9
  have hOw2 : Hid (w2.ownsRow w.heap.size 5 1 v2 (((([] : List Nat)) ++ numB 4 ((8 + m : Nat))) ++ numB 8 (k)).length (vals (((([] : List Nat)) ++ numB 4 ((8 + m : Nat))) ++ numB 8 (k)))) := hO9
  clear hO9 hB9 hBw1 hOw1
  refine sl_run rfl (v2) w2 (by kernel_rfl) ?_
  simp only [Act.put, fl1, fl2, fl3]
  refine wpList_nil ?_
  go_upto_region 7 with fail
  refine wp_region_lit ?_
  refine sl_run rfl (v2) w2 (by kernel_rfl) ?_
  simp only [Act.put, fl1, fl2, fl3]
  refine sl_run rfl (.slice A m c) w2 (by kernel_rfl) ?_
  simp only [Act.put, fl1, fl2, fl3]
  refine Sha.append22 rfl _ _ rfl (w.heap.size) v2 (((([] : List Nat)) ++ numB 4 ((8 + m : Nat))) ++ numB 8 (k)) (p) (by kernel_rfl) hOw2.out (.slice A m c) (by kernel_rfl) (rw_bytes.1 (hyw.out.below hBw2.out)) (by have := hm'.out; simp [numB_len, hSl]; omega) hBw2.out.size ?_
  intro v3 w3 hO9 hg9 _
  simp only [Act.put, fl1, fl2, fl3]
  have hBw3 : Hid (Below w.heap.size w w3) := hBw2.out.grown hg9 hBw2.out.size (fun q hq => (hOw2.out.lt q hq).1)
  have hOw3 : Hid (w3.ownsRow (w.heap.size) 5 1 v3 ((((([] : List Nat)) ++ numB 4 ((8 + m : Nat))) ++ numB 8 (k)) ++ (p)).length (vals ((((([] : List Nat)) ++ numB 4 ((8 + m : Nat))) ++ numB 8 (k)) ++ (p)))) := hO9
  clear hO9 hg9 hBw2 hOw2
  refine sl_run rfl (v3) w3 (by kernel_rfl) ?_
  simp only [Act.put, fl1, fl2, fl3]
  refine wpList_nil ?_
  go_upto_region 8 with fail
  refine wp_region_lit ?_
  refine sl_run rfl (v3) w3 (by kernel_rfl) ?_
  simp only [Act.put, fl1, fl2, fl3]
  obtain ⟨A5, c5, hA5⟩ : ∃ A c, v3 = .slice A (((((([] : List Nat)) ++ numB 4 ((8 + m : Nat))) ++ numB 8 (k)) ++ (p)).length) c := own_form hOw3.out
  have hA5H : Hid (v3 = .slice A5 (((((([] : List Nat)) ++ numB 4 ((8 + m : Nat))) ++ numB 8 (k)) ++ (p)).length) c5) := hA5
  obtain ⟨nl, hnl⟩ : ∃ nl, nl = ((((([] : List Nat)) ++ numB 4 ((8 + m : Nat))) ++ numB 8 (k)) ++ (p)).length := ⟨_, rfl⟩
  have hnl2 : nl = 12 + m := by rw [hnl]; have := hm'.out; simp [numB_len]; omega
  have hr5 : Rw 1 encB w3 (.slice A5 nl c5) ((((([] : List Nat)) ++ numB 4 ((8 + m : Nat))) ++ numB 8 (k)) ++ (p)) := by
    rw [hnl, ← hA5]
    exact rw_bytes.2 (own_bytes hOw3.out)
  have hd5 := rw_drop hnl hr5 4 (by omega)
  have hd6 : ((((([] : List Nat)) ++ numB 4 ((8 + m : Nat))) ++ numB 8 (k)) ++ (p)).drop 4 = numB 8 k ++ p := by
    simp only [List.nil_append, List.append_assoc]
    rw [List.drop_append_of_le_length (by rw [numB_len]; exact Nat.le_refl _), List.drop_of_length_le (by rw [numB_len]; exact Nat.le_refl _), List.nil_append]
  rw [hd6] at hd5
  obtain ⟨A6, hA6⟩ : ∃ A6, A6 = (if c5 = 4 then A5 else A5.map (·.add (4 * 1))) := ⟨_, rfl⟩
  rw [← hA6] at hd5
  refine sl_run rfl (.slice A6 (nl - 4) (c5 - 4)) w3 ((exec_fromS un22 sz22 _ _ rfl A5 nl c5 4 (by rw [hnl]; exact hA5) (by kernel_rfl) (by omega) w3).trans (by rw [← hA6])) ?_
  simp only [Act.put, fl1, fl2, fl3]
  have hd5H : Hid (Rw 1 encB w3 (.slice A6 (nl - 4) (c5 - 4)) (numB 8 k ++ p)) := hd5
  clear hd5 hd6 hr5 hA6 hnl hA5
  refine sg_call (by kernel_rfl) 25 #[.slice A6 (nl - 4) (c5 - 4)] (by kernel_rfl) (R := fun v w' => v = .agg (bytesC S) ∧ Below w3.heap.size w3 w') ((Sha.one_calls (numB 8 k ++ p) (getD_of (rec_lt k p hpH.out)) (by have := hm'.out; simp [numB_len]; omega) _ w3 (rw_bytes.1 hd5H.out)).mono fun e w' h => ⟨_, h.1, by rw [hSH.out], h.2⟩) ?_
  rintro _ w4 ⟨rfl, hb⟩
  simp only [Act.put, fl1, fl2, fl3]
  clear hd5H
  have hBw4 : Hid (Below w.heap.size w w4) := (hBw3.out).trans ((hb).mono (hBw3.out).size)
  have hOw4 : Hid (w4.ownsRow (w.heap.size) 5 1 v3 ((((([] : List Nat)) ++ numB 4 ((8 + m : Nat))) ++ numB 8 (k)) ++ (p)).length (vals ((((([] : List Nat)) ++ numB 4 ((8 + m : Nat))) ++ numB 8 (k)) ++ (p)))) := own_keep (hOw3.out) (fun q hq => (hb).block q ((hOw3.out).lt q hq).2)
  clear hBw3 hOw3
  clear hb
  refine sl_run rfl (.pointer (some ⟨w4.heap.size, 0, none⟩)) (w4.alloc (.cells (bytesC (Sha.zeros 32)) 56)) (by kernel_rfl) ?_
  simp only [Act.put, fl1, fl2, fl3]
  refine wpList_store_row rfl 56 _ _ rfl w4.heap.size (bytesC S) (by kernel_rfl) (by kernel_rfl) 56 (bytesC (Sha.zeros 32)) (heap_alloc_new _ _) (by rw [Sha.bytesC_size, hSl]; kernel_rfl) (by rw [Sha.bytesC_size, Sha.bytesC_size, hSl]; rfl) (Sha.bytesC_one _) ?_
  rw [World.setRow_alloc_new]
  simp only [Act.put, fl1, fl2, fl3]
  generalize hX : w4.alloc (.cells (bytesC S) 56) = w6
  have hb : Below w4.heap.size w4 w6 := by rw [← hX]; exact (Below.refl _ _).alloc (Nat.le_refl _) _
  obtain ⟨D, hD⟩ : ∃ D, D = w4.heap.size := ⟨_, rfl⟩
  have hd9 : w6.heap[D]? = some (.cells (bytesC S) 56 (0, 0)) := by rw [← hX, hD]; exact heap_alloc_new _ _
  rw [← hD]
  clear hX hD
  have hBw6 : Hid (Below w.heap.size w w6) := (hBw4.out).trans ((hb).mono (hBw4.out).size)
  have hOw6 : Hid (w6.ownsRow (w.heap.size) 5 1 v3 ((((([] : List Nat)) ++ numB 4 ((8 + m : Nat))) ++ numB 8 (k)) ++ (p)).length (vals ((((([] : List Nat)) ++ numB 4 ((8 + m : Nat))) ++ numB 8 (k)) ++ (p)))) := own_keep (hOw4.out) (fun q hq => (hb).block q ((hOw4.out).lt q hq).2)
  clear hBw4 hOw4
  have hDw6 : Hid (w6.heap[D]? = some (.cells (bytesC S) 56 (0, 0))) := hd9
  clear hb hd9
  refine wpList_nil ?_
  go_upto_region 9 with fail
  refine wp_region_lit ?_
  refine sl_run rfl (v3) w6 (by kernel_rfl) ?_
  simp only [Act.put, fl1, fl2, fl3]
  refine sl_run rfl (.slice (some ⟨D, 0, none⟩) 4 32) w6 (exec_sliceA w6 _ _ rfl D 4 (by kernel_rfl) (by kernel_rfl) (by omega)) ?_
  simp only [Act.put, fl1, fl2, fl3]
  refine Sha.append22 rfl _ _ rfl (w.heap.size) v3 ((((([] : List Nat)) ++ numB 4 ((8 + m : Nat))) ++ numB 8 (k)) ++ (p)) (S.take 4) (by kernel_rfl) hOw6.out (.slice (some ⟨D, 0, none⟩) 4 32) (by kernel_rfl) (rw_bytes.1 (arr_take hSl hDw6.out)) (by have := hm'.out; simp [numB_len, hSl]; omega) hBw6.out.size ?_
  intro v7 w7 hO9 hg9 _
  simp only [Act.put, fl1, fl2, fl3]
  have hBw7 : Hid (Below w.heap.size w w7) := hBw6.out.grown hg9 hBw6.out.size (fun q hq => (hOw6.out.lt q hq).1)
  have hDw7 : Hid (w7.heap[D]? = some (.cells (bytesC S) 56 (0, 0))) := (hg9.block _ (Array.getElem?_eq_some_iff.1 hDw6.out).1 (own_kind hOw6.out hDw6.out (by decide))).trans hDw6.out
  have hOw7 : Hid (w7.ownsRow (w.heap.size) 5 1 v7 (((((([] : List Nat)) ++ numB 4 ((8 + m : Nat))) ++ numB 8 (k)) ++ (p)) ++ (S.take 4)).length (vals (((((([] : List Nat)) ++ numB 4 ((8 + m : Nat))) ++ numB 8 (k)) ++ (p)) ++ (S.take 4)))) := hO9
  clear hO9 hg9 hBw6 hOw6 hDw6
  refine sl_run rfl (.slice (some ⟨w7.heap.size, 0, none⟩) 1 1) (w7.alloc (.cells #[.int .u8 197] 5)) (by kernel_rfl) ?_
  simp only [Act.put, fl1, fl2, fl3]
  generalize hX : w7.alloc (.cells #[.int .u8 197] 5) = w8
  have hb : Below w7.heap.size w7 w8 := by rw [← hX]; exact (Below.refl _ _).alloc (Nat.le_refl _) _
  obtain ⟨E, hE⟩ : ∃ E, E = w7.heap.size := ⟨_, rfl⟩
  have he9 : Rw 1 encB w8 (.slice (some ⟨E, 0, none⟩) 1 1) [197] := by rw [← hX, hE]; exact rw_one 197 (heap_alloc_new _ _)
  rw [← hE]
  clear hX hE
  have hBw8 : Hid (Below w.heap.size w w8) := (hBw7.out).trans ((hb).mono (hBw7.out).size)
  have hOw8 : Hid (w8.ownsRow (w.heap.size) 5 1 v7 (((((([] : List Nat)) ++ numB 4 ((8 + m : Nat))) ++ numB 8 (k)) ++ (p)) ++ (S.take 4)).length (vals (((((([] : List Nat)) ++ numB 4 ((8 + m : Nat))) ++ numB 8 (k)) ++ (p)) ++ (S.take 4)))) := own_keep (hOw7.out) (fun q hq => (hb).block q ((hOw7.out).lt q hq).2)
  have hDw8 : Hid (w8.heap[D]? = some (.cells (bytesC S) 56 (0, 0))) := heap_kept (hDw7.out) hb
  clear hBw7 hOw7 hDw7
  have hEw8 : Hid (Rw 1 encB w8 (.slice (some ⟨E, 0, none⟩) 1 1) [197]) := he9
  clear hb he9
  refine Sha.append22 rfl _ _ rfl (w.heap.size) v7 (((((([] : List Nat)) ++ numB 4 ((8 + m : Nat))) ++ numB 8 (k)) ++ (p)) ++ (S.take 4)) ([197]) (by kernel_rfl) hOw8.out (.slice (some ⟨E, 0, none⟩) 1 1) (by kernel_rfl) (rw_bytes.1 (hEw8.out)) (by have := hm'.out; simp [numB_len, hSl]; omega) hBw8.out.size ?_
  intro v9 w9 hO9 hg9 _
  simp only [Act.put, fl1, fl2, fl3]
  have hBw9 : Hid (Below w.heap.size w w9) := hBw8.out.grown hg9 hBw8.out.size (fun q hq => (hOw8.out.lt q hq).1)
  have hDw9 : Hid (w9.heap[D]? = some (.cells (bytesC S) 56 (0, 0))) := (hg9.block _ (Array.getElem?_eq_some_iff.1 hDw8.out).1 (own_kind hOw8.out hDw8.out (by decide))).trans hDw8.out
  have hOw9 : Hid (w9.ownsRow (w.heap.size) 5 1 v9 ((((((([] : List Nat)) ++ numB 4 ((8 + m : Nat))) ++ numB 8 (k)) ++ (p)) ++ (S.take 4)) ++ ([197])).length (vals ((((((([] : List Nat)) ++ numB 4 ((8 + m : Nat))) ++ numB 8 (k)) ++ (p)) ++ (S.take 4)) ++ ([197])))) := hO9
  clear hO9 hg9 hBw8 hOw8 hDw8 hEw8
  refine sg_call (by kernel_rfl) 26 #[v9] (by kernel_rfl) (R := fun u w' => Rw 1 encB w' u ((((((([] : List Nat)) ++ numB 4 ((8 + m : Nat))) ++ numB 8 (k)) ++ (p)) ++ (S.take 4)) ++ ([197])) ∧ Below w9.heap.size w9 w') ((clip_calls ((((((([] : List Nat)) ++ numB 4 ((8 + m : Nat))) ++ numB 8 (k)) ++ (p)) ++ (S.take 4)) ++ ([197])) v9 w9 (by have := hm'.out; simp [numB_len, hSl]; omega) (rw_bytes.2 (own_bytes hOw9.out))).mono fun e w' h => by
    obtain ⟨u, h1, h2, h3⟩ := h
    exact ⟨u, h1, h2, h3⟩) ?_
  rintro u9 w10 ⟨hr9, hb⟩
  simp only [Act.put, fl1, fl2, fl3]
  have hRH : Hid (Rw 1 encB w10 u9 ((((((([] : List Nat)) ++ numB 4 ((8 + m : Nat))) ++ numB 8 (k)) ++ (p)) ++ (S.take 4)) ++ ([197]))) := hr9
  clear hr9
  have hBw10 : Hid (Below w.heap.size w w10) := (hBw9.out).trans ((hb).mono (hBw9.out).size)
  have hOw10 : Hid (w10.ownsRow (w.heap.size) 5 1 v9 ((((((([] : List Nat)) ++ numB 4 ((8 + m : Nat))) ++ numB 8 (k)) ++ (p)) ++ (S.take 4)) ++ ([197])).length (vals ((((((([] : List Nat)) ++ numB 4 ((8 + m : Nat))) ++ numB 8 (k)) ++ (p)) ++ (S.take 4)) ++ ([197])))) := own_keep (hOw9.out) (fun q hq => (hb).block q ((hOw9.out).lt q hq).2)
  have hDw10 : Hid (w10.heap[D]? = some (.cells (bytesC S) 56 (0, 0))) := heap_kept (hDw9.out) hb
  clear hBw9 hOw9 hDw9
  clear hb
  refine sl_run rfl (u9) w10 (by kernel_rfl) ?_
  simp only [Act.put, fl1, fl2, fl3]
  refine sl_run rfl (.int .i64 0) w10 (by kernel_rfl) ?_
  simp only [Act.put, fl1, fl2, fl3]
  refine wpList_nil ?_
  have hF := hBw10
  clear hDw10 hOw10 hBw10 hyw hpH hSH
  go_wp2_with fail
  go_ret2
  refine ⟨u9, rfl, ?_, hF.out⟩
  show Rw 1 encB _ u9 (recB k p)
  rw [hrec.out]
  exact hRH.out
end Go.Proofs.Ytdkaaieenbmihaa
namespace Go.Proofs.Ytdkaaieenbmihaa
open Go.RowKit
open Sha (vals Bytes Lies bytesC sumB)
theorem exec_index56 {o : Oper} {a : Act} (x ix : Operand) (ho : o.op = .indexAddr 56 x ix) (D i : Nat) (hx : a.eval x = .pointer (some ⟨D, 0, none⟩)) (hi : a.eval ix = .int .i64 (i : Int)) (hl : i < 32) (w : World) :
    (execOp a.eval o).run Try.prog w = .ok (.value (.pointer (some ⟨D, i, none⟩))) w := by
  have hu : Try.prog.underlying 56 = some (.array (Try.prog.arrayLen 56) (Try.prog.elem 56)) := by kernel_rfl
  have hsz : ∀ w, (sizeOf (Try.prog.elem 56)).run Try.prog w = .ok 1 w := fun w => by kernel_rfl
  have al : Try.prog.arrayLen 56 = 32 := by kernel_rfl
  unfold execOp
  simp only [ho, hx, hi, Sem.run_bind, run_indexAt_array w 56 ⟨D, 0, none⟩ .i64 (i : Int) hu, hsz, al, Result.andThen_ok, Sem.run_pure]
  rw [if_pos (by omega)]
  simp [Addr.add_mid]
set_option maxRecDepth 100000 in
set_option maxHeartbeats 4000000 in
theorem rRecord_calls (n : Int) (hn1 : n ≤ 9223372036854775807) (p : List Nat) (hp : ∀ x ∈ p, x < 256) (A : Option Addr) (m c : Nat) (hm : m = p.length) (hm9 : m ≤ 1000000000) (w : World) (hy : Rw 1 encB w (.slice A m c) p) :
    Calls Try.prog 11 #[.int .i64 n, .slice A m c] w fun e w' => ∃ v, e = .returned (.tuple #[v, .int .i64 ((recS n p).2 : Int)]) ∧ Rw 1 encB w' v (recS n p).1 ∧ Below w.heap.size w w' := by
  by_cases h1 : n < 1
  · have hs : recS n p = ([], 1) := by unfold recS; rw [if_pos h1]
    rw [hs]
    clear hs hy hm hp
    go_enter Try.func11, Try.ntmps11
    go_wp2_with fail
    go_ret2
    exact ⟨_, rfl, Rw.nil, Below.refl _ _⟩
  by_cases h2 : (8192 : Int) < (m : Int)
  · have hs : recS n p = ([], 2) := by unfold recS; rw [if_neg h1, if_pos (by omega)]
    rw [hs]
    clear hs hy hm hp
    go_enter Try.func11, Try.ntmps11
    go_wp2_with fail
    go_ret2
    exact ⟨_, rfl, Rw.nil, Below.refl _ _⟩
  obtain ⟨k, rfl⟩ : ∃ k : Nat, n = (k : Int) := ⟨n.toNat, by omega⟩
  have hs : recS (k : Int) p = (recB k p, 0) := by unfold recS; rw [if_neg h1, if_neg (by omega), Int.toNat_natCast]
  rw [hs]
  clear hs
  obtain ⟨S, hS⟩ : ∃ S, S = sumB (numB 8 k ++ p) := ⟨_, rfl⟩
  have hSl : S.length = 32 := by rw [hS]; exact Sha.sumB_length _
  obtain ⟨s0, s1, s2, s3, hS4⟩ : ∃ s0 s1 s2 s3, S.take 4 = [s0, s1, s2, s3] := by
    match S, hSl with
    | a :: b :: c :: d :: t, _ => exact ⟨a, b, c, d, rfl⟩
  have hrec : Hid (recB k p = (numB 4 (8 + m) ++ (numB 8 k ++ p)) ++ [s0, s1, s2, s3, 197]) := by
    show _ = _
    have e : recB k p = (numB 4 (8 + m) ++ (numB 8 k ++ p)) ++ (S.take 4 ++ [197]) := by
      rw [hS, hm]
      unfold recB
      simp only [List.append_assoc]
    rw [e, hS4]; rfl
  have hs0 : S.getD 0 0 = s0 ∧ S.getD 1 0 = s1 ∧ S.getD 2 0 = s2 ∧ S.getD 3 0 = s3 := by
    match S, hSl with
    | a :: b :: c :: d :: t, _ => 
      simp only [List.take_succ_cons, List.take_zero, List.cons.injEq] at hS4
      exact ⟨hS4.1, hS4.2.1, hS4.2.2.1, hS4.2.2.2.1⟩
  have hs0H : Hid (S.getD 0 0 = s0 ∧ S.getD 1 0 = s1 ∧ S.getD 2 0 = s2 ∧ S.getD 3 0 = s3) := hs0
  have hSH : Hid (S = sumB (numB 8 k ++ p)) := hS
  have hm' : Hid (m = p.length) := hm
  have hyw : Hid (Rw 1 encB w (.slice A m c) p) := hy
  have hpH : Hid (∀ x ∈ p, x < 256) := hp
  have hBw : Hid (Below w.heap.size w w) := Below.refl _ _
  clear hy hm hS hp hS4 hs0
  have hnk : (k : Int) ≤ 9223372036854775807 := hn1
  go_enter Try.func11, Try.ntmps11
  go_upto_region 5 with fail
  refine wp_region_lit ?_
  refine sl_run rfl (.int .i64 (k : Int)) w (by kernel_rfl) ?_
  simp only [Act.put, fl1, fl2, fl3]
  refine sl_run rfl (.int .u64 (k : Int)) w (exec_convI _ _ _ rfl _ _ _ (by kernel_rfl) (conv_u64 (k : Int) (by omega) (by omega) _)) ?_
  simp only [Act.put, fl1, fl2, fl3]
  refine sg_call (by kernel_rfl) 27 #[.int .u64 (k : Int), .int .i64 8] (by kernel_rfl) (R := fun u w' => w'.ownsRow w.heap.size 5 1 u (numB 8 (k)).length (vals (numB 8 (k))) ∧ Below w.heap.size w w') ((rNumber_calls 8 (k) (by decide) w).mono fun e w' h => by
    obtain ⟨u, h1, h2, h3⟩ := h
    exact ⟨u, h1, h2, h3⟩) ?_
  rintro v1 w1 ⟨hO9, hb⟩
  simp only [Act.put, fl1, fl2, fl3]
  have hO8 := own_mono hO9 hBw.out.size
  have hBw1 : Hid (Below w.heap.size w w1) := (hBw.out).trans ((hb).mono (hBw.out).size)
  clear hBw
  have hOw1 : Hid (w1.ownsRow (w.heap.size) 5 1 v1 (numB 8 (k)).length (vals (numB 8 (k)))) := hO8
  clear hO8 hO9 hb
  refine sl_run rfl (.slice A m c) w1 (by kernel_rfl) ?_
  simp only [Act.put, fl1, fl2, fl3]
  refine Sha.append22 rfl _ _ rfl (w.heap.size) v1 (numB 8 (k)) (p) (by kernel_rfl) hOw1.out (.slice A m c) (by kernel_rfl) (rw_bytes.1 (hyw.out.below hBw1.out)) (by have := hm'.out; simp [numB_len, hSl]; omega) hBw1.out.size ?_
  intro v2 w2 hO9 hg9 _
  simp only [Act.put, fl1, fl2, fl3]
  have hBw2 : Hid (Below w.heap.size w w2) := hBw1.out.grown hg9 hBw1.out.size (fun q hq => (hOw1.out.lt q hq).1)
  have hOw2 : Hid (w2.ownsRow (w.heap.size) 5 1 v2 ((numB 8 (k)) ++ (p)).length (vals ((numB 8 (k)) ++ (p)))) := hO9
  clear hO9 hg9 hBw1 hOw1
  refine sl_run rfl (v2) w2 (by kernel_rfl) ?_
  simp only [Act.put, fl1, fl2, fl3]
  refine wpList_nil ?_
  go_upto_region 6 with fail
  refine wp_region_lit ?_
  refine sl_run rfl (v2) w2 (by kernel_rfl) ?_
  simp only [Act.put, fl1, fl2, fl3]
  obtain ⟨A5, c5, hA5⟩ : ∃ A c, v2 = .slice A (((numB 8 (k)) ++ (p)).length) c := own_form hOw2.out
  refine sg_call (by kernel_rfl) 28 #[v2] (by kernel_rfl) (R := fun v w' => v = .agg (bytesC S) ∧ Below w2.heap.size w2 w') ?hc ?_
  case hc =>
    have h8 := rw_bytes.1 (rw_bytes.2 (own_bytes hOw2.out))
    rw [hA5] at h8 ⊢
    exact (Sha.rsum_calls ((numB 8 (k)) ++ (p)) (getD_of (rec_lt k p hpH.out)) (by have := hm'.out; simp [numB_len]; omega) A5 c5 w2 h8).mono fun e w' h => ⟨_, h.1, by rw [hSH.out], h.2⟩
  clear hA5
  rintro _ w3 ⟨rfl, hb⟩
  simp only [Act.put, fl1, fl2, fl3]
  have hBw3 : Hid (Below w.heap.size w w3) := (hBw2.out).trans ((hb).mono (hBw2.out).size)
  have hOw3 : Hid (w3.ownsRow (w.heap.size) 5 1 v2 ((numB 8 (k)) ++ (p)).length (vals ((numB 8 (k)) ++ (p)))) := own_keep (hOw2.out) (fun q hq => (hb).block q ((hOw2.out).lt q hq).2)
  clear hBw2 hOw2
  clear hb
  refine sl_run rfl (.pointer (some ⟨w3.heap.size, 0, none⟩)) (w3.alloc (.cells (bytesC (Sha.zeros 32)) 56)) (by kernel_rfl) ?_
  simp only [Act.put, fl1, fl2, fl3]
  refine wpList_store_row rfl 56 _ _ rfl w3.heap.size (bytesC S) (by kernel_rfl) (by kernel_rfl) 56 (bytesC (Sha.zeros 32)) (heap_alloc_new _ _) (by rw [Sha.bytesC_size, hSl]; kernel_rfl) (by rw [Sha.bytesC_size, Sha.bytesC_size, hSl]; rfl) (Sha.bytesC_one _) ?_
  rw [World.setRow_alloc_new]
  simp only [Act.put, fl1, fl2, fl3]
  generalize hX : w3.alloc (.cells (bytesC S) 56) = w5
  have hb : Below w3.heap.size w3 w5 := by rw [← hX]; exact (Below.refl _ _).alloc (Nat.le_refl _) _
  obtain ⟨D, hD⟩ : ∃ D, D = w3.heap.size := ⟨_, rfl⟩
  have hd9 : w5.heap[D]? = some (.cells (bytesC S) 56 (0, 0)) := by rw [← hX, hD]; exact heap_alloc_new _ _
  rw [← hD]
  clear hX hD
  have hBw5 : Hid (Below w.heap.size w w5) := (hBw3.out).trans ((hb).mono (hBw3.out).size)
  have hOw5 : Hid (w5.ownsRow (w.heap.size) 5 1 v2 ((numB 8 (k)) ++ (p)).length (vals ((numB 8 (k)) ++ (p)))) := own_keep (hOw3.out) (fun q hq => (hb).block q ((hOw3.out).lt q hq).2)
  clear hBw3 hOw3
  have hDw5 : Hid (w5.heap[D]? = some (.cells (bytesC S) 56 (0, 0))) := hd9
  clear hb hd9
  refine wpList_nil ?_
  go_upto_region 7 with fail
  refine wp_region_lit ?_
  refine sl_run rfl (v2) w5 (by kernel_rfl) ?_
  simp only [Act.put, fl1, fl2, fl3]
  obtain ⟨A7, c7, hA7⟩ : ∃ A c, v2 = .slice A (8 + m) c := own_formq hOw5.out (by have := hm'.out; simp [numB_len]; omega)
  subst hA7
  refine sl_run rfl (.int .i64 ((8 + m : Nat) : Int)) w5 (by kernel_rfl) ?_
  simp only [Act.put, fl1, fl2, fl3]
  refine sl_run rfl (.int .u64 ((8 + m : Nat) : Int)) w5 (exec_convI _ _ _ rfl _ _ _ (by kernel_rfl) (conv_u64 ((8 + m : Nat) : Int) (by omega) (by omega) _)) ?_
  simp only [Act.put, fl1, fl2, fl3]
  refine sg_call (by kernel_rfl) 27 #[.int .u64 ((8 + m : Nat) : Int), .int .i64 4] (by kernel_rfl) (R := fun u w' => w'.ownsRow w5.heap.size 5 1 u (numB 4 ((8 + m : Nat))).length (vals (numB 4 ((8 + m : Nat)))) ∧ Below w5.heap.size w5 w') ((rNumber_calls 4 ((8 + m : Nat)) (by decide) w5).mono fun e w' h => by
    obtain ⟨u, h1, h2, h3⟩ := h
    exact ⟨u, h1, h2, h3⟩) ?_
  rintro v6 w6 ⟨hO9, hb⟩
  simp only [Act.put, fl1, fl2, fl3]
  have hO8 := own_mono hO9 hBw5.out.size
  have hBw6 : Hid (Below w.heap.size w w6) := (hBw5.out).trans ((hb).mono (hBw5.out).size)
  have hOw6 : Hid (w6.ownsRow (w.heap.size) 5 1 (.slice A7 (8 + m) c7) ((numB 8 (k)) ++ (p)).length (vals ((numB 8 (k)) ++ (p)))) := own_keep (hOw5.out) (fun q hq => (hb).block q ((hOw5.out).lt q hq).2)
  have hDw6 : Hid (w6.heap[D]? = some (.cells (bytesC S) 56 (0, 0))) := heap_kept (hDw5.out) hb
  clear hBw5 hOw5 hDw5
  have hQw6 : Hid (w6.ownsRow (w.heap.size) 5 1 v6 (numB 4 ((8 + m : Nat))).length (vals (numB 4 ((8 + m : Nat))))) := hO8
  clear hO8 hO9 hb
  refine sl_run rfl (.slice A7 (8 + m) c7) w6 (by kernel_rfl) ?_
  simp only [Act.put, fl1, fl2, fl3]
  refine Sha.append22 rfl _ _ rfl (w.heap.size) v6 (numB 4 ((8 + m : Nat))) ((numB 8 (k)) ++ (p)) (by kernel_rfl) hQw6.out (.slice A7 (8 + m) c7) (by kernel_rfl) (rw_bytes.1 (rw_bytes.2 (own_bytes hOw6.out))) (by have := hm'.out; simp [numB_len, hSl]; omega) hBw6.out.size ?_
  intro v7 w7 hO9 hg9 _
  simp only [Act.put, fl1, fl2, fl3]
  have hBw7 : Hid (Below w.heap.size w w7) := hBw6.out.grown hg9 hBw6.out.size (fun q hq => (hQw6.out.lt q hq).1)
  have hDw7 : Hid (w7.heap[D]? = some (.cells (bytesC S) 56 (0, 0))) := (hg9.block _ (Array.getElem?_eq_some_iff.1 hDw6.out).1 (own_kind hQw6.out hDw6.out (by decide))).trans hDw6.out
  have hQw7 : Hid (w7.ownsRow (w.heap.size) 5 1 v7 ((numB 4 ((8 + m : Nat))) ++ ((numB 8 (k)) ++ (p))).length (vals ((numB 4 ((8 + m : Nat))) ++ ((numB 8 (k)) ++ (p))))) := hO9
  clear hO9 hg9 hBw6 hOw6 hDw6 hQw6
  refine sl_run rfl (v7) w7 (by kernel_rfl) ?_
  simp only [Act.put, fl1, fl2, fl3]
  refine wpList_nil ?_
  go_upto_region 8 with fail
  refine wp_region_lit ?_
  refine sl_run rfl (v7) w7 (by kernel_rfl) ?_
  simp only [Act.put, fl1, fl2, fl3]
  refine sl_run rfl (.pointer (some ⟨D, 0, none⟩)) w7 (exec_index56 _ _ rfl D 0 (by kernel_rfl) (by kernel_rfl) (by decide) w7) ?_
  simp only [Act.put, fl1, fl2, fl3]
  refine sl_run rfl (.int .u8 (s0 : Int)) w7 (exec_load_cell 5 w7 _ rfl ⟨D, 0, none⟩ (by kernel_rfl) _ (by rw [cell_of_row _ _ _ _ _ _ hDw7.out, Sha.bytesC_get _ _ (by rw [hSl]; decide), hs0H.out.1]) (fun _ => by kernel_rfl)) ?_
  simp only [Act.put, fl1, fl2, fl3]
  refine sl_run rfl (.pointer (some ⟨D, 1, none⟩)) w7 (exec_index56 _ _ rfl D 1 (by kernel_rfl) (by kernel_rfl) (by decide) w7) ?_
  simp only [Act.put, fl1, fl2, fl3]
  refine sl_run rfl (.int .u8 (s1 : Int)) w7 (exec_load_cell 5 w7 _ rfl ⟨D, 1, none⟩ (by kernel_rfl) _ (by rw [cell_of_row _ _ _ _ _ _ hDw7.out, Sha.bytesC_get _ _ (by rw [hSl]; decide), hs0H.out.2.1]) (fun _ => by kernel_rfl)) ?_
  simp only [Act.put, fl1, fl2, fl3]
  refine sl_run rfl (.pointer (some ⟨D, 2, none⟩)) w7 (exec_index56 _ _ rfl D 2 (by kernel_rfl) (by kernel_rfl) (by decide) w7) ?_
  simp only [Act.put, fl1, fl2, fl3]
  refine sl_run rfl (.int .u8 (s2 : Int)) w7 (exec_load_cell 5 w7 _ rfl ⟨D, 2, none⟩ (by kernel_rfl) _ (by rw [cell_of_row _ _ _ _ _ _ hDw7.out, Sha.bytesC_get _ _ (by rw [hSl]; decide), hs0H.out.2.2.1]) (fun _ => by kernel_rfl)) ?_
  simp only [Act.put, fl1, fl2, fl3]
  refine sl_run rfl (.pointer (some ⟨D, 3, none⟩)) w7 (exec_index56 _ _ rfl D 3 (by kernel_rfl) (by kernel_rfl) (by decide) w7) ?_
  simp only [Act.put, fl1, fl2, fl3]
  refine sl_run rfl (.int .u8 (s3 : Int)) w7 (exec_load_cell 5 w7 _ rfl ⟨D, 3, none⟩ (by kernel_rfl) _ (by rw [cell_of_row _ _ _ _ _ _ hDw7.out, Sha.bytesC_get _ _ (by rw [hSl]; decide), hs0H.out.2.2.2]) (fun _ => by kernel_rfl)) ?_
  simp only [Act.put, fl1, fl2, fl3]
  refine sl_run rfl (.slice (some ⟨w7.heap.size, 0, none⟩) 5 5) (w7.alloc (.cells #[.int .u8 (s0 : Int), .int .u8 (s1 : Int), .int .u8 (s2 : Int), .int .u8 (s3 : Int), .int .u8 197] 5)) (by kernel_rfl) ?_
  simp only [Act.put, fl1, fl2, fl3]
  generalize hX : w7.alloc (.cells #[.int .u8 (s0 : Int), .int .u8 (s1 : Int), .int .u8 (s2 : Int), .int .u8 (s3 : Int), .int .u8 197] 5) = w8
  have hb : Below w7.heap.size w7 w8 := by rw [← hX]; exact (Below.refl _ _).alloc (Nat.le_refl _) _
  obtain ⟨E, hE⟩ : ∃ E, E = w7.heap.size := ⟨_, rfl⟩
  have he9 : Rw 1 encB w8 (.slice (some ⟨E, 0, none⟩) 5 5) [s0, s1, s2, s3, 197] := by rw [← hX, hE]; exact rw_new (enc := encB) encB_size [s0, s1, s2, s3, 197] (heap_alloc_new _ _)
  rw [← hE]
  clear hX hE
  have hBw8 : Hid (Below w.heap.size w w8) := (hBw7.out).trans ((hb).mono (hBw7.out).size)
  have hDw8 : Hid (w8.heap[D]? = some (.cells (bytesC S) 56 (0, 0))) := heap_kept (hDw7.out) hb
  have hQw8 : Hid (w8.ownsRow (w.heap.size) 5 1 v7 ((numB 4 ((8 + m : Nat))) ++ ((numB 8 (k)) ++ (p))).length (vals ((numB 4 ((8 + m : Nat))) ++ ((numB 8 (k)) ++ (p))))) := own_keep (hQw7.out) (fun q hq => (hb).block q ((hQw7.out).lt q hq).2)
  clear hBw7 hDw7 hQw7
  have hEw8 : Hid (Rw 1 encB w8 (.slice (some ⟨E, 0, none⟩) 5 5) [s0, s1, s2, s3, 197]) := he9
  clear hb he9
  refine Sha.append22 rfl _ _ rfl (w.heap.size) v7 ((numB 4 ((8 + m : Nat))) ++ ((numB 8 (k)) ++ (p))) ([s0, s1, s2, s3, 197]) (by kernel_rfl) hQw8.out (.slice (some ⟨E, 0, none⟩) 5 5) (by kernel_rfl) (rw_bytes.1 (hEw8.out)) (by have := hm'.out; simp [numB_len, hSl]; omega) hBw8.out.size ?_
  intro v9 w9 hO9 hg9 _
  simp only [Act.put, fl1, fl2, fl3]
  have hBw9 : Hid (Below w.heap.size w w9) := hBw8.out.grown hg9 hBw8.out.size (fun q hq => (hQw8.out.lt q hq).1)
  have hQw9 : Hid (w9.ownsRow (w.heap.size) 5 1 v9 (((numB 4 ((8 + m : Nat))) ++ ((numB 8 (k)) ++ (p))) ++ ([s0, s1, s2, s3, 197])).length (vals (((numB 4 ((8 + m : Nat))) ++ ((numB 8 (k)) ++ (p))) ++ ([s0, s1, s2, s3, 197])))) := hO9
  clear hO9 hg9 hBw8 hDw8 hQw8 hEw8
  refine sl_run rfl (v9) w9 (by kernel_rfl) ?_
  simp only [Act.put, fl1, fl2, fl3]
  refine sl_run rfl (.int .i64 0) w9 (by kernel_rfl) ?_
  simp only [Act.put, fl1, fl2, fl3]
  refine wpList_nil ?_
  have hF := hBw9
  have hRH : Hid (Rw 1 encB w9 v9 (((numB 4 ((8 + m : Nat))) ++ ((numB 8 (k)) ++ (p))) ++ ([s0, s1, s2, s3, 197]))) := rw_bytes.2 (own_bytes hQw9.out)
  clear hQw9 hBw9 hyw hpH hSH hs0H
  go_wp2_with fail
  go_ret2
  refine ⟨v9, rfl, ?_, hF.out⟩
  show Rw 1 encB _ v9 (recB k p)
  rw [hrec.out]
  exact hRH.out
end Go.Proofs.Ytdkaaieenbmihaa
namespace Go.Proofs.Ytdkaaieenbmihaa
open Go.RowKit
open Sha (vals Bytes Lies bytesC sumB)
/-- A slice's parts. -/
structure SLV where
  a : Option Addr
  n : Nat
  c : Nat
deriving Inhabited
def SLV.v (s : SLV) : Value := .slice s.a s.n s.c
def encV (s : SLV) : Array Value := #[s.v]
theorem encV_size (s : SLV) : (encV s).size = 1 := rfl
theorem encV_one (s : SLV) : ∀ u ∈ (encV s).toList, u.oneCell' = true := by simp [encV, SLV.v, Value.oneCell']
/-- A list of payloads that can be read. -/
def PLr (w : World) (v : Value) (ps : List (List Nat)) : Prop := ∃ us : List SLV, Rw 1 encV w v us ∧ us.length = ps.length ∧ ∀ i, i < ps.length → Rw 1 encB w (us.getD i default).v (ps.getD i default)
theorem PLr.below {w w' : World} {v : Value} {ps : List (List Nat)} (h : PLr w v ps) (hb : Below w.heap.size w w') : PLr w' v ps := by
  obtain ⟨us, h1, h2, h3⟩ := h
  exact ⟨us, h1.below hb, h2, fun i hi => (h3 i hi).below hb⟩
theorem PLr.form {w : World} {v : Value} {ps : List (List Nat)} (h : PLr w v ps) : ∃ A c, v = .slice A ps.length c := by
  obtain ⟨us, h1, h2, h3⟩ := h
  rw [← h2]; exact h1.form
theorem PLr.elem {w : World} {A : Option Addr} {n c : Nat} {ps : List (List Nat)} (h : PLr w (.slice A n c) ps) (i : Nat) (hi : i < ps.length) :
    ∃ g o u, A = some ⟨g, o, none⟩ ∧ n ≤ c ∧ Hid (∀ w', Below w.heap.size w w' → w'.cell? ⟨g, o + i * 1, none⟩ = some u ∧ Rw 1 encB w' u (ps.getD i default)) := by
  obtain ⟨us, h1, h2, h3⟩ := h
  obtain ⟨g, o, rfl, hnc, hg, hel⟩ := h1.elem i (by omega)
  refine ⟨g, o, (us.getD i default).v, rfl, hnc, fun w' hb => ⟨?_, (h3 i hi).below hb⟩⟩
  have := range_below hel hb hg 0 (us.getD i default).v rfl
  simpa using this
theorem PLr.nil (w : World) : PLr w (.slice none 0 0) [] := ⟨[], Rw.nil, rfl, fun i h => by simp at h⟩
theorem un30s : Try.prog.underlying 30 = some (.slice (Try.prog.elem 30)) := by kernel_rfl
theorem sz30s (w : World) : (sizeOf (Try.prog.elem 30)).run Try.prog w = .ok 1 w := by kernel_rfl
theorem strB_inj {a b : List Nat} (ha : ∀ x ∈ a, x < 256) (hb : ∀ x ∈ b, x < 256) (h : (strB a).toList = (strB b).toList) : a = b := by
  have h1 : a.map UInt8.ofNat = b.map UInt8.ofNat := by rw [← strB_list, ← strB_list, ← ByteArray.toList_eq, ← ByteArray.toList_eq, h]
  have h2 : ∀ l : List Nat, (∀ x ∈ l, x < 256) → (l.map UInt8.ofNat).map UInt8.toNat = l := fun l hl => by
    rw [List.map_map]
    refine (List.map_congr_left (g := id) fun x hx => ?_).trans (List.map_id _)
    have := hl x hx
    simp [Function.comp, Nat.mod_eq_of_lt this]
  rw [← h2 a ha, h1, h2 b hb]
theorem strB_eq {a b : List Nat} (ha : ∀ x ∈ a, x < 256) (hb : ∀ x ∈ b, x < 256) : ((strB a).toList == (strB b).toList) = decide (a = b) := by
  rw [Bool.eq_iff_iff, beq_iff_eq, decide_eq_true_iff]
  exact ⟨strB_inj ha hb, fun h => by rw [h]⟩
theorem exec_neS {o : Oper} {a : Act} {w : World} (t : TypeId) (x y : Operand) (ho : o.op = .binOp .neq t x y t) (u v : ByteArray) (hx : a.eval x = .string u) (hy : a.eval y = .string v) (b : Bool) (hb : (!(u.toList == v.toList)) = b) : (execOp a.eval o).run Try.prog w = .ok (.value (.bool b)) w := by
  subst hb; unfold execOp
  simp [ho, hx, hy, eqGuard, binOp_string_neq, bne]
theorem exec_eqS {o : Oper} {a : Act} {w : World} (t : TypeId) (x y : Operand) (ho : o.op = .binOp .eql t x y t) (u v : ByteArray) (hx : a.eval x = .string u) (hy : a.eval y = .string v) (b : Bool) (hb : (u.toList == v.toList) = b) : (execOp a.eval o).run Try.prog w = .ok (.value (.bool b)) w := by
  subst hb; unfold execOp
  simp [ho, hx, hy, eqGuard, binOp_string_eql]
/-- Bytes are bytes. -/
def Byt (ps : List (List Nat)) : Prop := ∀ p ∈ ps, ∀ x ∈ p, x < 256
theorem Byt.get {ps : List (List Nat)} (h : Byt ps) (i : Nat) (hi : i < ps.length) : ∀ x ∈ ps.getD i default, x < 256 := by
  have : ps.getD i default = ps[i] := by simp [List.getD_eq_getElem?_getD, hi]
  rw [this]
  exact h _ (List.getElem_mem hi)
theorem lists_ext {a b : List (List Nat)} (hl : a.length = b.length) (h : ∀ j, j < a.length → a.getD j default = b.getD j default) : a = b := by
  refine List.ext_getElem hl fun i h1 h2 => ?_
  have := h i h1
  simpa [List.getD_eq_getElem?_getD, h1, h2] using this
set_option maxRecDepth 100000 in
set_option maxHeartbeats 8000000 in
theorem Same_calls (a b : List (List Nat)) (ha : Byt a) (hb : Byt b) (u v : Value) (ha9 : a.length ≤ 1000000000) (hb9 : b.length ≤ 1000000000) (w : World) (hya : PLr w u a) (hyb : PLr w v b) :
    Calls Try.prog 14 #[u, v] w fun e w' => e = .returned (.bool (decide (a = b))) ∧ Below w.heap.size w w' := by
  obtain ⟨A, ca, rfl⟩ := hya.form
  obtain ⟨B, cb, rfl⟩ := hyb.form
  obtain ⟨na, hna⟩ : ∃ n, n = a.length := ⟨_, rfl⟩
  obtain ⟨nb, hnb⟩ : ∃ n, n = b.length := ⟨_, rfl⟩
  rw [← hna] at hya ha9 ⊢
  rw [← hnb] at hyb hb9 ⊢
  have hna' : Hid (na = a.length) := hna
  have hnb' : Hid (nb = b.length) := hnb
  have hyaw : Hid (PLr w (.slice A na ca) a) := hya
  have hybw : Hid (PLr w (.slice B nb cb) b) := hyb
  have haH : Hid (Byt a) := ha
  have hbH : Hid (Byt b) := hb
  have hBw : Hid (Below w.heap.size w w) := Below.refl _ _
  obtain ⟨R, hR⟩ : ∃ R, R = decide (a = b) := ⟨_, rfl⟩
  rw [← hR]
  have hRH : Hid (R = decide (a = b)) := hR
  clear hna hnb hya hyb hR ha hb
  by_cases hl : na = nb
  case neg =>
    have hn : R = false := by rw [hRH.out]; exact decide_eq_false (fun e => hl (by rw [hna'.out, hnb'.out, e]))
    subst hn
    have hI : ((na : Int) != (nb : Int)) = true := by rw [bne_iff_ne]; omega
    have hI2 : ¬ (na : Int) = (nb : Int) := by omega
    clear hRH hna' hnb'
    go_enter Try.func14, Try.ntmps14
    go_wp2_with fail
    go_ret
    exact ⟨rfl, hBw.out⟩
  case pos =>
  have hnbH : Hid (na = b.length) := by show _ = _; rw [hl]; exact hnb'.out
  subst hl
  clear hnb'
  go_enter Try.func14, Try.ntmps14
  go_wp2_with fail
  go_loopw [5] (fun p wr => ∃ j : Nat, j ≤ na ∧ p = .int .i64 (j : Int) ∧ Hid (∀ i, i < j → a.getD i default = b.getD i default) ∧ Hid (Below w.heap.size w wr)) (fun p _ => na - (intOf p).toNat)
  case atStart => exact ⟨0, by omega, rfl, fun i h => by omega, hBw⟩
  case round =>
    obtain ⟨j, hj, rfl, hall, hbw⟩ := hrel
    obtain ⟨wo, rfl⟩ : ∃ v : World, v = wr := ⟨_, rfl⟩
    by_cases h1 : j < na
    case neg =>
      have hI : ¬ (j : Int) < (na : Int) := by omega
      have hn : R = true := by
        rw [hRH.out]
        refine decide_eq_true (lists_ext (by rw [← hna'.out, ← hnbH.out]) (fun i hi => hall.out i (by have := hna'.out; omega)))
      subst hn
      have hF := hbw
      clear hRH hall hbw hBw
      go_wp2_with fail
      go_ret
      exact ⟨rfl, hF.out⟩
    case pos =>
    have hI : (j : Int) < (na : Int) := by omega
    obtain ⟨g, o, x1, rfl, hnc, hel⟩ := hyaw.out.elem j (by rw [← hna'.out]; exact h1)
    obtain ⟨g2, o2, x2, rfl, hnc2, hel2⟩ := hybw.out.elem j (by rw [← hnbH.out]; exact h1)
    obtain ⟨x, hx⟩ : ∃ x, x = a.getD j default := ⟨_, rfl⟩
    obtain ⟨y, hy⟩ : ∃ y, y = b.getD j default := ⟨_, rfl⟩
    have hxb : Hid (∀ z ∈ x, z < 256) := by rw [hx]; exact haH.out.get j (by rw [← hna'.out]; exact h1)
    have hyb : Hid (∀ z ∈ y, z < 256) := by rw [hy]; exact hbH.out.get j (by rw [← hnbH.out]; exact h1)
    rw [← hx] at hel
    rw [← hy] at hel2
    have hxH : Hid (x = a.getD j default) := hx
    have hyH : Hid (y = b.getD j default) := hy
    have hallH : Hid (∀ i, i < j → a.getD i default = b.getD i default) := hall
    have hBwo : Hid (Below w.heap.size w wo) := hbw.out
    clear hx hy hall hbw
    obtain ⟨same, hsame⟩ : ∃ s, s = decide (x = y) := ⟨_, rfl⟩
    go_upto_region 6 with fail
    refine wp_normalG ?_
    refine wp_region_held_drew (S := fun w' => Below wo.heap.size wo w') (by kernel_rfl) (Below.refl _ _).drew (fun hS => ?_)
    change wpAnyH _ _ _ _ _ 11 (Array.replicate 11 false) _ _
    generalize hx : wo.drew = y0 at hS ⊢
    clear hx
    refine held_take 0 rfl (by kernel_rfl) (by kernel_rfl) (by kernel_rfl) (.slice (some ⟨g, o, none⟩) na ca) (fun _ _ _ h => nomatch h.1) (by kernel_rfl) (fun w' h => (by kernel_rfl)) hS ?_
    simp only [Act.put, fl1, fl2, fl3, fl4, fl5, fl6]
    refine held_take 1 rfl (by kernel_rfl) (by kernel_rfl) (by kernel_rfl) (.int .i64 (j : Int)) (fun _ _ _ h => nomatch h.1) (by kernel_rfl) (fun w' h => (by kernel_rfl)) hS ?_
    simp only [Act.put, fl1, fl2, fl3, fl4, fl5, fl6]
    refine held_take 2 rfl (by kernel_rfl) (by kernel_rfl) (by kernel_rfl) (.pointer (some ⟨g, o + j * 1, none⟩)) (fun _ _ _ h => nomatch h.1) (by kernel_rfl) (fun w' h => exec_index un30s sz30s _ _ rfl g o na ca j (by kernel_rfl) (by kernel_rfl) h1 w') hS ?_
    simp only [Act.put, fl1, fl2, fl3, fl4, fl5, fl6]
    refine held_take 3 rfl (by kernel_rfl) (by kernel_rfl) (by kernel_rfl) (x1) (fun _ _ _ h => nomatch h.1) (by kernel_rfl) (fun w' h => exec_load_cell 22 w' _ rfl ⟨g, o + j * 1, none⟩ (by kernel_rfl) _ (hel.out w' (hBwo.out.trans (h.mono hBwo.out.size))).1 (fun _ => by kernel_rfl)) hS ?_
    simp only [Act.put, fl1, fl2, fl3, fl4, fl5, fl6]
    refine held_take 4 rfl (by kernel_rfl) (by kernel_rfl) (by kernel_rfl) (.string (strB x)) (fun _ _ _ h => nomatch h.1) (by kernel_rfl) (fun w' h => exec_convB _ rfl x1 x (by kernel_rfl) (hel.out w' (hBwo.out.trans (h.mono hBwo.out.size))).2) hS ?_
    simp only [Act.put, fl1, fl2, fl3, fl4, fl5, fl6]
    refine held_take 5 rfl (by kernel_rfl) (by kernel_rfl) (by kernel_rfl) (.slice (some ⟨g2, o2, none⟩) na cb) (fun _ _ _ h => nomatch h.1) (by kernel_rfl) (fun w' h => (by kernel_rfl)) hS ?_
    simp only [Act.put, fl1, fl2, fl3, fl4, fl5, fl6]
    refine held_take 6 rfl (by kernel_rfl) (by kernel_rfl) (by kernel_rfl) (.int .i64 (j : Int)) (fun _ _ _ h => nomatch h.1) (by kernel_rfl) (fun w' h => (by kernel_rfl)) hS ?_
    simp only [Act.put, fl1, fl2, fl3, fl4, fl5, fl6]
    refine held_take 7 rfl (by kernel_rfl) (by kernel_rfl) (by kernel_rfl) (.pointer (some ⟨g2, o2 + j * 1, none⟩)) (fun _ _ _ h => nomatch h.1) (by kernel_rfl) (fun w' h => exec_index un30s sz30s _ _ rfl g2 o2 na cb j (by kernel_rfl) (by kernel_rfl) h1 w') hS ?_
    simp only [Act.put, fl1, fl2, fl3, fl4, fl5, fl6]
    refine held_take 8 rfl (by kernel_rfl) (by kernel_rfl) (by kernel_rfl) (x2) (fun _ _ _ h => nomatch h.1) (by kernel_rfl) (fun w' h => exec_load_cell 22 w' _ rfl ⟨g2, o2 + j * 1, none⟩ (by kernel_rfl) _ (hel2.out w' (hBwo.out.trans (h.mono hBwo.out.size))).1 (fun _ => by kernel_rfl)) hS ?_
    simp only [Act.put, fl1, fl2, fl3, fl4, fl5, fl6]
    refine held_take 9 rfl (by kernel_rfl) (by kernel_rfl) (by kernel_rfl) (.string (strB y)) (fun _ _ _ h => nomatch h.1) (by kernel_rfl) (fun w' h => exec_convB _ rfl x2 y (by kernel_rfl) (hel2.out w' (hBwo.out.trans (h.mono hBwo.out.size))).2) hS ?_
    simp only [Act.put, fl1, fl2, fl3, fl4, fl5, fl6]
    refine held_take 10 rfl (by kernel_rfl) (by kernel_rfl) (by kernel_rfl) (.bool (!same)) (fun _ _ _ h => nomatch h.1) (by kernel_rfl) (fun w' h => exec_neS _ _ _ rfl (strB x) (strB y) (by kernel_rfl) (by kernel_rfl) _ (by rw [strB_eq hxb.out hyb.out, hsame])) hS ?_
    simp only [Act.put, fl1, fl2, fl3, fl4, fl5, fl6]
    have hBy0 : Hid (Below w.heap.size w y0) := hBwo.out.trans (hS.mono hBwo.out.size)
    clear hS hBwo hel hel2
    refine wpAnyH_done (by kernel_rfl) ?_ _
    refine ⟨rfl, ?_⟩
    rename_i hK
    refine hK _ _ ?_
    clear hK
    cases same with
    | false =>
      have hn : R = false := by
        rw [hRH.out]
        refine decide_eq_false (fun e => of_decide_eq_false hsame.symm (by rw [hxH.out, hyH.out, e]))
      subst hn
      clear hRH hallH hsame hBw hyaw hybw
      go_wp2_with fail
      go_ret
      exact ⟨rfl, hBy0.out⟩
    | true =>
      have hall2 : Hid (∀ i, i < j + 1 → a.getD i default = b.getD i default) := fun i hi => by
        by_cases e : i < j
        · exact hallH.out i e
        · obtain rfl : i = j := by omega
          rw [← hxH.out, ← hyH.out]; exact of_decide_eq_true hsame.symm
      clear hallH hsame hxH hyH
      go_wp2_with fail
      go_roundw
      case rel => exact ⟨j + 1, by omega, by go_num, hall2, hBy0⟩
      case measure => simp [intOf]; omega
end Go.Proofs.Ytdkaaieenbmihaa
namespace Go.Proofs.Ytdkaaieenbmihaa
open Go.RowKit
open Sha (vals Bytes Lies bytesC sumB)
/-- Bytes in a block of bytes. -/
def TB (w : World) (u : Value) (p : List Nat) : Prop := Rw 1 encB w u p ∧ ∀ q, u.ownBlock = some q → ∃ cs fr, w.heap[q]? = some (.cells cs 5 fr)
theorem TB.below {w w' : World} {u : Value} {p : List Nat} (h : TB w u p) (hb : Below w.heap.size w w') : TB w' u p := by
  refine ⟨h.1.below hb, fun q hq => ?_⟩
  obtain ⟨cs, fr, h2⟩ := h.2 q hq
  exact ⟨cs, fr, heap_kept h2 hb⟩
theorem TB.nil (w : World) : TB w (.slice none 0 0) [] := ⟨Rw.nil, fun q hq => by simp [Value.ownBlock] at hq⟩
theorem TB.own {w : World} {base : Nat} {u : Value} {p : List Nat} (h : w.ownsRow base 5 1 u p.length (vals p)) : TB w u p := by
  refine ⟨rw_bytes.2 (own_bytes h), fun q hq => ?_⟩
  rcases h.2 with ⟨rfl, _⟩ | ⟨g, cap, cur, rfl, _, hg, _⟩
  · simp [Value.ownBlock] at hq
  · simp [Value.ownBlock] at hq
    subst hq
    exact ⟨cur, (0, 0), hg⟩
def oneT (l : List Nat) : Nat × List Nat × Nat := match oneS l with | none => (0, [], 0) | some x => x
theorem rw_mid {w : World} {g o n c : Nat} {l : List Nat} (hn : n = l.length) (hy : Rw 1 encB w (.slice (some ⟨g, o, none⟩) n c) l) (p q : Nat) (hpq : p + q ≤ n) : Rw 1 encB w (.slice (some ⟨g, o + p, none⟩) q (c - p)) ((l.drop p).take q) := by
  have hl : ((l.drop p).take q).length = q := by rw [List.length_take, List.length_drop]; omega
  by_cases h0 : q = 0
  · subst h0
    exact .inl ⟨some ⟨g, o + p, none⟩, c - p, rfl, by simp, fun h => by cases h⟩
  · obtain ⟨g', o', h1, hnc, hg, _⟩ := hy.elem 0 (by omega)
    injection h1 with h1
    injection h1 with h3 h4
    subst h3 h4
    refine .inr ⟨g, o + p, c - p, by rw [hl], by rw [hl]; omega, hg, fun i hi => ?_⟩
    rw [hl] at hi
    have h5 := run_elem hy (p + i) (by omega)
    have e1 : ((l.drop p).take q).getD i default = l.getD (p + i) default := by
      simp only [List.getD_eq_getElem?_getD, List.getElem?_take_of_lt hi, List.getElem?_drop]
    have e2 : o + p + i * 1 = o + (p + i) * 1 := by omega
    rw [e1, e2]; exact h5
theorem conv_i64 (n : Int) (h : 0 ≤ n) (h2 : n < 9223372036854775808) (w : World) : (convert 37 3 (.int .u64 n)).run Try.prog w = .ok (.int .i64 n) w := by
  have e : IntKind.i64.wrap n = n := by rw [IntKind.wrap_i64]; omega
  simp [convert, run_underlying Try.underlying3, run_underlying Try.underlying37, Conv.intToInt, e]
theorem exec_convU {o : Oper} {a : Act} {w : World} (x : Operand) (ho : o.op = .convert 37 3 x) (n : Nat) (hn : n < 9223372036854775808) (hx : a.eval x = .int .u64 (n : Int)) : (execOp a.eval o).run Try.prog w = .ok (.value (.int .i64 (n : Int))) w := by
  unfold execOp
  simp [ho, hx, conv_i64 (n : Int) (by omega) (by omega) w]
theorem exec_ne8 {o : Oper} {a : Act} {w : World} (t : TypeId) (x y : Operand) (ho : o.op = .binOp .neq t x y t) (u v : Nat) (hx : a.eval x = .int .u8 (u : Int)) (hy : a.eval y = .int .u8 (v : Int)) (b : Bool) (hb : decide (u ≠ v) = b) : (execOp a.eval o).run Try.prog w = .ok (.value (.bool b)) w := by
  subst hb
  have e : ((u : Int) != (v : Int)) = decide (u ≠ v) := by
    by_cases h : u = v
    · subst h; simp
    · have : (u : Int) ≠ (v : Int) := by omega
      simp [h, this]
  unfold execOp
  simp [ho, hx, hy, eqGuard, binOp_neq]
  exact e.trans (by simp)
theorem exec_append22' {w : World} (s x : Operand) (base : Nat) (v : Value) (l0 l : List Nat) (hown : w.ownsRow base 5 1 v l0.length (vals l0)) (y : Value) (hy : Bytes w y l) (hlen : l0.length + l.length ≤ 1000000000000) (hbase : base ≤ w.heap.size) :
    ∃ v' w', (∀ {o : Oper} {a : Act}, o.op = .call { callee := .builtin .append, args := #[s, x], argTypes := #[22, 22] } → a.eval s = v → a.eval x = y → (execOp a.eval o).run Try.prog w = .ok (.value v') w') ∧ w'.ownsRow base 5 1 v' (l0 ++ l).length (vals (l0 ++ l)) ∧ w.grownBy w' v.ownBlock := by
  obtain ⟨i5, hi5, hz0, hz1, hz2⟩ := Sha.info5'
  rcases hy with ⟨A, c, rfl, rfl, hA⟩ | ⟨g, off, c, rfl, hc, hg, hl⟩
  · cases A with
    | none =>
      have hA := hA rfl
      subst hA
      refine ⟨v, w, fun {o a} ho hs hx => ?_, by simpa using hown, grownBy_refl _ _⟩
      have hrun := run_append_owned_none (P := Try.prog) (w := w) base 22 o.type 5 i5 1 Try.underlying22 hi5 v l0.length (vals l0) hown
      simp [execOp, ho, resolve, invoke, builtin, hs, hx, hrun, Result.andThen]
    | some ad =>
      obtain ⟨v', w', h1, h2, h3, h4⟩ := run_append_own (P := Try.prog) w base 22 22 5 i5 (.int .u8 0) 1 1 Try.underlying22 hi5 hz0 hz1 hz2 rfl (by decide) v l0.length (vals l0) hown ad 0 c [] rfl (fun j u hu => by simp at hu) (fun u hu => by simp at hu) (by unfold maxLen; omega) (by omega) hbase
      refine ⟨v', w', fun {o a} ho hs hx => ?_, by simpa using h2, h3⟩
      have h1' : (Builtin.append_ #[22, 22] o.type #[v, .slice (some ad) 0 c]).run Try.prog w = .ok v' w' := h1
      simp [execOp, ho, resolve, invoke, builtin, hs, hx, h1', Result.andThen]
  · obtain ⟨v', w', h1, h2, h3, h4⟩ := run_append_own (P := Try.prog) w base 22 22 5 i5 (.int .u8 0) 1 1 Try.underlying22 hi5 hz0 hz1 hz2 rfl (by decide) v l0.length (vals l0) hown ⟨g, off, none⟩ l.length c (vals l) (by rw [Sha.vals_length, Nat.mul_one]) hl.vals (Sha.vals_one _) (by unfold maxLen; omega) (by omega) hbase
    refine ⟨v', w', fun {o a} ho hs hx => ?_, by rw [List.length_append, Sha.vals_append]; exact h2, h3⟩
    have h1' : (Builtin.append_ #[22, 22] o.type #[v, .slice (some ⟨g, off, none⟩) l.length c]).run Try.prog w = .ok v' w' := h1
    simp [execOp, ho, resolve, invoke, builtin, hs, hx, h1', Result.andThen]
theorem beN4_lt {l : List Nat} (hb : ∀ x ∈ l, x < 256) : beN (l.take 4) < 4294967296 := by
  have h1 := beN_lt (l.take 4) fun x hx => hb x (List.mem_of_mem_take hx)
  have h2 : 256 ^ (l.take 4).length ≤ 256 ^ 4 := Nat.pow_le_pow_right (by decide) (by rw [List.length_take]; omega)
  have h3 : (256 : Nat) ^ 4 = 4294967296 := by decide
  omega
theorem take4_eq {a b : List Nat} (ha : 4 ≤ a.length) (hb : 4 ≤ b.length) : a.take 4 = b.take 4 ↔ ∀ i, i < 4 → a.getD i 0 = b.getD i 0 := by
  constructor
  · intro h i hi
    have h1 : (a.take 4)[i]? = (b.take 4)[i]? := by rw [h]
    rw [List.getElem?_take_of_lt hi, List.getElem?_take_of_lt hi] at h1
    simp [List.getD_eq_getElem?_getD, h1]
  · intro h
    refine List.ext_getElem (by simp only [List.length_take]; omega) fun i h1 h2 => ?_
    rw [List.length_take] at h1
    have h3 := h i (by omega)
    have h4 : i < a.length := by omega
    have h5 : i < b.length := by omega
    simpa [List.getD_eq_getElem?_getD, h4, h5] using h3

set_option maxRecDepth 100000 in
set_option maxHeartbeats 8000000 in
theorem rone_calls (l : List Nat) (hb : ∀ x ∈ l, x < 256) (A : Option Addr) (n c : Nat) (hn : n = l.length) (hn9 : n ≤ 1000000000) (w : World) (hy : Rw 1 encB w (.slice A n c) l) :
    Calls Try.prog 32 #[.slice A n c] w fun e w' => ∃ v, e = .returned (.tuple #[.int .u64 ((oneT l).1 : Int), v, .int .i64 ((oneT l).2.2 : Int)]) ∧ TB w' v (oneT l).2.1 ∧ Below w.heap.size w w' := by
  by_cases h17 : n < 17
  · have hs : oneT l = (0, [], 0) := by unfold oneT oneS; rw [if_pos (by omega)]
    have hI : (n : Int) < 17 := by omega
    rw [hs]
    clear hs hy hn hb
    go_enter Try.func32, Try.ntmps32
    go_wp2_with fail
    go_ret3
    exact ⟨_, rfl, TB.nil _, Below.refl _ _⟩
  have hI17 : ¬ (n : Int) < 17 := by omega
  obtain ⟨sz, hsz⟩ : ∃ s, s = beN (l.take 4) := ⟨_, rfl⟩
  have hsz2 : sz < 4294967296 := by rw [hsz]; exact beN4_lt hb
  obtain ⟨T, hT⟩ : ∃ T, T = oneT l := ⟨_, rfl⟩
  rw [← hT]
  have hTH : Hid (T = oneT l) := hT
  have hszH : Hid (sz = beN (l.take 4)) := hsz
  have hn' : Hid (n = l.length) := hn
  have hbH : Hid (∀ x ∈ l, x < 256) := hb
  have hyw : Hid (Rw 1 encB w (.slice A n c) l) := hy
  have hBw : Hid (Below w.heap.size w w) := Below.refl _ _
  clear hy hn hb hsz hT
  go_enter Try.func32, Try.ntmps32
  go_upto_region 3 with fail
  refine wp_region_lit ?_
  refine sl_run rfl (.slice A n c) w (by kernel_rfl) ?_
  simp only [Act.put, fl1, fl2, fl3]
  refine sg_call (by kernel_rfl) 50 #[.slice A n c, .int .i64 4] (by kernel_rfl) (R := fun v w' => v = .int .u64 (sz : Int) ∧ Below w.heap.size w w') ?hc ?_
  case hc =>
    have h8 := rnum_calls l hbH.out A n c hn'.out hn9 4 (by omega) (by decide) w hyw.out
    rw [← hszH.out] at h8
    exact h8.mono fun e w' h => ⟨_, h.1, rfl, h.2⟩
  rintro _ w1 ⟨rfl, hb⟩
  simp only [Act.put, fl1, fl2, fl3]
  have hBw1 : Hid (Below w.heap.size w w1) := (hBw.out).trans ((hb).mono (hBw.out).size)
  clear hBw
  clear hb
  refine sl_run rfl (.int .i64 (sz : Int)) w1 (exec_convU _ rfl sz (by omega) (by kernel_rfl)) ?_
  simp only [Act.put, fl1, fl2, fl3]
  refine sl_run rfl (.int .i64 (sz : Int)) w1 (by kernel_rfl) ?_
  simp only [Act.put, fl1, fl2, fl3]
  refine wpList_nil ?_
  by_cases hc1 : sz < 8
  case pos =>
    have hs : T = (0, [], 0) := by
      rw [hTH.out]; unfold oneT oneS
      rw [← hszH.out, ← hn'.out, if_neg (by omega), if_pos (by omega)]
    clear hTH
    subst hs
    have hTH := ()
    clear hszH hyw hbH hn'
    go_upto_region 4 with fail
    refine wp_region_lit ?_
    refine sl_run rfl (.int .i64 (sz : Int)) w1 (by kernel_rfl) ?_
    simp only [Act.put, fl1, fl2, fl3]
    refine sl_run rfl (.bool true) w1 (exec_lss _ _ _ rfl (sz : Int) 8 (by kernel_rfl) (by kernel_rfl) true (decide_eq_true (by omega))) ?_
    simp only [Act.put, fl1, fl2, fl3]
    refine sl_run rfl (.bool true) w1 (by kernel_rfl) ?_
    simp only [Act.put, fl1, fl2, fl3]
    refine wpList_skip ?hw ?_
    case hw => kernel_rfl
    simp only [Act.put, fl1, fl2, fl3]
    refine wpList_skip ?hw ?_
    case hw => kernel_rfl
    simp only [Act.put, fl1, fl2, fl3]
    refine sl_run rfl (.bool true) w1 (by kernel_rfl) ?_
    simp only [Act.put, fl1, fl2, fl3]
    refine sl_run rfl (.bool true) w1 (by kernel_rfl) ?_
    simp only [Act.put, fl1, fl2, fl3]
    refine wpList_skip ?hw ?_
    case hw => kernel_rfl
    simp only [Act.put, fl1, fl2, fl3]
    refine wpList_skip ?hw ?_
    case hw => kernel_rfl
    simp only [Act.put, fl1, fl2, fl3]
    refine wpList_skip ?hw ?_
    case hw => kernel_rfl
    simp only [Act.put, fl1, fl2, fl3]
    refine wpList_skip ?hw ?_
    case hw => kernel_rfl
    simp only [Act.put, fl1, fl2, fl3]
    refine wpList_skip ?hw ?_
    case hw => kernel_rfl
    simp only [Act.put, fl1, fl2, fl3]
    refine sl_run rfl (.bool true) w1 (by kernel_rfl) ?_
    simp only [Act.put, fl1, fl2, fl3]
    refine wpList_nil ?_
    have hF := hBw1
    clear hBw1 hTH
    go_wp2_with fail
    go_ret3
    refine ⟨_, rfl, ?_, hF.out⟩
    exact TB.nil _
  case neg =>
  by_cases hc2 : 8200 < sz
  case pos =>
    have hs : T = (0, [], 0) := by
      rw [hTH.out]; unfold oneT oneS
      rw [← hszH.out, ← hn'.out, if_neg (by omega), if_pos (by omega)]
    clear hTH
    subst hs
    have hTH := ()
    clear hszH hyw hbH hn'
    go_upto_region 4 with fail
    refine wp_region_lit ?_
    refine sl_run rfl (.int .i64 (sz : Int)) w1 (by kernel_rfl) ?_
    simp only [Act.put, fl1, fl2, fl3]
    refine sl_run rfl (.bool false) w1 (exec_lss _ _ _ rfl (sz : Int) 8 (by kernel_rfl) (by kernel_rfl) false (decide_eq_false (by omega))) ?_
    simp only [Act.put, fl1, fl2, fl3]
    refine sl_run rfl (.bool false) w1 (by kernel_rfl) ?_
    simp only [Act.put, fl1, fl2, fl3]
    refine sg_run (by kernel_rfl) (.int .i64 (sz : Int)) w1 (by kernel_rfl) ?_
    simp only [Act.put, fl1, fl2, fl3]
    refine sg_run (by kernel_rfl) (.bool true) w1 (exec_gtr _ _ _ rfl (sz : Int) 8200 (by kernel_rfl) (by kernel_rfl) true (decide_eq_true (by omega))) ?_
    simp only [Act.put, fl1, fl2, fl3]
    refine sl_run rfl (.bool true) w1 (by kernel_rfl) ?_
    simp only [Act.put, fl1, fl2, fl3]
    refine sl_run rfl (.bool true) w1 (by kernel_rfl) ?_
    simp only [Act.put, fl1, fl2, fl3]
    refine wpList_skip ?hw ?_
    case hw => kernel_rfl
    simp only [Act.put, fl1, fl2, fl3]
    refine wpList_skip ?hw ?_
    case hw => kernel_rfl
    simp only [Act.put, fl1, fl2, fl3]
    refine wpList_skip ?hw ?_
    case hw => kernel_rfl
    simp only [Act.put, fl1, fl2, fl3]
    refine wpList_skip ?hw ?_
    case hw => kernel_rfl
    simp only [Act.put, fl1, fl2, fl3]
    refine wpList_skip ?hw ?_
    case hw => kernel_rfl
    simp only [Act.put, fl1, fl2, fl3]
    refine sl_run rfl (.bool true) w1 (by kernel_rfl) ?_
    simp only [Act.put, fl1, fl2, fl3]
    refine wpList_nil ?_
    have hF := hBw1
    clear hBw1 hTH
    go_wp2_with fail
    go_ret3
    refine ⟨_, rfl, ?_, hF.out⟩
    exact TB.nil _
  case neg =>
  by_cases hc3 : n < sz + 9
  case pos =>
    have hs : T = (0, [], 0) := by
      rw [hTH.out]; unfold oneT oneS
      rw [← hszH.out, ← hn'.out, if_neg (by omega), if_pos (by omega)]
    clear hTH
    subst hs
    have hTH := ()
    clear hszH hyw hbH hn'
    go_upto_region 4 with fail
    refine wp_region_lit ?_
    refine sl_run rfl (.int .i64 (sz : Int)) w1 (by kernel_rfl) ?_
    simp only [Act.put, fl1, fl2, fl3]
    refine sl_run rfl (.bool false) w1 (exec_lss _ _ _ rfl (sz : Int) 8 (by kernel_rfl) (by kernel_rfl) false (decide_eq_false (by omega))) ?_
    simp only [Act.put, fl1, fl2, fl3]
    refine sl_run rfl (.bool false) w1 (by kernel_rfl) ?_
    simp only [Act.put, fl1, fl2, fl3]
    refine sg_run (by kernel_rfl) (.int .i64 (sz : Int)) w1 (by kernel_rfl) ?_
    simp only [Act.put, fl1, fl2, fl3]
    refine sg_run (by kernel_rfl) (.bool false) w1 (exec_gtr _ _ _ rfl (sz : Int) 8200 (by kernel_rfl) (by kernel_rfl) false (decide_eq_false (by omega))) ?_
    simp only [Act.put, fl1, fl2, fl3]
    refine sl_run rfl (.bool false) w1 (by kernel_rfl) ?_
    simp only [Act.put, fl1, fl2, fl3]
    refine sl_run rfl (.bool false) w1 (by kernel_rfl) ?_
    simp only [Act.put, fl1, fl2, fl3]
    refine sg_run (by kernel_rfl) (.slice A n c) w1 (by kernel_rfl) ?_
    simp only [Act.put, fl1, fl2, fl3]
    refine sg_run (by kernel_rfl) (.int .i64 (n : Int)) w1 (by kernel_rfl) ?_
    simp only [Act.put, fl1, fl2, fl3]
    refine sg_run (by kernel_rfl) (.int .i64 (sz : Int)) w1 (by kernel_rfl) ?_
    simp only [Act.put, fl1, fl2, fl3]
    refine sg_run (by kernel_rfl) (.int .i64 ((sz : Int) + 9)) w1 (exec_add2 _ _ rfl _ _ (by kernel_rfl) (by kernel_rfl) (by omega) (by omega) _) ?_
    simp only [Act.put, fl1, fl2, fl3]
    refine sg_run (by kernel_rfl) (.bool true) w1 (exec_lss _ _ _ rfl (n : Int) ((sz : Int) + 9) (by kernel_rfl) (by kernel_rfl) true (decide_eq_true (by omega))) ?_
    simp only [Act.put, fl1, fl2, fl3]
    refine sl_run rfl (.bool true) w1 (by kernel_rfl) ?_
    simp only [Act.put, fl1, fl2, fl3]
    refine wpList_nil ?_
    have hF := hBw1
    clear hBw1 hTH
    go_wp2_with fail
    go_ret3
    refine ⟨_, rfl, ?_, hF.out⟩
    exact TB.nil _
  case neg =>
  go_upto_region 4 with fail
  refine wp_region_lit ?_
  refine sl_run rfl (.int .i64 (sz : Int)) w1 (by kernel_rfl) ?_
  simp only [Act.put, fl1, fl2, fl3]
  refine sl_run rfl (.bool false) w1 (exec_lss _ _ _ rfl (sz : Int) 8 (by kernel_rfl) (by kernel_rfl) false (decide_eq_false (by omega))) ?_
  simp only [Act.put, fl1, fl2, fl3]
  refine sl_run rfl (.bool false) w1 (by kernel_rfl) ?_
  simp only [Act.put, fl1, fl2, fl3]
  refine sg_run (by kernel_rfl) (.int .i64 (sz : Int)) w1 (by kernel_rfl) ?_
  simp only [Act.put, fl1, fl2, fl3]
  refine sg_run (by kernel_rfl) (.bool false) w1 (exec_gtr _ _ _ rfl (sz : Int) 8200 (by kernel_rfl) (by kernel_rfl) false (decide_eq_false (by omega))) ?_
  simp only [Act.put, fl1, fl2, fl3]
  refine sl_run rfl (.bool false) w1 (by kernel_rfl) ?_
  simp only [Act.put, fl1, fl2, fl3]
  refine sl_run rfl (.bool false) w1 (by kernel_rfl) ?_
  simp only [Act.put, fl1, fl2, fl3]
  refine sg_run (by kernel_rfl) (.slice A n c) w1 (by kernel_rfl) ?_
  simp only [Act.put, fl1, fl2, fl3]
  refine sg_run (by kernel_rfl) (.int .i64 (n : Int)) w1 (by kernel_rfl) ?_
  simp only [Act.put, fl1, fl2, fl3]
  refine sg_run (by kernel_rfl) (.int .i64 (sz : Int)) w1 (by kernel_rfl) ?_
  simp only [Act.put, fl1, fl2, fl3]
  refine sg_run (by kernel_rfl) (.int .i64 ((sz : Int) + 9)) w1 (exec_add2 _ _ rfl _ _ (by kernel_rfl) (by kernel_rfl) (by omega) (by omega) _) ?_
  simp only [Act.put, fl1, fl2, fl3]
  refine sg_run (by kernel_rfl) (.bool false) w1 (exec_lss _ _ _ rfl (n : Int) ((sz : Int) + 9) (by kernel_rfl) (by kernel_rfl) false (decide_eq_false (by omega))) ?_
  simp only [Act.put, fl1, fl2, fl3]
  refine sl_run rfl (.bool false) w1 (by kernel_rfl) ?_
  simp only [Act.put, fl1, fl2, fl3]
  refine wpList_nil ?_
  obtain ⟨g, o, rfl, hnc, hg, _⟩ := hyw.out.elem 0 (by have := hn'.out; omega)
  clear hg
  obtain ⟨bd, hbd⟩ : ∃ b, b = (l.drop 4).take sz := ⟨_, rfl⟩
  have hbl : bd.length = sz := by rw [hbd, List.length_take, List.length_drop]; have := hn'.out; omega
  have hbdH : Hid (bd = (l.drop 4).take sz) := hbd
  have hbb : Hid (∀ x ∈ bd, x < 256) := fun x hx => hbH.out x (by rw [hbd] at hx; exact List.mem_of_mem_drop (List.mem_of_mem_take hx))
  have hybw : Hid (Rw 1 encB w (.slice (some ⟨g, o + 4, none⟩) sz (c - 4)) bd) := by rw [hbd]; exact rw_mid hn'.out hyw.out 4 sz (by omega)
  obtain ⟨S, hS⟩ : ∃ S, S = sumB bd := ⟨_, rfl⟩
  have hSl : S.length = 32 := by rw [hS]; exact Sha.sumB_length _
  have hSH : Hid (S = sumB bd) := hS
  have hTv : Hid (T = if (l.drop (4 + sz)).take 4 ≠ S.take 4 ∨ l.getD (8 + sz) 0 ≠ 197 then (0, [], 0) else (beN (bd.take 8), bd.drop 8, sz + 9)) := by
    show _ = _
    rw [hTH.out]; unfold oneT oneS
    rw [← hszH.out, ← hn'.out, if_neg (by omega), if_neg (by omega), ← hbd, ← hS]
    have e : beN ((l.drop 4).take 8) = beN (bd.take 8) := by
      rw [hbd, List.take_take, Nat.min_eq_left (by omega)]
    rw [e]
    by_cases hq : (l.drop (4 + sz)).take 4 ≠ S.take 4 ∨ l.getD (8 + sz) 0 ≠ 197
    · rw [if_pos hq, if_pos hq]
    · rw [if_neg hq, if_neg hq]
  clear hTH hszH hbd hS
  go_upto_region 6 with fail
  refine wp_region_lit ?_
  refine sl_run rfl (.slice (some ⟨g, o, none⟩) n c) w1 (by kernel_rfl) ?_
  simp only [Act.put, fl1, fl2, fl3]
  refine sl_run rfl (.int .i64 (sz : Int)) w1 (by kernel_rfl) ?_
  simp only [Act.put, fl1, fl2, fl3]
  refine sl_run rfl (.int .i64 (4 + (sz : Int))) w1 (exec_add2 _ _ rfl _ _ (by kernel_rfl) (by kernel_rfl) (by omega) (by omega) _) ?_
  simp only [Act.put, fl1, fl2, fl3]
  refine sl_run rfl (.slice (some ⟨g, o + 4, none⟩) sz (c - 4)) w1 ((Sha.exec_slice_lh _ _ _ rfl g o n c 4 (4 + sz) (by kernel_rfl) (by kernel_rfl) (by kernel_rfl) (by omega) (by omega) w1).trans (by rw [Nat.add_sub_cancel_left])) ?_
  simp only [Act.put, fl1, fl2, fl3]
  refine sl_run rfl (.slice (some ⟨g, o + 4, none⟩) sz (c - 4)) w1 (by kernel_rfl) ?_
  simp only [Act.put, fl1, fl2, fl3]
  refine wpList_nil ?_
  go_upto_region 7 with fail
  refine wp_region_lit ?_
  refine sl_run rfl (.slice (some ⟨g, o + 4, none⟩) sz (c - 4)) w1 (by kernel_rfl) ?_
  simp only [Act.put, fl1, fl2, fl3]
  refine sg_call (by kernel_rfl) 28 #[.slice (some ⟨g, o + 4, none⟩) sz (c - 4)] (by kernel_rfl) (R := fun v w' => v = .agg (bytesC S) ∧ Below w1.heap.size w1 w') ?hc ?_
  case hc =>
    have h8 := rw_bytes.1 (hybw.out.below hBw1.out)
    have h9 := Sha.rsum_calls bd (getD_of hbb.out) (by omega) (some ⟨g, o + 4, none⟩) (c - 4) w1 (by rw [hbl]; exact h8)
    rw [hbl] at h9
    exact h9.mono fun e w' h => ⟨_, h.1, by rw [hSH.out], h.2⟩
  rintro _ w2 ⟨rfl, hb⟩
  simp only [Act.put, fl1, fl2, fl3]
  have hBw2 : Hid (Below w.heap.size w w2) := (hBw1.out).trans ((hb).mono (hBw1.out).size)
  clear hBw1
  clear hb
  refine sl_run rfl (.pointer (some ⟨w2.heap.size, 0, none⟩)) (w2.alloc (.cells (bytesC (Sha.zeros 32)) 56)) (by kernel_rfl) ?_
  simp only [Act.put, fl1, fl2, fl3]
  refine wpList_store_row rfl 56 _ _ rfl w2.heap.size (bytesC S) (by kernel_rfl) (by kernel_rfl) 56 (bytesC (Sha.zeros 32)) (heap_alloc_new _ _) (by rw [Sha.bytesC_size, hSl]; kernel_rfl) (by rw [Sha.bytesC_size, Sha.bytesC_size, hSl]; rfl) (Sha.bytesC_one _) ?_
  rw [World.setRow_alloc_new]
  simp only [Act.put, fl1, fl2, fl3]
  generalize hX : w2.alloc (.cells (bytesC S) 56) = w4
  have hb : Below w2.heap.size w2 w4 := by rw [← hX]; exact (Below.refl _ _).alloc (Nat.le_refl _) _
  obtain ⟨D, hD⟩ : ∃ D, D = w2.heap.size := ⟨_, rfl⟩
  have hd9 : w4.heap[D]? = some (.cells (bytesC S) 56 (0, 0)) := by rw [← hX, hD]; exact heap_alloc_new _ _
  rw [← hD]
  clear hX hD
  have hBw4 : Hid (Below w.heap.size w w4) := (hBw2.out).trans ((hb).mono (hBw2.out).size)
  clear hBw2
  have hDw4 : Hid (w4.heap[D]? = some (.cells (bytesC S) 56 (0, 0))) := hd9
  clear hb hd9
  refine wpList_nil ?_
  have hcell : Hid (∀ (i : Nat) (w' : World), i < n → Below w.heap.size w w' → w'.cell? ⟨g, o + i * 1, none⟩ = some (.int .u8 ((l.getD i 0 : Nat) : Int))) := fun i w' hi hb => by
    rw [Nat.mul_one]; exact Rw.one (hyw.out.below hb) i (by have := hn'.out; omega)
  go_wp2_with fail
  go_loopw [8] (fun p wr => ∃ j : Nat, j ≤ 4 ∧ p = .int .i64 (j : Int) ∧ Hid (∀ i, i < j → (l.drop (4 + sz)).getD i 0 = S.getD i 0) ∧ Hid (Below w.heap.size w wr) ∧ Hid (wr.heap[D]? = some (.cells (bytesC S) 56 (0, 0)))) (fun p _ => 4 - (intOf p).toNat)
  case atStart => exact ⟨0, by omega, rfl, fun i h => by omega, hBw4, hDw4⟩
  case round =>
    clear hBw4 hDw4
    obtain ⟨j, hj, rfl, hall, hbw, hdw⟩ := hrel
    obtain ⟨wo, rfl⟩ : ∃ v : World, v = wr := ⟨_, rfl⟩
    have hallH : Hid (∀ i, i < j → (l.drop (4 + sz)).getD i 0 = S.getD i 0) := hall
    have hBwo : Hid (Below w.heap.size w wo) := hbw.out
    have hDwo : Hid (wo.heap[D]? = some (.cells (bytesC S) 56 (0, 0))) := hdw.out
    clear hall hbw hdw
    by_cases h1 : j < 4
    case pos =>
      have hI : (j : Int) < 4 := by omega
      have hI2 : (j : Int) < 4 := by omega
      go_upto_region 11 with fail
      refine wp_normalG ?_
      refine wp_region_held_drew (S := fun w' => Below wo.heap.size wo w') (by kernel_rfl) (Below.refl _ _).drew (fun hS => ?_)
      change wpAnyH _ _ _ _ _ 11 (Array.replicate 11 false) _ _
      generalize hx : wo.drew = y0 at hS ⊢
      clear hx
      refine held_take 0 rfl (by kernel_rfl) (by kernel_rfl) (by kernel_rfl) (.slice (some ⟨g, o, none⟩) n c) (fun _ _ _ h => nomatch h.1) (by kernel_rfl) (fun w' h => (by kernel_rfl)) hS ?_
      simp only [Act.put, fl1, fl2, fl3, fl4, fl5, fl6]
      refine held_take 1 rfl (by kernel_rfl) (by kernel_rfl) (by kernel_rfl) (.int .i64 (sz : Int)) (fun _ _ _ h => nomatch h.1) (by kernel_rfl) (fun w' h => (by kernel_rfl)) hS ?_
      simp only [Act.put, fl1, fl2, fl3, fl4, fl5, fl6]
      refine held_take 2 rfl (by kernel_rfl) (by kernel_rfl) (by kernel_rfl) (.int .i64 (4 + (sz : Int))) (fun _ _ _ h => nomatch h.1) (by kernel_rfl) (fun w' h => (exec_add2 _ _ rfl _ _ (by kernel_rfl) (by kernel_rfl) (by omega) (by omega) _)) hS ?_
      simp only [Act.put, fl1, fl2, fl3, fl4, fl5, fl6]
      refine held_take 3 rfl (by kernel_rfl) (by kernel_rfl) (by kernel_rfl) (.int .i64 (j : Int)) (fun _ _ _ h => nomatch h.1) (by kernel_rfl) (fun w' h => (by kernel_rfl)) hS ?_
      simp only [Act.put, fl1, fl2, fl3, fl4, fl5, fl6]
      refine held_take 4 rfl (by kernel_rfl) (by kernel_rfl) (by kernel_rfl) (.int .i64 (4 + (sz : Int) + (j : Int))) (fun _ _ _ h => nomatch h.1) (by kernel_rfl) (fun w' h => (exec_add2 _ _ rfl _ _ (by kernel_rfl) (by kernel_rfl) (by omega) (by omega) _)) hS ?_
      simp only [Act.put, fl1, fl2, fl3, fl4, fl5, fl6]
      refine held_take 5 rfl (by kernel_rfl) (by kernel_rfl) (by kernel_rfl) (.pointer (some ⟨g, o + (4 + sz + j) * 1, none⟩)) (fun _ _ _ h => nomatch h.1) (by kernel_rfl) (fun w' h => exec_index un22 sz22 _ _ rfl g o n c (4 + sz + j) (by kernel_rfl) (by kernel_rfl) (by omega) w') hS ?_
      simp only [Act.put, fl1, fl2, fl3, fl4, fl5, fl6]
      refine held_take 6 rfl (by kernel_rfl) (by kernel_rfl) (by kernel_rfl) (.int .u8 ((l.getD (4 + sz + j) 0 : Nat) : Int)) (fun _ _ _ h => nomatch h.1) (by kernel_rfl) (fun w' h => exec_load_cell 5 w' _ rfl ⟨g, o + (4 + sz + j) * 1, none⟩ (by kernel_rfl) _ (hcell.out (4 + sz + j) w' (by omega) (hBwo.out.trans (h.mono hBwo.out.size))) (fun _ => by kernel_rfl)) hS ?_
      simp only [Act.put, fl1, fl2, fl3, fl4, fl5, fl6]
      refine held_take 7 rfl (by kernel_rfl) (by kernel_rfl) (by kernel_rfl) (.int .i64 (j : Int)) (fun _ _ _ h => nomatch h.1) (by kernel_rfl) (fun w' h => (by kernel_rfl)) hS ?_
      simp only [Act.put, fl1, fl2, fl3, fl4, fl5, fl6]
      refine held_take 8 rfl (by kernel_rfl) (by kernel_rfl) (by kernel_rfl) (.pointer (some ⟨D, j, none⟩)) (fun _ _ _ h => nomatch h.1) (by kernel_rfl) (fun w' h => (exec_index56 _ _ rfl D j (by kernel_rfl) (by kernel_rfl) (by omega) w')) hS ?_
      simp only [Act.put, fl1, fl2, fl3, fl4, fl5, fl6]
      refine held_take 9 rfl (by kernel_rfl) (by kernel_rfl) (by kernel_rfl) (.int .u8 ((S.getD j 0 : Nat) : Int)) (fun _ _ _ h => nomatch h.1) (by kernel_rfl) (fun w' h => exec_load_cell 5 w' _ rfl ⟨D, j, none⟩ (by kernel_rfl) _ (by rw [cell_of_row _ _ _ _ _ _ (heap_kept hDwo.out h), Sha.bytesC_get _ _ (by rw [hSl]; omega)]) (fun _ => by kernel_rfl)) hS ?_
      simp only [Act.put, fl1, fl2, fl3, fl4, fl5, fl6]
      refine held_take 10 rfl (by kernel_rfl) (by kernel_rfl) (by kernel_rfl) (.bool (decide (l.getD (4 + sz + j) 0 ≠ S.getD j 0))) (fun _ _ _ h => nomatch h.1) (by kernel_rfl) (fun w' h => exec_ne8 _ _ _ rfl _ _ (by kernel_rfl) (by kernel_rfl) _ rfl) hS ?_
      simp only [Act.put, fl1, fl2, fl3, fl4, fl5, fl6]
      have hBy0 : Hid (Below w.heap.size w y0) := hBwo.out.trans (hS.mono hBwo.out.size)
      have hDy0 : Hid (y0.heap[D]? = some (.cells (bytesC S) 56 (0, 0))) := heap_kept hDwo.out hS
      clear hS hBwo hDwo hcell
      refine wpAnyH_done (by kernel_rfl) ?_ _
      refine ⟨rfl, ?_⟩
      rename_i hK
      refine hK _ _ ?_
      clear hK
      by_cases hx : l.getD (4 + sz + j) 0 = S.getD j 0
      case neg =>
        have hd : decide (l.getD (4 + sz + j) 0 ≠ S.getD j 0) = true := decide_eq_true hx
        rw [hd]
        clear hd
        have hs : T = (0, [], 0) := by
          rw [hTv.out, if_pos]
          refine .inl fun h => hx ?_
          have h2 := (take4_eq (by rw [List.length_drop]; have := hn'.out; omega) (by omega)).1 h j h1
          rw [getD_drop] at h2
          exact h2
        clear hTv hallH hx
        subst hs
        clear hyw hbH hn' hybw hbb hbdH hSH
        have hF := hBy0
        clear hBy0 hDy0
        go_wp2_with fail
        go_ret3
        exact ⟨_, rfl, TB.nil _, hF.out⟩
      case pos =>
        have hd : decide (l.getD (4 + sz + j) 0 ≠ S.getD j 0) = false := decide_eq_false (fun h => h hx)
        rw [hd]
        clear hd
        have hall2 : Hid (∀ i, i < j + 1 → (l.drop (4 + sz)).getD i 0 = S.getD i 0) := fun i hi => by
          by_cases e : i < j
          · exact hallH.out i e
          · obtain rfl : i = j := by omega
            rw [getD_drop]; exact hx
        clear hallH hx
        go_wp2_with fail
        go_roundw
        case rel => exact ⟨j + 1, by omega, by go_num, hall2, hBy0, hDy0⟩
        case measure => simp [intOf]; omega
    case neg =>
      have hI : ¬ (j : Int) < 4 := by omega
      obtain rfl : j = 4 := by omega
      clear hDwo
      have e8 : (l.drop (4 + sz)).take 4 = S.take 4 := (take4_eq (by rw [List.length_drop]; have := hn'.out; omega) (by omega)).2 hallH.out
      clear hallH
      go_upto_region 13 with fail
      refine wp_region_lit ?_
      refine sl_run rfl (.slice (some ⟨g, o, none⟩) n c) wo (by kernel_rfl) ?_
      simp only [Act.put, fl1, fl2, fl3]
      refine sl_run rfl (.int .i64 (sz : Int)) wo (by kernel_rfl) ?_
      simp only [Act.put, fl1, fl2, fl3]
      refine sl_run rfl (.int .i64 (8 + (sz : Int))) wo (exec_add2 _ _ rfl _ _ (by kernel_rfl) (by kernel_rfl) (by omega) (by omega) _) ?_
      simp only [Act.put, fl1, fl2, fl3]
      refine sl_run rfl (.pointer (some ⟨g, o + (8 + sz) * 1, none⟩)) wo (exec_index un22 sz22 _ _ rfl g o n c (8 + sz) (by kernel_rfl) (by kernel_rfl) (by omega) wo) ?_
      simp only [Act.put, fl1, fl2, fl3]
      refine sl_run rfl (.int .u8 ((l.getD (8 + sz) 0 : Nat) : Int)) wo (exec_load_cell 5 wo _ rfl ⟨g, o + (8 + sz) * 1, none⟩ (by kernel_rfl) _ (hcell.out (8 + sz) wo (by omega) hBwo.out) (fun _ => by kernel_rfl)) ?_
      simp only [Act.put, fl1, fl2, fl3]
      refine sl_run rfl (.bool (decide (l.getD (8 + sz) 0 ≠ 197))) wo (exec_ne8 _ _ _ rfl _ 197 (by kernel_rfl) (by kernel_rfl) _ rfl) ?_
      simp only [Act.put, fl1, fl2, fl3]
      refine wpList_nil ?_
      clear hcell
      by_cases hx : l.getD (8 + sz) 0 = 197
      case neg =>
        have hd : decide (l.getD (8 + sz) 0 ≠ 197) = true := decide_eq_true hx
        rw [hd]
        clear hd
        have hs : T = (0, [], 0) := by rw [hTv.out, if_pos (.inr hx)]
        clear hTv hx e8
        subst hs
        clear hyw hbH hn' hybw hbb hbdH hSH
        have hF := hBwo
        clear hBwo
        go_wp2_with fail
        go_ret3
        exact ⟨_, rfl, TB.nil _, hF.out⟩
      case pos =>
        have hd : decide (l.getD (8 + sz) 0 ≠ 197) = false := decide_eq_false (fun h => h hx)
        rw [hd]
        clear hd
        have hs : T = (beN (bd.take 8), bd.drop 8, sz + 9) := by
          rw [hTv.out, if_neg]
          rintro (h | h)
          · exact h e8
          · exact h hx
        clear hTv hx e8
        obtain ⟨nm, hnm⟩ : ∃ nm, nm = beN (bd.take 8) := ⟨_, rfl⟩
        obtain ⟨pl, hpl⟩ : ∃ pl, pl = bd.drop 8 := ⟨_, rfl⟩
        have hpll : pl.length = sz - 8 := by rw [hpl, List.length_drop, hbl]
        rw [← hnm, ← hpl] at hs
        subst hs
        have hnmH : Hid (nm = beN (bd.take 8)) := hnm
        obtain ⟨A8, hA8⟩ : ∃ a, a = (if c - 4 = 8 then some (⟨g, o + 4, none⟩ : Addr) else (some (⟨g, o + 4, none⟩ : Addr)).map (·.add (8 * 1))) := ⟨_, rfl⟩
        have hp8w : Hid (Rw 1 encB w (.slice A8 (sz - 8) (c - 4 - 8)) pl) := by
          have h8 := rw_drop hbl.symm hybw.out 8 (by omega)
          rw [← hA8, ← hpl] at h8
          exact h8
        have hA8H : Hid (A8 = (if c - 4 = 8 then some (⟨g, o + 4, none⟩ : Addr) else (some (⟨g, o + 4, none⟩ : Addr)).map (·.add (8 * 1)))) := hA8
        clear hnm hpl hA8
        go_upto_region 15 with fail
        refine wp_normalG ?_
        refine wp_region_held_drew (S := fun w' => Below wo.heap.size wo w') (by kernel_rfl) (Below.refl _ _).drew (fun hS => ?_)
        change wpAnyH _ _ _ _ _ 11 (Array.replicate 11 false) _ _
        generalize hx : wo.drew = y1 at hS ⊢
        clear hx
        refine held_take 0 rfl (by kernel_rfl) (by kernel_rfl) (by kernel_rfl) (.slice (some ⟨g, o + 4, none⟩) sz (c - 4)) (fun _ _ _ h => nomatch h.1) (by kernel_rfl) (fun w' h => (by kernel_rfl)) hS ?_
        simp only [Act.put, fl1, fl2, fl3, fl4, fl5, fl6]
        refine held_take 3 rfl (by kernel_rfl) (by kernel_rfl) (by kernel_rfl) (.slice (some ⟨g, o + 4, none⟩) sz (c - 4)) (fun _ _ _ h => nomatch h.1) (by kernel_rfl) (fun w' h => (by kernel_rfl)) hS ?_
        simp only [Act.put, fl1, fl2, fl3, fl4, fl5, fl6]
        refine held_take 4 rfl (by kernel_rfl) (by kernel_rfl) (by kernel_rfl) (.slice A8 (sz - 8) (c - 4 - 8)) (fun _ _ _ h => nomatch h.1) (by kernel_rfl) (fun w' h => ((exec_fromS un22 sz22 _ _ rfl (some ⟨g, o + 4, none⟩) sz (c - 4) 8 (by kernel_rfl) (by kernel_rfl) (by omega) w').trans (by rw [← hA8H.out]))) hS ?_
        simp only [Act.put, fl1, fl2, fl3, fl4, fl5, fl6]
        refine held_take 6 rfl (by kernel_rfl) (by kernel_rfl) (by kernel_rfl) (.int .i64 (sz : Int)) (fun _ _ _ h => nomatch h.1) (by kernel_rfl) (fun w' h => (by kernel_rfl)) hS ?_
        simp only [Act.put, fl1, fl2, fl3, fl4, fl5, fl6]
        refine held_take 7 rfl (by kernel_rfl) (by kernel_rfl) (by kernel_rfl) (.int .i64 ((sz : Int) + 9)) (fun _ _ _ h => nomatch h.1) (by kernel_rfl) (fun w' h => (exec_add2 _ _ rfl _ _ (by kernel_rfl) (by kernel_rfl) (by omega) (by omega) _)) hS ?_
        simp only [Act.put, fl1, fl2, fl3, fl4, fl5, fl6]
        clear hA8H
        have hW0 : Hid (Below wo.heap.size wo y1) := hS
        clear hS
        have hZy1 : Hid (Below wo.heap.size wo y1) := hW0
        clear hW0
        refine held_both 1 2 rfl rfl (by kernel_rfl) (by kernel_rfl) (by kernel_rfl) ?oa ?ob
        case oa =>
          intro K hK
          refine wp_enter 50 #[.slice (some ⟨g, o + 4, none⟩) sz (c - 4), .int .i64 8] (by kernel_rfl) (R := fun v w' => v = .int .u64 (nm : Int) ∧ Below y1.heap.size y1 w') ?hcc1 ?_
          case hcc1 =>
            have h8 := rnum_calls bd hbb.out (some ⟨g, o + 4, none⟩) sz (c - 4) hbl.symm (by omega) 8 (by omega) (by decide) y1 (hybw.out.below (hBwo.out.trans (hZy1.out.mono hBwo.out.size)))
            rw [← hnmH.out] at h8
            exact h8.mono fun e w' h => ⟨_, h.1, rfl, h.2⟩
          rintro _ z1 ⟨rfl, hb⟩
          have hZz1 : Hid (Below wo.heap.size wo z1) := hZy1.out.trans (hb.mono hZy1.out.size)
          clear hb hZy1
          refine hK _ _ hZz1.out ?_
          clear hK
          simp only [Act.put, fl1, fl2, fl3, fl4, fl5, fl6]
          refine held_run 2 rfl (by kernel_rfl) (by kernel_rfl) (.slice (some ⟨z1.heap.size, 0, none⟩) 0 0) (z1.alloc (.cells #[] 5)) (by kernel_rfl) (hZz1.out.alloc hZz1.out.size _) ?_
          simp only [Act.put, fl1, fl2, fl3, fl4, fl5, fl6]
          generalize hX : z1.alloc (.cells #[] 5) = z2
          obtain ⟨E, hE⟩ : ∃ E, E = z1.heap.size := ⟨_, rfl⟩
          have hOz2 : Hid (z2.ownsRow wo.heap.size 5 1 (.slice (some ⟨E, 0, none⟩) 0 0) ([] : List Nat).length (vals ([] : List Nat))) := by
            rw [← hX, hE]; exact own_mono (World.ownsRow_made _ _ 0 (Nat.le_refl _) (by decide) rfl) hZz1.out.size
          have hZz2 : Hid (Below wo.heap.size wo z2) := by rw [← hX]; exact hZz1.out.alloc hZz1.out.size _
          rw [← hE]
          clear hX hE hZz1
          obtain ⟨va, z3, hea, hOa, hga⟩ := exec_append22' (w := z2) (.tmp 57) (.tmp 59) wo.heap.size (.slice (some ⟨E, 0, none⟩) 0 0) [] pl hOz2.out (.slice A8 (sz - 8) (c - 4 - 8)) (rw_bytes.1 (hp8w.out.below (hBwo.out.trans (hZz2.out.mono hBwo.out.size)))) (by simp; omega) hZz2.out.size
          have hZz3 : Hid (Below wo.heap.size wo z3) := hZz2.out.grown hga hZz2.out.size (fun q hq => (hOz2.out.lt q hq).1)
          rw [List.nil_append] at hOa
          have hOz3 : Hid (z3.ownsRow wo.heap.size 5 1 va pl.length (vals pl)) := hOa
          clear hga hOa hOz2 hZz2
          refine held_run 5 rfl (by kernel_rfl) (by kernel_rfl) va z3 (hea rfl (by kernel_rfl) (by kernel_rfl)) hZz3.out ?_
          clear hea
          simp only [Act.put, fl1, fl2, fl3, fl4, fl5, fl6]
          refine held_take 8 rfl (by kernel_rfl) (by kernel_rfl) (by kernel_rfl) (.int .u64 (nm : Int)) (fun _ _ _ h => nomatch h.1) (by kernel_rfl) (fun w' h => (by kernel_rfl)) hZz3.out ?_
          simp only [Act.put, fl1, fl2, fl3, fl4, fl5, fl6]
          refine held_take 9 rfl (by kernel_rfl) (by kernel_rfl) (by kernel_rfl) (va) (fun _ _ _ h => nomatch h.1) (by kernel_rfl) (fun w' h => (by kernel_rfl)) hZz3.out ?_
          simp only [Act.put, fl1, fl2, fl3, fl4, fl5, fl6]
          refine held_take 10 rfl (by kernel_rfl) (by kernel_rfl) (by kernel_rfl) (.int .i64 ((sz : Int) + 9)) (fun _ _ _ h => nomatch h.1) (by kernel_rfl) (fun w' h => (by kernel_rfl)) hZz3.out ?_
          simp only [Act.put, fl1, fl2, fl3, fl4, fl5, fl6]
          refine wpAnyH_done (by kernel_rfl) ?_ _
          refine ⟨rfl, ?_⟩
          rename_i hKK
          refine hKK _ _ ?_
          clear hKK
          have hF : Hid (Below w.heap.size w z3) := hBwo.out.trans (hZz3.out.mono hBwo.out.size)
          have hT9 : Hid (TB z3 va pl) := TB.own hOz3.out
          clear hBwo hZz3 hOz3 hybw hyw hbH hbb hSH hbdH hp8w hn'
          go_wp2_with fail
          go_ret3
          exact ⟨_, rfl, hT9.out, hF.out⟩
        case ob =>
          intro K hK
          refine wp_ran (.slice (some ⟨y1.heap.size, 0, none⟩) 0 0) (y1.alloc (.cells #[] 5)) (by kernel_rfl) ?_
          refine hK _ _ (hZy1.out.alloc hZy1.out.size _) ?_
          clear hK
          simp only [Act.put, fl1, fl2, fl3, fl4, fl5, fl6]
          generalize hX : y1.alloc (.cells #[] 5) = z1
          obtain ⟨E, hE⟩ : ∃ E, E = y1.heap.size := ⟨_, rfl⟩
          have hOz1 : Hid (z1.ownsRow wo.heap.size 5 1 (.slice (some ⟨E, 0, none⟩) 0 0) ([] : List Nat).length (vals ([] : List Nat))) := by
            rw [← hX, hE]; exact own_mono (World.ownsRow_made _ _ 0 (Nat.le_refl _) (by decide) rfl) hZy1.out.size
          have hZz1 : Hid (Below wo.heap.size wo z1) := by rw [← hX]; exact hZy1.out.alloc hZy1.out.size _
          rw [← hE]
          clear hX hE hZy1
          refine held_call 1 rfl (by kernel_rfl) (by kernel_rfl) 50 #[.slice (some ⟨g, o + 4, none⟩) sz (c - 4), .int .i64 8] (by kernel_rfl) (R := fun v w' => v = .int .u64 (nm : Int) ∧ Below z1.heap.size z1 w') ?hcc2 ?_
          case hcc2 =>
            have h8 := rnum_calls bd hbb.out (some ⟨g, o + 4, none⟩) sz (c - 4) hbl.symm (by omega) 8 (by omega) (by decide) z1 (hybw.out.below (hBwo.out.trans (hZz1.out.mono hBwo.out.size)))
            rw [← hnmH.out] at h8
            exact h8.mono fun e w' h => ⟨_, h.1, rfl, h.2⟩
          rintro _ z2 ⟨rfl, hb⟩
          have hZz2 : Hid (Below wo.heap.size wo z2) := hZz1.out.trans (hb.mono hZz1.out.size)
          have hOz2 : Hid (z2.ownsRow wo.heap.size 5 1 (.slice (some ⟨E, 0, none⟩) 0 0) ([] : List Nat).length (vals ([] : List Nat))) := own_keep hOz1.out (fun q hq => hb.block q (hOz1.out.lt q hq).2)
          clear hOz1
          clear hb hZz1
          refine ⟨hZz2.out, ?_⟩
          simp only [Act.put, fl1, fl2, fl3, fl4, fl5, fl6]
          obtain ⟨va, z3, hea, hOa, hga⟩ := exec_append22' (w := z2) (.tmp 57) (.tmp 59) wo.heap.size (.slice (some ⟨E, 0, none⟩) 0 0) [] pl hOz2.out (.slice A8 (sz - 8) (c - 4 - 8)) (rw_bytes.1 (hp8w.out.below (hBwo.out.trans (hZz2.out.mono hBwo.out.size)))) (by simp; omega) hZz2.out.size
          have hZz3 : Hid (Below wo.heap.size wo z3) := hZz2.out.grown hga hZz2.out.size (fun q hq => (hOz2.out.lt q hq).1)
          rw [List.nil_append] at hOa
          have hOz3 : Hid (z3.ownsRow wo.heap.size 5 1 va pl.length (vals pl)) := hOa
          clear hga hOa hOz2 hZz2
          refine held_run 5 rfl (by kernel_rfl) (by kernel_rfl) va z3 (hea rfl (by kernel_rfl) (by kernel_rfl)) hZz3.out ?_
          clear hea
          simp only [Act.put, fl1, fl2, fl3, fl4, fl5, fl6]
          refine held_take 8 rfl (by kernel_rfl) (by kernel_rfl) (by kernel_rfl) (.int .u64 (nm : Int)) (fun _ _ _ h => nomatch h.1) (by kernel_rfl) (fun w' h => (by kernel_rfl)) hZz3.out ?_
          simp only [Act.put, fl1, fl2, fl3, fl4, fl5, fl6]
          refine held_take 9 rfl (by kernel_rfl) (by kernel_rfl) (by kernel_rfl) (va) (fun _ _ _ h => nomatch h.1) (by kernel_rfl) (fun w' h => (by kernel_rfl)) hZz3.out ?_
          simp only [Act.put, fl1, fl2, fl3, fl4, fl5, fl6]
          refine held_take 10 rfl (by kernel_rfl) (by kernel_rfl) (by kernel_rfl) (.int .i64 ((sz : Int) + 9)) (fun _ _ _ h => nomatch h.1) (by kernel_rfl) (fun w' h => (by kernel_rfl)) hZz3.out ?_
          simp only [Act.put, fl1, fl2, fl3, fl4, fl5, fl6]
          refine wpAnyH_done (by kernel_rfl) ?_ _
          refine ⟨rfl, ?_⟩
          rename_i hKK
          refine hKK _ _ ?_
          clear hKK
          have hF : Hid (Below w.heap.size w z3) := hBwo.out.trans (hZz3.out.mono hBwo.out.size)
          have hT9 : Hid (TB z3 va pl) := TB.own hOz3.out
          clear hBwo hZz3 hOz3 hybw hyw hbH hbb hSH hbdH hp8w hn'
          go_wp2_with fail
          go_ret3
          exact ⟨_, rfl, hT9.out, hF.out⟩
end Go.Proofs.Ytdkaaieenbmihaa
namespace Go
/-- As Q; by a goto to label 1: A; to label 0: B. -/
def Exit.jmp (A B : Act → World → Prop) (Q : Exit → Act → World → Prop) : Exit → Act → World → Prop
  | .goto l, a, w => (l = 1 ∧ A a w) ∨ (l = 0 ∧ B a w)
  | e, a, w => Q e a w
section
variable {P : Program} {a : Act} {w : World} {Q : Exit → Act → World → Prop}
theorem Exit.jmp_mono {A A' B : Act → World → Prop} (h : ∀ a w, A a w → A' a w) : ∀ e a w, Exit.jmp A B Q e a w → Exit.jmp A' B Q e a w := by
  intro e a w hq
  cases e with
  | goto l =>
    rcases hq with ⟨h1, h2⟩ | h1
    · exact .inl ⟨h1, h _ _ h2⟩
    · exact .inr h1
  | normal => exact hq
  | exit id => exact hq
  | ret => exact hq
  | panic ch => exact hq
  | outgrown => exact hq
theorem wp_scope_loop_end {c x1 x0 : Code} (A B : Act → World → Prop) (μ : Act → World → Nat) (h1 : findLabel c 1 = some (Code.skip.seq x1)) (h0 : findLabel c 0 = some (Code.skip.seq x0))
    (pass1 : ∀ a w, A a w → x1.wp P (Exit.jmp (fun a' w' => A a' w' ∧ μ a' w' < μ a w) B Q) a w)
    (last0 : ∀ a w, B a w → x0.wp P (Exit.jmp (fun _ _ => False) (fun _ _ => False) Q) a w)
    (first : (∀ a w, A a w → x1.wp P (Exit.jmp A B Q) a w) → c.wp P (Exit.jmp A B Q) a w) : (Code.scope c).wp P Q a w := by
  have first := first fun a w h => Code.wp_mono (fun e a' w' => Exit.jmp_mono (fun _ _ hh => hh.1) e a' w') (pass1 a w h)
  have pass := fun a w (h : A a w) => wp_seq (wp_skip (P := P) (Q := Exit.then _ _) (pass1 a w h))
  have last := fun a w (h : B a w) => wp_seq (wp_skip (P := P) (Q := Exit.then _ _) (last0 a w h))
  intro b k cs
  have hg1 : gotoIn 1 (.inScope c :: k) = some (.code (Code.skip.seq x1) :: .inScope c :: k) := by simp [gotoIn, h1]
  have hg0 : gotoIn 0 (.inScope c :: k) = some (.code (Code.skip.seq x0) :: .inScope c :: k) := by simp [gotoIn, h0]
  have fin : ∀ a w, B a w → ∃ e a' w', Q e a' w' ∧ Arrives P (lone (b.at a (.code (Code.skip.seq x0) :: .inScope c :: k)) cs w) b k cs e a' w' := by
    intro a w hB
    obtain ⟨e, a₁, w₁, hq, harr⟩ := last a w hB b (.inScope c :: k) cs
    cases e with
    | normal => exact ⟨.normal, a₁, w₁, hq, Steps.trans harr (.one step_inScope)⟩
    | exit id => exact ⟨.exit id, a₁, w₁, hq, fun k' hk => harr k' (by simp [exitTo, hk])⟩
    | goto l' => rcases hq with ⟨_, hq⟩ | ⟨_, hq⟩ <;> exact hq.elim
    | ret => exact ⟨_, a₁, w₁, hq, harr⟩
    | panic ch => exact ⟨_, a₁, w₁, hq, harr⟩
    | outgrown => exact ⟨_, a₁, w₁, hq, harr⟩
  have key : ∀ n a w, μ a w = n → A a w → ∃ e a' w', Q e a' w' ∧ Arrives P (lone (b.at a (.code (Code.skip.seq x1) :: .inScope c :: k)) cs w) b k cs e a' w' := by
    intro n
    induction n using Nat.strongRecOn with
    | _ n ih =>
      intro a w hn hJ
      obtain ⟨e, a₁, w₁, hq, harr⟩ := pass a w hJ b (.inScope c :: k) cs
      cases e with
      | normal => exact ⟨.normal, a₁, w₁, hq, Steps.trans harr (.one step_inScope)⟩
      | exit id => exact ⟨.exit id, a₁, w₁, hq, fun k' hk => harr k' (by simp [exitTo, hk])⟩
      | goto l' =>
        rcases hq with ⟨rfl, hJ', hlt⟩ | ⟨rfl, hB⟩
        · obtain ⟨e₂, a₂, w₂, hq₂, harr₂⟩ := ih _ (by omega) a₁ w₁ rfl hJ'
          exact ⟨e₂, a₂, w₂, hq₂, .of_steps (harr _ hg1) harr₂⟩
        · obtain ⟨e₂, a₂, w₂, hq₂, harr₂⟩ := fin a₁ w₁ hB
          exact ⟨e₂, a₂, w₂, hq₂, .of_steps (harr _ hg0) harr₂⟩
      | ret => exact ⟨_, a₁, w₁, hq, harr⟩
      | panic ch => exact ⟨_, a₁, w₁, hq, harr⟩
      | outgrown => exact ⟨_, a₁, w₁, hq, harr⟩
  obtain ⟨e, a₁, w₁, hq, harr⟩ := first b (.inScope c :: k) cs
  cases e with
  | normal => exact ⟨.normal, a₁, w₁, hq, .head step_scope (Steps.trans harr (.one step_inScope))⟩
  | exit id => exact ⟨.exit id, a₁, w₁, hq, fun k' hk => .head step_scope (harr k' (by simp [exitTo, hk]))⟩
  | goto l' =>
    rcases hq with ⟨rfl, hJ'⟩ | ⟨rfl, hB⟩
    · obtain ⟨e₂, a₂, w₂, hq₂, harr₂⟩ := key _ a₁ w₁ rfl hJ'
      exact ⟨e₂, a₂, w₂, hq₂, .of_steps (.head step_scope (harr _ hg1)) harr₂⟩
    · obtain ⟨e₂, a₂, w₂, hq₂, harr₂⟩ := fin a₁ w₁ hB
      exact ⟨e₂, a₂, w₂, hq₂, .of_steps (.head step_scope (harr _ hg0)) harr₂⟩
  | ret => exact ⟨_, a₁, w₁, hq, .of_steps (.one step_scope) harr⟩
  | panic ch => exact ⟨_, a₁, w₁, hq, .of_steps (.one step_scope) harr⟩
  | outgrown => exact ⟨_, a₁, w₁, hq, .of_steps (.one step_scope) harr⟩
theorem jmp_split {c : Code} {A B : Act → World → Prop} (h : ∀ Q2 : Exit → Act → World → Prop, (∀ a w, A a w → Q2 (.goto 1) a w) → (∀ a w, B a w → Q2 (.goto 0) a w) → c.wp P Q2 a w) : c.wp P (Exit.jmp A B Q) a w :=
  h _ (fun _ _ h => .inl ⟨rfl, h⟩) (fun _ _ h => .inr ⟨rfl, h⟩)
end
end Go
namespace Go.Proofs.Ytdkaaieenbmihaa
open Go.RowKit
open Sha (vals Bytes Lies bytesC sumB)
/-- All cells of a row's block are slices. -/
def SLs (w : World) (v : Value) : Prop := ∀ q, v.ownBlock = some q → ∃ cs, w.heap[q]? = some (.cells cs 22 (0, 0)) ∧ ∀ x ∈ cs.toList, ∃ A n c, x = Value.slice A n c
theorem SLs.nil (w : World) : SLs w (.slice none 0 0) := fun q hq => by simp [Value.ownBlock] at hq
theorem SLs.keep {w w' : World} {v : Value} (h : SLs w v) (hb : ∀ q, v.ownBlock = some q → w'.heap[q]? = w.heap[q]?) : SLs w' v := fun q hq => by
  obtain ⟨cs, h1, h2⟩ := h q hq
  exact ⟨cs, (hb q hq).trans h1, h2⟩
/-- A list of payloads whose row is the call's own. -/
def PLo (w : World) (base : Nat) (v : Value) (ps : List (List Nat)) : Prop :=
  ∃ us : List SLV, (w.ownsRow base 22 1 v us.length (flat encV us) ∧ SLs w v) ∧ us.length = ps.length ∧ ∀ i, i < ps.length → TB w (us.getD i default).v (ps.getD i default)
theorem PLo.nil (w : World) (base : Nat) : PLo w base (.slice none 0 0) [] := ⟨[], ⟨World.ownsRow_nil _ _ _ _, SLs.nil _⟩, rfl, fun i h => by simp at h⟩
theorem PLo.below {w w' : World} {base : Nat} {v : Value} {ps : List (List Nat)} (h : PLo w base v ps) (hb : Below w.heap.size w w') : PLo w' base v ps := by
  obtain ⟨us, h1, h2, h3⟩ := h
  exact ⟨us, ⟨own_keep h1.1 (fun q hq => hb.block q (h1.1.lt q hq).2), h1.2.keep (fun q hq => hb.block q (h1.1.lt q hq).2)⟩, h2, fun i hi => (h3 i hi).below hb⟩
theorem PLo.mono {w : World} {base base' : Nat} {v : Value} {ps : List (List Nat)} (h : PLo w base v ps) (hb : base' ≤ base) : PLo w base' v ps := by
  obtain ⟨us, h1, h2⟩ := h
  exact ⟨us, ⟨own_mono h1.1 hb, h1.2⟩, h2⟩
theorem PLo.lt {w : World} {base : Nat} {v : Value} {ps : List (List Nat)} (h : PLo w base v ps) : ∀ q, v.ownBlock = some q → base ≤ q ∧ q < w.heap.size := by
  obtain ⟨us, h1, _⟩ := h
  exact h1.1.lt
theorem PLo.read {w : World} {base : Nat} {v : Value} {ps : List (List Nat)} (h : PLo w base v ps) : PLr w v ps := by
  obtain ⟨us, h1, h2, h3⟩ := h
  exact ⟨us, Rw.own encV_size (by decide) h1.1, h2, fun i hi => (h3 i hi).1⟩
theorem PLo.form {w : World} {base : Nat} {v : Value} {ps : List (List Nat)} (h : PLo w base v ps) : ∃ A c, v = .slice A ps.length c := h.read.form
/-- A block of another kind than a list's row. -/
theorem PLo.kind {w : World} {base d : Nat} {v : Value} {ps : List (List Nat)} {t : TypeId} {cs : Array Value} {fr : Nat × Nat} (h : PLo w base v ps) (hd : w.heap[d]? = some (.cells cs t fr)) (hne : 22 ≠ t) : some d ≠ v.ownBlock := by
  obtain ⟨us, h1, _⟩ := h
  exact own_kind h1.1 hd hne
theorem TB.grown {w w' : World} {u : Value} {p : List Nat} {row : Option Nat} (h : TB w u p) (hg : w.grownBy w' row) (hr : ∀ q, row = some q → ∀ cs fr, w.heap[q]? ≠ some (.cells cs 5 fr)) : TB w' u p := by
  have hb : ∀ q, u.ownBlock = some q → w'.heap[q]? = w.heap[q]? := fun q hq => by
    obtain ⟨cs, fr, hc⟩ := h.2 q hq
    exact hg.block q (Array.getElem?_eq_some_iff.1 hc).1 (fun e => hr q e.symm cs fr hc)
  refine ⟨h.1.kept hg.size (fun _ q hq => hb q hq), fun q hq => ?_⟩
  obtain ⟨cs, fr, hc⟩ := h.2 q hq
  exact ⟨cs, fr, (hb q hq).trans hc⟩
theorem own_row22 {w : World} {base n : Nat} {v : Value} {xs : List Value} (h : w.ownsRow base 22 1 v n xs) : ∀ q, v.ownBlock = some q → ∀ cs fr, w.heap[q]? ≠ some (.cells cs 5 fr) := fun q hq cs fr hc =>
  own_kind h hc (by decide) hq.symm
theorem inf22 : (Try.prog.info? 22).map (fun i => (i.zero, i.size, i.bytes)) = some (some (.slice none 0 0), 1, 24) := by kernel_rfl
/-- Where an appended row lies, and that its cells are slices. -/
theorem app_sl {w w' : World} {base : Nat} {v v' : Value} {us xs : List SLV} {ad : Addr} {c : Nat} (hu : w.ownsRow base 22 1 v us.length (flat encV us)) (hS : SLs w v)
    (hnews : ∀ j u, (flat encV xs)[j]? = some u → w.cell? (ad.add j) = some u) (hlen : us.length + xs.length ≤ 1000000000)
    (h1 : (Builtin.append_ #[30, 30] 30 #[v, .slice (some ad) xs.length c]).run Try.prog w = .ok v' w') : SLs w' v' ∧ (v'.ownBlock = v.ownBlock ∨ v'.ownBlock = some w.heap.size) := by
  obtain ⟨i5, hi5, hz0, hz1, hz2⟩ := info_parts inf22
  have hxl : (flat encV xs).length = xs.length * i5.size := by rw [flat_len encV_size, hz1]
  have sl : ∀ (l : List SLV) (x : Value), x ∈ flat encV l → ∃ A n c, x = Value.slice A n c := fun l x hx => by
    simp only [flat, List.mem_flatMap] at hx
    obtain ⟨s, _, hx⟩ := hx
    simp [encV, SLV.v] at hx
    exact ⟨_, _, _, hx⟩
  have zr : ∀ (k : Nat) (x : Value), x ∈ (Builtin.zeroCells (Value.slice none 0 0).cells k).toList → ∃ A n c, x = Value.slice A n c := fun k x hx => by
    have hx2 : x = .slice none 0 0 := by
      simp [Builtin.zeroCells, Value.cells, Nat.mod_one] at hx
      obtain ⟨_, h⟩ := hx
      exact h.symm
    exact ⟨_, _, _, hx2⟩
  have fresh : ∀ (cells : Array Value), (∀ x ∈ cells.toList, ∃ A n c, x = Value.slice A n c) → ∀ n k, SLs (w.drew.alloc (.cells cells 22)) (.slice (some ⟨w.heap.size, 0, none⟩) n k) := fun cells hc n k q hq => by
    simp [Value.ownBlock] at hq
    subst hq
    exact ⟨cells, heap_alloc_new w.drew _, hc⟩
  rcases hu.2 with ⟨rfl, h0⟩ | ⟨g, cap, cur, rfl, hbg, hg, hnc, hcm, hcs, htake⟩
  · by_cases hm : xs.length = 0
    · have hx : xs = [] := List.eq_nil_of_length_eq_zero hm
      subst hx
      have hr : (Builtin.append_ #[30, 30] 30 #[.slice none 0 0, .slice (some ad) ([] : List SLV).length c]).run Try.prog w = .ok (.slice none 0 0) w := by
        simp [Builtin.append_, run_underlying Try.underlying30, sizeOf, typeInfo, hi5, Builtin.lenOf, Builtin.firstCells, loadCells, loadCellsFrom]
      rw [hr] at h1
      injection h1 with h2 h3
      subst h2 h3
      exact ⟨SLs.nil _, .inl rfl⟩
    · have hr := run_append_nil (P := Try.prog) w 30 30 22 i5 (.slice none 0 0) Try.underlying30 hi5 hz0 ad xs.length c (flat encV xs) hxl hnews (by omega) (by omega) (by rw [hz2]; omega)
      rw [hr] at h1
      injection h1 with h2 h3
      subst h2 h3
      refine ⟨fresh _ (fun x hx => ?_) _ _, .inr rfl⟩
      rw [Array.toList_append, List.mem_append] at hx
      rcases hx with hx | hx
      · exact sl xs x (by simpa using hx)
      · exact zr _ x hx
  · have hcur : ∀ x ∈ cur.toList, ∃ A n c, x = Value.slice A n c := by
      obtain ⟨cs, h2, h3⟩ := hS g rfl
      rw [hg] at h2
      injection h2 with h2
      injection h2 with h2
      subst h2
      exact h3
    by_cases hroom : us.length + xs.length ≤ cap
    · have hfit : us.length * i5.size + (flat encV xs).length ≤ cur.size := by rw [hxl, hz1, hcs]; omega
      have hr := run_append_room (P := Try.prog) w 30 30 22 i5 Try.underlying30 hi5 g us.length cap cur hg ad xs.length c (flat encV xs) hxl hnews (flat_one encV_one xs) hroom hfit
      rw [hr] at h1
      injection h1 with h2 h3
      subst h2 h3
      refine ⟨fun q hq => ?_, .inl rfl⟩
      simp [Value.ownBlock] at hq
      subst hq
      refine ⟨_, setRow_heap w g cur _ 22 _ hg, fun x hx => ?_⟩
      simp only [List.mem_append] at hx
      rcases hx with (hx | hx) | hx
      · exact hcur x (List.mem_of_mem_take hx)
      · exact sl xs x hx
      · exact hcur x (List.mem_of_mem_drop hx)
    · have holds : ∀ j u, (flat encV us)[j]? = some u → w.cell? ((⟨g, 0, none⟩ : Addr).add j) = some u := hu.cells (g := g) rfl
      have hr := run_append_grow (P := Try.prog) w 30 30 22 i5 (.slice none 0 0) Try.underlying30 hi5 hz0 ⟨g, 0, none⟩ us.length cap (flat encV us) (by rw [flat_len encV_size, hz1]) holds ad xs.length c (flat encV xs) hxl hnews (by omega) (by omega) (growslice_fits (by omega) (by rw [hz2]; omega))
      rw [hr] at h1
      injection h1 with h2 h3
      subst h2 h3
      refine ⟨fresh _ (fun x hx => ?_) _ _, .inr rfl⟩
      rw [Array.toList_append, List.mem_append, Array.toList_append, List.mem_append] at hx
      rcases hx with (hx | hx) | hx
      · exact sl us x (by simpa using hx)
      · exact sl xs x (by simpa using hx)
      · exact zr _ x hx
theorem exec_appP {w : World} (s x : Operand) (base : Nat) (v : Value) (ps qs : List (List Nat)) (hown : PLo w base v ps) (y : Value) (xs : List SLV) (hy : Rw 1 encV w y xs) (hxl : xs.length = qs.length) (hxs : ∀ i, i < qs.length → TB w (xs.getD i default).v (qs.getD i default))
    (hlen : ps.length + qs.length ≤ 1000000000) (hbase : base ≤ w.heap.size) :
    ∃ v' w', (∀ {o : Oper} {a : Act}, o.op = .call { callee := .builtin .append, args := #[s, x], argTypes := #[30, 30] } → a.eval s = v → a.eval x = y → (execOp a.eval o).run Try.prog w = .ok (.value v') w') ∧ PLo w' base v' (ps ++ qs) ∧ w.grownBy w' v.ownBlock ∧ (v'.ownBlock = v.ownBlock ∨ v'.ownBlock = some w.heap.size) := by
  obtain ⟨i5, hi5, hz0, hz1, hz2⟩ := info_parts inf22
  obtain ⟨us, ⟨hu, hS⟩, hul, hue⟩ := hown
  have fin : ∀ {v' w'}, w'.ownsRow base 22 1 v' (us ++ xs).length (flat encV (us ++ xs)) → SLs w' v' → w.grownBy w' v.ownBlock → PLo w' base v' (ps ++ qs) := fun {v' w'} ho hs hg => by
    refine ⟨us ++ xs, ⟨ho, hs⟩, by simp [hul, hxl], fun i hi => ?_⟩
    by_cases h : i < ps.length
    · have e1 : (us ++ xs).getD i default = us.getD i default := by simp [List.getD_eq_getElem?_getD, List.getElem?_append_left (show i < us.length by omega)]
      have e2 : (ps ++ qs).getD i default = ps.getD i default := by simp [List.getD_eq_getElem?_getD, List.getElem?_append_left h]
      rw [e1, e2]
      exact (hue i h).grown hg (own_row22 hu)
    · have e1 : (us ++ xs).getD i default = xs.getD (i - ps.length) default := by simp [List.getD_eq_getElem?_getD, List.getElem?_append_right (show us.length ≤ i by omega), hul]
      have e2 : (ps ++ qs).getD i default = qs.getD (i - ps.length) default := by simp [List.getD_eq_getElem?_getD, List.getElem?_append_right (show ps.length ≤ i by omega)]
      rw [e1, e2]
      exact (hxs _ (by simp at hi; omega)).grown hg (own_row22 hu)
  rcases hy with ⟨A, c, rfl, rfl, hA⟩ | ⟨g, off, c, rfl, hc, hg, hl⟩
  · cases A with
    | none =>
      have hA := hA rfl
      subst hA
      refine ⟨v, w, fun {o a} ho hs hx => ?_, fin (by simpa using hu) hS (grownBy_refl _ _), grownBy_refl _ _, .inl rfl⟩
      have hrun := run_append_owned_none (P := Try.prog) (w := w) base 30 o.type 22 i5 1 Try.underlying30 hi5 v us.length (flat encV us) hu
      simp [execOp, ho, resolve, invoke, builtin, hs, hx, hrun, Result.andThen]
    | some ad =>
      obtain ⟨v', w', h1, h2, h3, h4⟩ := run_append_own (P := Try.prog) w base 30 30 22 i5 (.slice none 0 0) 1 24 Try.underlying30 hi5 hz0 hz1 hz2 rfl (by decide) v us.length (flat encV us) hu ad 0 c [] rfl (fun j u hu => by simp at hu) (fun u hu => by simp at hu) (by unfold maxLen; omega) (by omega) hbase
      have hq := app_sl (xs := []) hu hS (fun j u hu => by simp [flat] at hu) (by simpa using (by omega : us.length ≤ 1000000000)) h1
      refine ⟨v', w', fun {o a} ho hs hx => ?_, fin (by simpa using h2) hq.1 h3, h3, hq.2⟩
      have h1' : (Builtin.append_ #[30, 30] o.type #[v, .slice (some ad) 0 c]).run Try.prog w = .ok v' w' := h1
      simp [execOp, ho, resolve, invoke, builtin, hs, hx, h1', Result.andThen]
  · obtain ⟨v', w', h1, h2, h3, h4⟩ := run_append_own (P := Try.prog) w base 30 30 22 i5 (.slice none 0 0) 1 24 Try.underlying30 hi5 hz0 hz1 hz2 rfl (by decide) v us.length (flat encV us) hu ⟨g, off, none⟩ xs.length c (flat encV xs) (flat_len encV_size xs) (Rw.cells encV_size hl) (flat_one encV_one xs) (by unfold maxLen; omega) (by omega) hbase
    have hq := app_sl hu hS (Rw.cells encV_size hl) (by omega) h1
    refine ⟨v', w', fun {o a} ho hs hx => ?_, fin (by rw [List.length_append, flat_app]; exact h2) hq.1 h3, h3, hq.2⟩
    have h1' : (Builtin.append_ #[30, 30] o.type #[v, .slice (some ⟨g, off, none⟩) xs.length c]).run Try.prog w = .ok v' w' := h1
    simp [execOp, ho, resolve, invoke, builtin, hs, hx, h1', Result.andThen]
/-- One payload behind a list. -/
theorem exec_appP1 {w : World} (s x : Operand) (base : Nat) (v : Value) (ps : List (List Nat)) (p : List Nat) (hown : PLo w base v ps) (E : Nat) (u : Value) (A : Option Addr) (n c : Nat) (hu : u = .slice A n c) (hE : w.heap[E]? = some (.cells #[u] 22 (0, 0))) (ht : TB w u p)
    (hlen : ps.length + 1 ≤ 1000000000) (hbase : base ≤ w.heap.size) :
    ∃ v' w', (∀ {o : Oper} {a : Act}, o.op = .call { callee := .builtin .append, args := #[s, x], argTypes := #[30, 30] } → a.eval s = v → a.eval x = .slice (some ⟨E, 0, none⟩) 1 1 → (execOp a.eval o).run Try.prog w = .ok (.value v') w') ∧ PLo w' base v' (ps ++ [p]) ∧ w.grownBy w' v.ownBlock ∧ (v'.ownBlock = v.ownBlock ∨ v'.ownBlock = some w.heap.size) := by
  subst hu
  exact exec_appP s x base v ps [p] hown (.slice (some ⟨E, 0, none⟩) 1 1) [⟨A, n, c⟩] (rw_one (enc := encV) ⟨A, n, c⟩ hE) rfl (fun i hi => by
    obtain rfl : i = 0 := by simpa using hi
    exact ht) hlen hbase
/-- Any other block written. -/
theorem PLo.kept {w w' : World} {base : Nat} {v : Value} {ps : List (List Nat)} {D : Nat} {cs : Array Value} {t : TypeId} {fr : Nat × Nat} (h : PLo w base v ps) (hD : w.heap[D]? = some (.cells cs t fr)) (h5 : 5 ≠ t) (h22 : 22 ≠ t) (hg : w.grownBy w' (some D)) : PLo w' base v ps := by
  obtain ⟨us, h1, h2, h3⟩ := h
  have hb : ∀ q, v.ownBlock = some q → w'.heap[q]? = w.heap[q]? := fun q hq => hg.block q (h1.1.lt q hq).2 (fun e => own_kind h1.1 hD h22 (by rw [← e, hq]))
  refine ⟨us, ⟨own_keep h1.1 hb, h1.2.keep hb⟩, h2, fun i hi => (h3 i hi).grown hg fun q hq cs' fr' hc => ?_⟩
  injection hq with hq
  subst hq
  rw [hD] at hc
  injection hc with hc
  injection hc with _ hc _
  exact h5 hc.symm
theorem grown_setRow (w : World) (D : Nat) (cs : Array Value) : w.grownBy (w.setRow D cs) (some D) :=
  ⟨rfl, rfl, rfl, by rw [size_setRow]; exact Nat.le_refl _, fun j hj hne => by
    simp only [World.setRow, Array.getElem?_modify]
    rw [if_neg (fun e => hne (by rw [e]))]⟩
section
variable {o : Oper} {a : Act} {w : World}
theorem exec_lssU (t : TypeId) (x y : Operand) (ho : o.op = .binOp .lss t x y t) (u v : Int) (hx : a.eval x = .int .u64 u) (hy : a.eval y = .int .u64 v) (b : Bool) (hb : decide (u < v) = b) : (execOp a.eval o).run Try.prog w = .ok (.value (.bool b)) w := by
  subst hb; unfold execOp
  simp [ho, hx, hy, eqGuard, binOp_lss]
theorem exec_gtrU (t : TypeId) (x y : Operand) (ho : o.op = .binOp .gtr t x y t) (u v : Int) (hx : a.eval x = .int .u64 u) (hy : a.eval y = .int .u64 v) (b : Bool) (hb : decide (v < u) = b) : (execOp a.eval o).run Try.prog w = .ok (.value (.bool b)) w := by
  subst hb; unfold execOp
  simp [ho, hx, hy, eqGuard, binOp_gtr]
theorem exec_neU (t : TypeId) (x y : Operand) (ho : o.op = .binOp .neq t x y t) (u v : Int) (hx : a.eval x = .int .u64 u) (hy : a.eval y = .int .u64 v) (b : Bool) (hb : (u != v) = b) : (execOp a.eval o).run Try.prog w = .ok (.value (.bool b)) w := by
  subst hb; unfold execOp
  simp [ho, hx, hy, eqGuard, binOp_neq]
theorem exec_sub2 (x y : Operand) (ho : o.op = .binOp .sub 3 x y 3) (u v : Int) (hx : a.eval x = .int .i64 u) (hy : a.eval y = .int .i64 v) (h0 : -9223372036854775808 ≤ u - v) (h1 : u - v ≤ 9223372036854775807) : (execOp a.eval o).run Try.prog w = .ok (.value (.int .i64 (u - v))) w := by
  unfold execOp
  have hw : IntKind.i64.wrap (u - v) = u - v := by rw [IntKind.wrap_i64]; omega
  simp [ho, hx, hy, eqGuard, binOp_sub, Op.intArith, hw]
theorem exec_addU (x y : Operand) (ho : o.op = .binOp .add 37 x y 37) (u v : Int) (hx : a.eval x = .int .u64 u) (hy : a.eval y = .int .u64 v) (h0 : 0 ≤ u + v) (h1 : u + v < 18446744073709551616) : (execOp a.eval o).run Try.prog w = .ok (.value (.int .u64 (u + v))) w := by
  unfold execOp
  have hw : IntKind.u64.wrap (u + v) = u + v := by rw [IntKind.wrap_u64]; omega
  simp [ho, hx, hy, eqGuard, binOp_add, Op.intArith, hw]
end
/-- clip keeps the block. -/
theorem clipT_calls (l : List Nat) (v : Value) (w : World) (hn9 : l.length ≤ 1000000000) (hy : TB w v l) :
    Calls Try.prog 26 #[v] w fun e w' => ∃ v, e = .returned v ∧ TB w' v l ∧ Below w.heap.size w w' := by
  obtain ⟨A, c, rfl⟩ := hy.1.form
  obtain ⟨n, hn⟩ : ∃ n, n = l.length := ⟨_, rfl⟩
  rw [← hn] at hy ⊢
  obtain ⟨hc, hy2⟩ := clip_rw hn hy.1
  have hT : TB w (.slice (if n = 0 then A else A.map (·.add 0)) n n) l := ⟨hy2, fun q hq => hy.2 q (by
    cases A with
    | none => split at hq <;> simp [Value.ownBlock] at hq
    | some ad =>
      split at hq
      · exact hq
      · simpa [Value.ownBlock, Addr.add] using hq)⟩
  clear hy hy2 hn
  go_enter Try.func26, Try.ntmps26
  go_upto_region 1 with fail
  refine wp_region_lit ?_
  refine sl_run rfl (.slice A n c) w (by kernel_rfl) ?_
  simp only [Act.put, fl1, fl2, fl3]
  refine sl_run rfl (.slice A n c) w (by kernel_rfl) ?_
  simp only [Act.put, fl1, fl2, fl3]
  refine sl_run rfl (.int .i64 n) w (by kernel_rfl) ?_
  simp only [Act.put, fl1, fl2, fl3]
  refine sl_run rfl (.slice A n c) w (by kernel_rfl) ?_
  simp only [Act.put, fl1, fl2, fl3]
  refine sl_run rfl (.int .i64 n) w (by kernel_rfl) ?_
  simp only [Act.put, fl1, fl2, fl3]
  refine sl_run rfl _ w (exec_clip un30 sz30 _ _ _ rfl A n c (by kernel_rfl) (by kernel_rfl) (by kernel_rfl) hc w) ?_
  generalize (if n = 0 then A else A.map (·.add 0)) = A2 at hT ⊢
  simp only [Act.put, fl1, fl2, fl3]
  refine sl_run rfl (.slice A2 n n) w (by kernel_rfl) ?_
  simp only [Act.put, fl1, fl2, fl3]
  refine wpList_nil ?_
  go_wp2_with fail
  go_ret
  exact ⟨_, rfl, hT, Below.refl _ _⟩
end Go.Proofs.Ytdkaaieenbmihaa
