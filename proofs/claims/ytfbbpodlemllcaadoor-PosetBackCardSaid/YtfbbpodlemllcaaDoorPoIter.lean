/-
  Orders: a mask's bits, one by one: the iterator's contract.
-/
import Derived.Test.YtfbbpodlemllcaaDoorPoBase
import Derived.RangeFuncNested
import Derived.RangeFuncBound
import Derived.RangeFuncCalls
import Derived.RangeFuncLeaves
import Derived.RangeFuncFrom
import Derived.Shelf.Abstract
import Derived.Shelf.RegionOpen
import Derived.OwnWalkIn
import Derived.TacticsInMore
import Derived.LoopNIn
import Derived.LoopIn
namespace Go.Proofs.YtfbbpodlemllcaaDoor
open Go.RowKit Go.Shelf
set_option linter.unusedVariables false
set_option linter.unusedSimpArgs false
set_option pp.maxSteps 50000
attribute [local go_sem] Oper.semAt_some
/-- A mask's bits, rising. -/
def bl (m : Nat) : List Nat := (List.range 64).filter fun j => m.testBit j
theorem filter_first {f g : Nat → Bool} {n t : Nat} (ht : t < n) (hf : f t = true) (h0 : ∀ j, j < t → f j = false) (hg0 : ∀ j, j ≤ t → g j = false) (hg : ∀ j, t < j → g j = f j) : (List.range n).filter f = t :: (List.range n).filter g := by
  obtain ⟨d, rfl⟩ : ∃ d, n = t + (1 + d) := ⟨n - t - 1, by omega⟩
  have e : List.range (t + (1 + d)) = List.range t ++ (t :: (List.range d).map (fun x => t + 1 + x)) := by
    rw [List.range_add, List.range_add]
    simp [Function.comp_def, Nat.add_assoc, Nat.add_comm, Nat.add_left_comm]
  have h1 : (List.range t).filter f = [] := List.filter_eq_nil_iff.2 fun j hj => by rw [h0 j (List.mem_range.1 hj)]; decide
  have h2 : (List.range t).filter g = [] := List.filter_eq_nil_iff.2 fun j hj => by rw [hg0 j (by have := List.mem_range.1 hj; omega)]; decide
  have h3 : ((List.range d).map (fun x => t + 1 + x)).filter f = ((List.range d).map (fun x => t + 1 + x)).filter g := List.filter_congr fun j hj => by
    obtain ⟨x, _, rfl⟩ := List.mem_map.1 hj
    exact (hg _ (by omega)).symm
  rw [e, List.filter_append, List.filter_append, h1, h2, List.filter_cons, List.filter_cons, hf, hg0 t (Nat.le_refl _), h3]
  simp
/-- The next mask: its lowest bit is gone. -/
theorem next_mask {t q m : Nat} (hmm : m = 2 ^ t * (2 * q + 1)) (hm : m < 18446744073709551616) : bl m = t :: bl (m &&& (m - 1)) ∧ m &&& (m - 1) < m ∧ t < 64 ∧ m.testBit t = true ∧ ∀ j, (m &&& (m - 1)).testBit j = true → m.testBit j = true := by
  have hl := low_lt (t := t) (q := q) (by rw [← hmm]; exact hm)
  have hlow := tb_low t q
  have hpred := tb_pred t q
  rw [← hmm] at hlow hpred
  have h1 : m.testBit t = true := by rw [hlow]; simp
  have hm0 : 0 < m := by rw [hmm]; exact Nat.mul_pos (Nat.two_pow_pos t) (by omega)
  refine ⟨filter_first hl h1 (fun j hj => ?_) (fun j hj => ?_) (fun j hj => ?_), ?_, hl, h1, fun j hj => ?_⟩
  · have : ¬ t ≤ j := by omega
    rw [hlow]; simp [this]
  · rw [Nat.testBit_and, hpred]
    rcases Nat.lt_or_eq_of_le hj with h | rfl
    · have : ¬ t ≤ j := by omega
      rw [hlow]; simp [this]
    · simp
  · rw [Nat.testBit_and, hpred, if_neg (by omega), if_neg (by omega), Bool.and_self]
  · have := @Nat.and_le_right m (m - 1); omega
  · rw [Nat.testBit_and, Bool.and_eq_true] at hj; exact hj.1
theorem bl_zero : bl 0 = [] := by simp [bl]
theorem bl_len (m : Nat) : (bl m).length ≤ 64 := Nat.le_trans (List.length_filter_le _ _) (by simp)
/-- One of a mask's bits. -/
abbrev BitOf (m : Nat) := { b : Nat // b < 64 ∧ m.testBit b = true }
def encB {m : Nat} (x : BitOf m) : Array Value := #[.int .i64 (x.1 : Int)]
set_option maxRecDepth 100000 in
set_option maxHeartbeats 2000000 in
theorem bits_stops (n : Nat) (hn : 2 ≤ n) (m B n₀ : Nat) (hm : m < 18446744073709551616) (w : World) (hn0 : 0 < n₀) (hn1 : n₀ ≤ w.heap.size) (hB : w.cell? ⟨B, 0, none⟩ = some (.int .u64 (m : Int))) (hBl : B < w.heap.size) (ht : Tab w) :
    SeqStopsK Fence.wide n Tryd.prog 33 #[.pointer (some ⟨B, 0, none⟩)] (encB (m := m)) (Below n₀) (fun xs => xs.map (·.1) = bl m) (fun pre => pre.map (·.1) <+: bl m) 64 w := fun l J Jx W hW hJ hJx hY h0 => by
  have hBW : W.cell? ⟨B, 0, none⟩ = some (.int .u64 (m : Int)) := by rw [hW.cell (by exact hBl)]; exact hB
  have htW : Tab W := ht.below (by omega) hW
  refine callsIn_of_wp Tryd.func33 rfl trivial ?_ rfl
  simp only [Tryd.ntmps33, List.size_toArray, List.length_cons, List.length_nil, Nat.reduceAdd, Nat.reduceSub, Array.replicate_succ, Array.replicate_zero, List.push_toArray, List.append_toArray, List.nil_append, List.cons_append]
  gi_wp2
  gi_loopw [3] (fun p wr => ∃ (pre : List (BitOf m)) (cur : Nat), p = .int .u64 (cur : Int) ∧ cur < 18446744073709551616 ∧ Hid (bl m = pre.map (·.1) ++ bl cur) ∧ Hid (∀ j, cur.testBit j = true → m.testBit j = true) ∧ J pre wr ∧ Hid (Tab wr)) (fun p _ => (intOf p).toNat)
  case atStart => exact ⟨[], m, rfl, hm, rfl, fun j h => h, h0, htW⟩
  case round =>
    obtain ⟨pre, cur, rfl, hc, hbl, hsub, hJs, htr⟩ := hrel
    by_cases hz : cur = 0
    · subst hz
      gi_wp2
      go_end0
      exact ⟨⟨_, rfl⟩, .inl ⟨pre, by rw [hbl.out, bl_zero, List.append_nil], hJs⟩⟩
    · obtain ⟨t, q, hq⟩ := low_split cur hz
      obtain ⟨hnb, hnl, ht64, htb, hns⟩ := next_mask hq hc
      have hcI : ((cur : Int) == 0) = false := by rw [beq_eq_false_iff_ne]; omega
      have hlen : pre.length < 64 := by
        have h1 := bl_len m
        rw [hbl.out, hnb, List.length_append, List.length_map, List.length_cons] at h1
        omega
      obtain ⟨fn, tmps, assign, body, hy, hR⟩ := hY pre ⟨t, ht64, hsub.out t htb⟩ wr hJs hlen
      have htz := tz_calls t q cur hq hc wr htr.out
      have hsub1 : IntKind.u64.wrap ((cur : Int) - 1) = ((cur - 1 : Nat) : Int) := by rw [IntKind.wrap_u64]; omega
      have hand := u64_and_nat cur (cur - 1) hc (by omega)
      have hns' : Hid (∀ j, (cur &&& (cur - 1)).testBit j = true → m.testBit j = true) := fun j h => hsub.out j (hns j h)
      have hblH : Hid (bl m = (pre ++ [(⟨t, ht64, hsub.out t htb⟩ : BitOf m)]).map (·.1) ++ bl (cur &&& (cur - 1))) := by
        show _ = _
        rw [hbl.out, hnb]; simp
      generalize hx : (⟨t, ht64, hsub.out t htb⟩ : BitOf m) = x at hy hR hblH
      have hxt : encB x = #[.int .i64 (t : Int)] := by rw [← hx]; rfl
      rw [hxt] at hy
      generalize cur - 1 = c1 at hsub1 hand hns' hblH hnl
      have hc2 : cur &&& c1 < 18446744073709551616 := by omega
      generalize cur &&& c1 = c2 at hand hns' hblH hnl hc2
      clear hq hx hxt hz hnb htb hns hlen hbl hsub hJs
      gi_wp2_with (refine ⟨trivial, fun _ => by omega, ?_⟩; refine (callsIn_wide.2 htz).mono ?_; rintro e w' ⟨rfl, rfl⟩)
      refine ⟨fun _ => by omega, ?_⟩
      refine hR.mono ?_
      rintro e W' (⟨rfl, hJ', hk⟩ | ⟨rfl, hJx'⟩)
      · have htW' : Hid (Tab W') := htr.out.below hn0 hk
        clear hk htr htW hBW
        gi_wp2
        go_roundw
        case rel => exact ⟨pre ++ [x], c2, rfl, hc2, hblH, hns', hJ', htW'⟩
        case measure => simp [intOf]; omega
      · gi_wp2
        refine bodyPost_ret (results_none rfl _ _ _) rfl ?_
        exact ⟨⟨_, rfl⟩, .inr ⟨pre ++ [x], ⟨bl c2, hblH.out.symm⟩, hJx'⟩⟩
end Go.Proofs.YtfbbpodlemllcaaDoor
