/-
  SHA-256: the document's sixty-four digits.
-/
import Derived.Test.YtnaknnnobcnnfaaShaSpec
import Derived.Deep.QuietTactic
namespace Go.Proofs.Ytnaknnnobcnnfaa.Sha
open Go.RowKit
set_option linter.unusedVariables false
set_option linter.unusedSimpArgs false
def bytesC (l : List Nat) : Array Value := (l.map fun (n : Nat) => Value.int .u8 (n : Int)).toArray
theorem bytesC_get (l : List Nat) (i : Nat) (h : i < l.length) : (bytesC l)[i]? = some (.int .u8 (l.getD i 0 : Nat)) := by
  simp [bytesC, h]
def DIG : ByteArray := ⟨#[48, 49, 50, 51, 52, 53, 54, 55, 56, 57, 97, 98, 99, 100, 101, 102]⟩
def hexB (d : List Nat) : Nat → ByteArray
  | 0 => ⟨#[]⟩
  | i + 1 => hexB d i ++ (DIG.extract (d.getD i 0 / 16) (d.getD i 0 / 16 + 1) ++ DIG.extract (d.getD i 0 % 16) (d.getD i 0 % 16 + 1))
theorem dig_size : DIG.size = 16 := rfl
theorem hexB_size (d : List Nat) (hd : ∀ j, d.getD j 0 < 256) (i : Nat) : (hexB d i).size = 2 * i := by
  induction i with
  | zero => rfl
  | succ i ih => 
    have := hd i
    rw [hexB, ByteArray.size_append, ByteArray.size_append, ByteArray.size_extract, ByteArray.size_extract, dig_size, ih]; omega
set_option maxRecDepth 100000 in
set_option maxHeartbeats 1000000 in
theorem rhex_calls (d : List Nat) (hl : d.length = 32) (hd : ∀ j, d.getD j 0 < 256) (w : World) : Calls Try.prog 11 #[.agg (bytesC d)] w fun e w' => e = .returned (.string (hexB d 32)) ∧ Below w.heap.size w w' := by
  go_enter Try.func11, Try.ntmps11
  go_upto_region 0 with fail
  refine wp_region_lit ?_
  refine sl_run rfl (.pointer (some ⟨w.heap.size, 0, none⟩)) (w.alloc (.cells (bytesC d) 24)) (by kernel_rfl) ?_
  refine sl_run rfl (.string ⟨#[]⟩) (w.alloc (.cells (bytesC d) 24)) (by kernel_rfl) ?_
  refine wpList_nil ?_
  obtain ⟨X, hX⟩ : ∃ X, w.alloc (.cells (bytesC d) 24) = X := ⟨_, rfl⟩
  rw [hX]
  have hX0 : X.heap[w.heap.size]? = some (.cells (bytesC d) 24 (0, 0)) := by rw [← hX]; exact heap_alloc_new _ _
  have hXB : Below w.heap.size w X := by rw [← hX]; exact (Below.refl _ _).alloc (Nat.le_refl _) _
  clear hX
  obtain ⟨G, hG⟩ : ∃ G, G = DIG := ⟨_, rfl⟩
  go_wp2_with fail
  go_loopw [4, 5] (fun sv v wr => ∃ (i : Nat) (n : Nat), i ≤ 32 ∧ v = .int .i64 i ∧ sv = .string (hexB d i) ∧ wr = X.drewN n) (fun _ v _ => 32 - (intOf v).toNat)
  case atStart => exact ⟨0, 0, by omega, rfl, rfl, rfl⟩
  case round =>
    obtain ⟨i, n, hi, rfl, rfl, rfl⟩ := hrel
    by_cases hlt : i < 32
    · have ni : (i : Int) < 32 := by omega
      obtain ⟨x, hx⟩ : ∃ x, x = d.getD i 0 := ⟨_, rfl⟩
      have hx2 : x < 256 := by rw [hx]; exact hd i
      have c : X.cell? ⟨w.heap.size, i, none⟩ = some (.int .u8 (x : Int)) := by rw [cell_of_row _ _ _ _ _ _ hX0, hx]; exact bytesC_get _ _ (by omega)
      have hS : (hexB d i).size = 2 * i := hexB_size d hd i
      have hn : Hid (hexB d (i + 1) = hexB d i ++ (DIG.extract (x / 16) (x / 16 + 1) ++ DIG.extract (x % 16) (x % 16 + 1))) := by show _ = _; rw [hexB, hx]
      obtain ⟨S, hSe⟩ : ∃ S, S = hexB d i := ⟨_, rfl⟩
      rw [← hSe] at hS hn ⊢
      clear hx hSe
      obtain ⟨p, hp⟩ : ∃ p : Nat, p = x / 16 := ⟨_, rfl⟩
      obtain ⟨q, hq⟩ : ∃ q : Nat, q = x % 16 := ⟨_, rfl⟩
      have ep : ((x : Int) / 16) = (p : Int) := by omega
      have eq' : ((x : Int) % 16) = (q : Int) := by omega
      have lp : p < 16 := by omega
      have lq : q < 16 := by omega
      obtain ⟨p1, hp1⟩ : ∃ k : Nat, k = p + 1 := ⟨_, rfl⟩
      obtain ⟨q1, hq1⟩ : ∃ k : Nat, k = q + 1 := ⟨_, rfl⟩
      have v1 : IntKind.u8.wrap (p : Int) = (p : Int) := by rw [IntKind.wrap_u8']; omega
      have v2 : IntKind.u8.wrap ((p : Int) + 1) = (p1 : Int) := by rw [IntKind.wrap_u8']; omega
      have v3 : IntKind.u8.wrap (q : Int) = (q : Int) := by rw [IntKind.wrap_u8']; omega
      have v4 : IntKind.u8.wrap ((q : Int) + 1) = (q1 : Int) := by rw [IntKind.wrap_u8']; omega
      have z1 : (p : Int) ≤ (p1 : Int) := by omega
      have z2 : (p1 : Int) ≤ 16 := by omega
      have z3 : (q : Int) ≤ (q1 : Int) := by omega
      have z4 : (q1 : Int) ≤ 16 := by omega
      have y1 : p ≤ p1 := by omega
      have y2 : p1 ≤ 16 := by omega
      have y3 : q ≤ q1 := by omega
      have y4 : q1 ≤ 16 := by omega
      rw [← hp, ← hq, ← hp1, ← hq1] at hn
      obtain ⟨A, hA⟩ : ∃ A, DIG.extract p p1 = A := ⟨_, rfl⟩
      obtain ⟨C, hC⟩ : ∃ A, DIG.extract q q1 = A := ⟨_, rfl⟩
      have sA : A.size = 1 := by rw [← hA, ByteArray.size_extract, dig_size]; omega
      have sC : C.size = 1 := by rw [← hC, ByteArray.size_extract, dig_size]; omega
      have hA' : (⟨#[48, 49, 50, 51, 52, 53, 54, 55, 56, 57, 97, 98, 99, 100, 101, 102]⟩ : ByteArray).extract p p1 = A := hA
      have hC' : (⟨#[48, 49, 50, 51, 52, 53, 54, 55, 56, 57, 97, 98, 99, 100, 101, 102]⟩ : ByteArray).extract q q1 = C := hC
      rw [hA, hC] at hn
      clear hA hC hp1 hq1
      clear hp hq
      go_upto_region 6 with fail
      go_quiet (fail)
      go_wp2_with fail
      go_roundw
      case rel => exact ⟨i + 1, n + nq, by omega, by go_num, by rw [hn.out], by simp⟩
      case measure => simp [intOf]; omega
    · obtain rfl : i = 32 := by omega
      have hlt32 : ¬ ((32 : Nat) : Int) < 32 := by omega
      go_wp2_with fail
      go_ret
      exact ⟨rfl, ⟨hXB.os, hXB.tape, hXB.output, hXB.size, hXB.block⟩⟩
end Go.Proofs.Ytnaknnnobcnnfaa.Sha
