/-
  SHA-256: the program's sixty-four digits.
-/
import Derived.Test.YtnaknnnobcnnfaaShaRHex
import Derived.StillTailTactics
import Derived.OwnWalk
import Derived.Deep.MidRow
import Derived.Deep.RegionHeld3
import Derived.Deep.AppendLies
import Derived.BigCall
import Derived.Maps.AppendAt
import Derived.Laws.BytesString
namespace Go.Proofs.Ytnaknnnobcnnfaa.Sha
open Go.RowKit
set_option linter.unusedVariables false
set_option linter.unusedSimpArgs false
theorem index_bytes (d : List Nat) (hl : d.length = 32) (i : Nat) (hi : i < 32) (w : World) :
    (Instr.index 24 (.agg (bytesC d)) (.int .i64 (i : Int))).run Try.prog w = .ok (.int .u8 (d.getD i 0 : Nat)) w := by
  have hs : ∀ w, (sizeOf 5).run Try.prog w = .ok 1 w := fun _ => by kernel_rfl
  have ha : ∀ w, (isAgg 5).run Try.prog w = .ok false w := fun _ => by kernel_rfl
  have hg : (bytesC d)[i]? = some (.int .u8 (d.getD i 0 : Nat)) := bytesC_get d i (by omega)
  unfold Instr.index
  simp only [Sem.run_bind, asIntOf, Sem.run_pure, Result.andThen_ok, run_underlying Try.underlying24]
  have h1 : (0 : Int) ≤ (i : Int) ∧ (i : Int) < (32 : Nat) := by omega
  rw [if_pos h1]
  simp only [Sem.run_bind, hs, Result.andThen_ok, part, ha, Int.toNat_natCast, Nat.mul_one, hg]
  rfl
/-- A digit. -/
def dg (k : Nat) : Nat := (DIG.data.getD k 0).toNat
theorem index_dig (p : Nat) (hp : p < 16) (w : World) : (Instr.index 9 (.string ⟨#[48, 49, 50, 51, 52, 53, 54, 55, 56, 57, 97, 98, 99, 100, 101, 102]⟩) (.int .u8 (p : Int))).run Try.prog w = .ok (.int .u8 (dg p : Nat)) w := by
  rcases (show p = 0 ∨ p = 1 ∨ p = 2 ∨ p = 3 ∨ p = 4 ∨ p = 5 ∨ p = 6 ∨ p = 7 ∨ p = 8 ∨ p = 9 ∨ p = 10 ∨ p = 11 ∨ p = 12 ∨ p = 13 ∨ p = 14 ∨ p = 15 by omega) with rfl | rfl | rfl | rfl | rfl | rfl | rfl | rfl | rfl | rfl | rfl | rfl | rfl | rfl | rfl | rfl <;> kernel_rfl
def hexV (d : List Nat) : Nat → List Nat
  | 0 => []
  | i + 1 => hexV d i ++ [dg (d.getD i 0 / 16), dg (d.getD i 0 % 16)]
def vals (l : List Nat) : List Value := l.map fun (n : Nat) => Value.int .u8 (n : Int)
theorem hexV_length (d : List Nat) (i : Nat) : (hexV d i).length = 2 * i := by
  induction i with
  | zero => rfl
  | succ i ih => rw [hexV, List.length_append, ih]; simp; omega
theorem cells_two (w : World) (x y : Value) : ∀ (j : Nat) (u : Value), [x, y][j]? = some u → (w.alloc (.cells #[x, y] 5)).cell? ((⟨w.heap.size, 0, none⟩ : Addr).add j) = some u := by
  intro j u h
  rw [Addr.add_mid, cell_of_row _ _ _ _ _ _ (heap_alloc_new w _)]
  simpa using h
theorem dig_ext (p : Nat) (hp : p < 16) : (DIG.extract p (p + 1)).data.toList = [UInt8.ofNat (dg p)] := by
  rcases (show p = 0 ∨ p = 1 ∨ p = 2 ∨ p = 3 ∨ p = 4 ∨ p = 5 ∨ p = 6 ∨ p = 7 ∨ p = 8 ∨ p = 9 ∨ p = 10 ∨ p = 11 ∨ p = 12 ∨ p = 13 ∨ p = 14 ∨ p = 15 by omega) with rfl | rfl | rfl | rfl | rfl | rfl | rfl | rfl | rfl | rfl | rfl | rfl | rfl | rfl | rfl | rfl <;> decide +kernel
theorem bytes_ext {a b : ByteArray} (h : a.data.toList = b.data.toList) : a = b := by
  cases a; cases b; congr 1; exact Array.toList_inj.mp h
theorem hexB_list (d : List Nat) (hd : ∀ j, d.getD j 0 < 256) (i : Nat) : (hexB d i).data.toList = (hexV d i).map UInt8.ofNat := by
  induction i with
  | zero => rfl
  | succ i ih =>
    have := hd i
    rw [hexB, hexV, ByteArray.data_append, ByteArray.data_append, Array.toList_append, Array.toList_append, ih, dig_ext _ (by omega), dig_ext _ (by omega), List.map_append]
    rfl
theorem fold_list (l : List Int) : ∀ s : ByteArray, (l.foldl (fun r n => r.push (UInt8.ofNat n.toNat)) s).data.toList = s.data.toList ++ l.map fun n => UInt8.ofNat n.toNat := by
  induction l with
  | nil => intro s; simp
  | cons n l ih => intro s; rw [List.foldl_cons, ih]; simp [ByteArray.push]
theorem hex_str (d : List Nat) (hd : ∀ j, d.getD j 0 < 256) (i : Nat) : ((hexV d i).map fun (n : Nat) => (n : Int)).foldl (fun r n => r.push (UInt8.ofNat n.toNat)) ByteArray.empty = hexB d i := by
  apply bytes_ext
  rw [fold_list, hexB_list d hd]
  simp [Function.comp_def]
theorem info5 : (Try.prog.info? 5).map (fun i => (i.zero, i.size, i.bytes)) = some (some (.int .u8 0), 1, 1) := by kernel_rfl
set_option maxRecDepth 100000 in
set_option maxHeartbeats 1000000 in
theorem hex_calls (d : List Nat) (hl : d.length = 32) (hd : ∀ j, d.getD j 0 < 256) (w : World) : Calls Try.prog 10 #[.agg (bytesC d)] w fun e w' => e = .returned (.string (hexB d 32)) ∧ Below w.heap.size w w' := by
  obtain ⟨i5, hi5, hz0, hz1, hz2⟩ := info_parts info5
  go_enter Try.func10, Try.ntmps10
  go_upto_region 0 with fail
  refine wp_region_lit ?_
  refine sl_run rfl (.pointer (some ⟨w.heap.size, 0, none⟩)) (w.alloc (.cells (bytesC d) 24)) (by kernel_rfl) ?_
  refine sl_run rfl (.string ⟨#[]⟩) (w.alloc (.cells (bytesC d) 24)) (by kernel_rfl) ?_
  refine wpList_nil ?_
  obtain ⟨W, hW⟩ : ∃ W, w.alloc (.cells (bytesC d) 24) = W := ⟨_, rfl⟩
  rw [hW]
  have hW0 : W.heap[w.heap.size]? = some (.cells (bytesC d) 24 (0, 0)) := by rw [← hW]; exact heap_alloc_new _ _
  have hWs : W.heap.size = w.heap.size + 1 := by rw [← hW]; simp
  have hWB : Below w.heap.size w W := by rw [← hW]; exact (Below.refl _ _).alloc (Nat.le_refl _) _
  clear hW
  go_upto_region 1 with fail
  refine wp_region_lit ?_
  refine sl_run rfl (.slice (some ⟨w.heap.size + 1, 0, none⟩) 0 64) (W.alloc (.cells (bytesC (zeros 64)) 5)) (by rw [← hWs]; kernel_rfl) ?_
  refine sl_run rfl (.slice (some ⟨w.heap.size + 1, 0, none⟩) 0 64) (W.alloc (.cells (bytesC (zeros 64)) 5)) (by kernel_rfl) ?_
  refine wpList_nil ?_
  obtain ⟨X, hX⟩ : ∃ X, W.alloc (.cells (bytesC (zeros 64)) 5) = X := ⟨_, rfl⟩
  have hX1 : X.ownsRow (w.heap.size + 1) 5 1 (.slice (some ⟨w.heap.size + 1, 0, none⟩) 0 64) 0 (vals (hexV d 0)) := by
    rw [← hX, ← hWs]; exact World.ownsRow_made _ _ 64 (Nat.le_refl _) (by decide) (by kernel_rfl)
  have hX0 : X.heap[w.heap.size]? = some (.cells (bytesC d) 24 (0, 0)) := by rw [← hX, heap_alloc_old _ _ (by omega)]; exact hW0
  have hXs : X.heap.size = w.heap.size + 2 := by rw [← hX]; simp [hWs]
  have hXB : Below w.heap.size w X := by rw [← hX]; exact hWB.alloc (by omega) _
  rw [hX]
  clear hX hW0 hWs hWB
  go_upto_region 2 with fail
  refine wp_region_lit ?_
  refine wpList_load_row rfl 24 _ rfl w.heap.size (by kernel_rfl) 24 (bytesC d) (0, 0) _ hX0 Try.underlying24 rfl (by rw [show (bytesC d).size = 32 by simp [bytesC, hl]]; kernel_rfl) ?_
  refine sl_run rfl (.int .i64 0) X (by kernel_rfl) ?_
  refine wpList_nil ?_
  go_wp2_with fail
  simp only [Act.put, List.setIfInBounds_toArray, List.set_cons_zero, List.set_cons_succ]
  go_loopw [3, 8] (fun sv v wr => ∃ i : Nat, i ≤ 32 ∧ v = .int .i64 i ∧ wr.ownsRow (w.heap.size + 1) 5 1 sv (2 * i) (vals (hexV d i)) ∧ Hid (Below (w.heap.size + 1) X wr)) (fun _ v _ => 32 - (intOf v).toNat)
  case atStart => exact ⟨0, by omega, rfl, hX1, Below.refl _ _⟩
  case round =>
    obtain ⟨i, hi, rfl, hown, hrB⟩ := hrel
    by_cases hlt : i < 32
    · have ni : (i : Int) < 32 := by omega
      obtain ⟨x, hx⟩ : ∃ x, x = d.getD i 0 := ⟨_, rfl⟩
      have hx2 : x < 256 := by rw [hx]; exact hd i
      have hix : ∀ v : World, (Instr.index 24 (.agg (bytesC d)) (.int .i64 (i : Int))).run Try.prog v = .ok (.int .u8 (x : Int)) v := fun v => by rw [hx]; exact index_bytes d hl i hlt v
      obtain ⟨p, hp⟩ : ∃ p : Nat, p = x / 16 := ⟨_, rfl⟩
      obtain ⟨q, hq⟩ : ∃ q : Nat, q = x % 16 := ⟨_, rfl⟩
      have hn : Hid (hexV d (i + 1) = hexV d i ++ [dg p, dg q]) := by show _ = _; rw [hexV, hp, hq, hx]
      have ep : ((x : Int) / 16) = (p : Int) := by omega
      have eq' : ((x : Int) % 16) = (q : Int) := by omega
      have lp : p < 16 := by omega
      have lq : q < 16 := by omega
      obtain ⟨a, ha⟩ : ∃ a, a = dg p := ⟨_, rfl⟩
      obtain ⟨b, hb⟩ : ∃ b, b = dg q := ⟨_, rfl⟩
      have hip : ∀ v : World, (Instr.index 9 (.string ⟨#[48, 49, 50, 51, 52, 53, 54, 55, 56, 57, 97, 98, 99, 100, 101, 102]⟩) (.int .u8 (p : Int))).run Try.prog v = .ok (.int .u8 (a : Int)) v := fun v => by rw [ha]; exact index_dig p lp v
      have hiq : ∀ v : World, (Instr.index 9 (.string ⟨#[48, 49, 50, 51, 52, 53, 54, 55, 56, 57, 97, 98, 99, 100, 101, 102]⟩) (.int .u8 (q : Int))).run Try.prog v = .ok (.int .u8 (b : Int)) v := fun v => by rw [hb]; exact index_dig q lq v
      have v1 : IntKind.u8.wrap (p : Int) = (p : Int) := by rw [IntKind.wrap_u8']; omega
      have ebq : bits BinOp.and IntKind.u8 (x : Int) 15 = (q : Int) := by
        rw [show (15 : Int) = ((15 : Nat) : Int) from rfl, u8_and_nat x 15 hx2 (by decide), show x &&& 15 = x % 16 from Nat.and_two_pow_sub_one_eq_mod x 4, hq]
      rw [← ha, ← hb] at hn
      clear ha hb hx hp hq
      go_upto_region 5 with fail
      have hsz : w.heap.size + 1 ≤ wr.heap.size := by have := Below.size hrB.out; omega
      have hown' := hown
      go_region_held3 (fun _ => True) (trivial) ((refine step_append_lies _ (by rfl) _ _ 22 (by rfl) (w.heap.size + 1) 5 i5 (.int .u8 0) 1 1 Try.underlying22 hi5 hz0 hz1 hz2 rfl (by decide) _ (2 * i) _ (by rfl) (hown'.drew.alloc _) ⟨wr.heap.size, 0, none⟩ 2 2 [.int .u8 (a : Int), .int .u8 (b : Int)] (by rfl) (by rfl) (cells_two wr.drew _ _) (fun u hu => by simp at hu; rcases hu with rfl | rfl <;> rfl) (by omega) (by unfold maxLen; omega) (by omega) (by simp; omega) (wr.heap.size + 1) (by simp) ?_; intro g3 cap3 w3 hown3 hgrow3 hat3 hlt3))
      all_goals
        have hB3 : Below (w.heap.size + 1) X w3 := Below.grown (Below.drew (Below.alloc hrB.out hsz _)) hgrow3 (by simp; omega) (fun k hk => (hown'.lt k hk).1)
        have hv3 : vals (hexV d (i + 1)) = vals (hexV d i) ++ [.int .u8 (a : Int), .int .u8 (b : Int)] := by rw [hn.out]; simp [vals]
        go_wp2_with fail
        go_roundw
        case rel => exact ⟨i + 1, by omega, by go_num, by rw [hv3, show 2 * (i + 1) = 2 * i + 2 by omega]; exact hown3, hB3⟩
        case measure => simp [intOf]; omega
    · obtain rfl : i = 32 := by omega
      have hlt32 : ¬ ((32 : Nat) : Int) < 32 := by omega
      obtain ⟨g, cap, rfl⟩ : ∃ g cap, u3 = .slice (some ⟨g, 0, none⟩) 64 cap := by
        rcases hown.2 with ⟨_, h⟩ | ⟨g, cap, cur, h, _⟩
        · omega
        · exact ⟨g, cap, h⟩
      have hconv : (convert 22 9 (.slice (some ⟨g, 0, none⟩) 64 cap)).run Try.prog wr = .ok (.string (hexB d 32)) wr := by
        rw [run_convert_bytes_string wr 22 9 5 _ _ _ Try.underlying22 Try.underlying5 Try.underlying9]
        have hv : vals (hexV d 32) = ((hexV d 32).map fun (n : Nat) => (n : Int)).map (Value.int .u8) := by simp [vals]
        have hlen : (vals (hexV d 32)).length = 64 := by simp [vals, hexV_length]
        have hload := run_loadCells_list (P := Try.prog) wr ⟨g, 0, none⟩ (vals (hexV d 32)) (fun j u hu => by
          have hj : j < 64 := by rw [← hlen]; exact (List.getElem?_eq_some_iff.1 hu).1
          rw [Addr.add_mid, Nat.zero_add, hown.cellAt j (by omega)]; exact hu)
        rw [hlen, hv] at hload
        rw [run_bytesToString wr _ _ _ _ hload, ← hex_str d hd 32]
      go_wp2_with fail
      go_ret
      exact ⟨rfl, hXB.trans (hrB.out.mono (by omega))⟩
end Go.Proofs.Ytnaknnnobcnnfaa.Sha
