/-
  The library's contract of slices.Sort at []string, laid at this program (by the kit's tool, in plain words).
-/
import Derived.Shelf.Sort.Plain
import Derived.Shelf.Slices.In.SortNone
import Derived.Test.YtmdfgndjphhgnaaProg
namespace Go.Proofs
open Go.Shelf
def Try.lays190_ren : Go.Shelf.Ren := ⟨fun | 190 => 50 | 125 => 52 | 258 => 51 | 128 => 62 | 129 => 63 | 302 => 53 | 303 => 54 | 304 => 55 | 305 => 56 | 306 => 57 | 307 => 58 | 308 => 59 | 309 => 60 | 310 => 61 | 333 => 64 | 329 => 65 | 330 => 66 | 334 => 67 | 335 => 68 | 336 => 69 | 344 => 70 | n => n, fun | 31 => 55 | 9 => 9 | 3 => 3 | 46 => 84 | 0 => 0 | 51 => 94 | 53 => 96 | 4 => 4 | 183 => 87 | 182 => 86 | 131 => 69 | 5 => 5 | 218 => 97 | 222 => 101 | 228 => 103 | 229 => 104 | n => n, fun | n => n⟩
theorem Try.lays190 : Go.Proofs.Lays.n190 Try.prog Try.lays190_ren := {
  mixed := by kernel_rfl
  f125 := Try.func52.trans (congrArg some (by kernel_rfl))
  f128 := Try.func62.trans (congrArg some (by kernel_rfl))
  f129 := Try.func63.trans (congrArg some (by kernel_rfl))
  f190 := Try.func50.trans (congrArg some (by kernel_rfl))
  f258 := Try.func51.trans (congrArg some (by kernel_rfl))
  f302 := Try.func53.trans (congrArg some (by kernel_rfl))
  f303 := Try.func54.trans (congrArg some (by kernel_rfl))
  f304 := Try.func55.trans (congrArg some (by kernel_rfl))
  f305 := Try.func56.trans (congrArg some (by kernel_rfl))
  f306 := Try.func57.trans (congrArg some (by kernel_rfl))
  f307 := Try.func58.trans (congrArg some (by kernel_rfl))
  f308 := Try.func59.trans (congrArg some (by kernel_rfl))
  f309 := Try.func60.trans (congrArg some (by kernel_rfl))
  f310 := Try.func61.trans (congrArg some (by kernel_rfl))
  f329 := Try.func65.trans (congrArg some (by kernel_rfl))
  f330 := Try.func66.trans (congrArg some (by kernel_rfl))
  f333 := Try.func64.trans (congrArg some (by kernel_rfl))
  f334 := Try.func67.trans (congrArg some (by kernel_rfl))
  f335 := Try.func68.trans (congrArg some (by kernel_rfl))
  f336 := Try.func69.trans (congrArg some (by kernel_rfl))
  f344 := Try.func70.trans (congrArg some (by kernel_rfl))
  t0 := Try.underlying0
  a0 := Try.isAgg0
  z0 := Try.sizeOf0
  v0 := Try.zeroValue0
  t3 := Try.underlying3
  a3 := Try.isAgg3
  z3 := Try.sizeOf3
  v3 := Try.zeroValue3
  t4 := Try.underlying4
  a4 := Try.isAgg4
  z4 := Try.sizeOf4
  v4 := Try.zeroValue4
  t5 := Try.underlying5
  a5 := Try.isAgg5
  z5 := Try.sizeOf5
  v5 := Try.zeroValue5
  t9 := Try.underlying9
  a9 := Try.isAgg9
  z9 := Try.sizeOf9
  v9 := Try.zeroValue9
  t31 := Try.underlying55
  a31 := Try.isAgg55
  z31 := Try.sizeOf55
  v31 := Try.zeroValue55
  t46 := Try.underlying84
  a46 := Try.isAgg84
  z46 := Try.sizeOf84
  v46 := Try.zeroValue84
  t51 := Try.underlying94
  a51 := Try.isAgg94
  z51 := Try.sizeOf94
  v51 := Try.zeroValue94
  t53 := Try.underlying96
  a53 := Try.isAgg96
  z53 := Try.sizeOf96
  v53 := Try.zeroValue96
  t131 := Try.underlying69
  a131 := Try.isAgg69
  z131 := Try.sizeOf69
  v131 := Try.zeroValue69
  t182 := Try.underlying86
  a182 := Try.isAgg86
  z182 := Try.sizeOf86
  v182 := Try.zeroValue86
  t183 := Try.underlying87
  a183 := Try.isAgg87
  z183 := Try.sizeOf87
  v183 := Try.zeroValue87
  t218 := Try.underlying97
  a218 := Try.isAgg97
  z218 := Try.sizeOf97
  v218 := Try.zeroValue97
  t222 := Try.underlying101
  a222 := Try.isAgg101
  z222 := Try.sizeOf101
  v222 := Try.zeroValue101
  t228 := Try.underlying103
  a228 := Try.isAgg103
  z228 := Try.sizeOf103
  v228 := Try.zeroValue103
  t229 := Try.underlying104
  a229 := Try.isAgg104
  z229 := Try.sizeOf104
  v229 := Try.zeroValue104 }
open Go.Sort Go.RowKit in
theorem Try.slices_Sort_string (blk off cap : Nat) (ss : List (List UInt8)) (w : World) (hH : Holds encStr w blk off ss.toArray) (hblk : blk < w.heap.size) (hsz : ss.length < 4611686018427387904) :
    Calls Try.prog 50 #[.slice (some ⟨blk, off, none⟩) ss.length cap] w fun e w' =>
      e = .returned (.tuple #[]) ∧ ∃ n os, w' = grow (putRow encStr (Sort.ahead w n) blk off (ss.mergeSort fun x y => decide (x ≤ y)).toArray) os := Any.slices_Sort_string Try.lays190 blk off cap ss w hH hblk hsz
open Go.RowKit Go.Sort in
/-- .. and plain. (LAID: no walk: one application.) -/
theorem Try.slices_Sort_string_none (p : Option Addr) (cap : Nat) (w : World) :
    Calls Try.prog 50 #[.slice p 0 cap] w fun e w' => e = .returned (.tuple #[]) ∧ w' = w := Any.slices_Sort_string_none Try.lays190 p cap w
end Go.Proofs
