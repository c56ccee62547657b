/-
  SHA-256: what the program's own block makes of a state.
-/
import Derived.Test.YtnaknnnobcnnfaaShaBase
import Derived.StillTailTactics
import Derived.Deep.QuietTactic
namespace Go.Proofs.Ytnaknnnobcnnfaa.Sha
open Go.RowKit
set_option linter.unusedVariables false
set_option linter.unusedSimpArgs false
/-- Four bytes as a word. -/
def word (B : Nat → Nat) (i : Nat) : Nat := B (4 * i) * 16777216 + B (4 * i + 1) * 65536 + B (4 * i + 2) * 256 + B (4 * i + 3)
def zeros (n : Nat) : List Nat := List.replicate n 0
def w1 (B : Nat → Nat) : Nat → List Nat
  | 0 => zeros 64
  | i + 1 => (w1 B i).set i (word B i)
theorem w1_length (B : Nat → Nat) (i : Nat) : (w1 B i).length = 64 := by
  induction i with
  | zero => rfl
  | succ i ih => simp [w1, ih]
/-- A word turned by a number below 0, for the numbers that the program names. -/
def rz (z : Int) (x : Nat) : Nat := rotr z.natAbs x
theorem rotz (x : Nat) (hx : x < 4294967296) (z : Int) (hz : z = -2 ∨ z = -6 ∨ z = -7 ∨ z = -11 ∨ z = -13 ∨ z = -17 ∨ z = -18 ∨ z = -19 ∨ z = -22 ∨ z = -25) (w : World) :
    Calls Try.prog 23 #[.int .u32 (x : Int), .int .i64 z] w fun e w' => e = .returned (.int .u32 (rz z x : Int)) ∧ w' = w := by
  rcases hz with rfl | rfl | rfl | rfl | rfl | rfl | rfl | rfl | rfl | rfl
  · exact rot2 x hx w
  · exact rot6 x hx w
  · exact rot7 x hx w
  · exact rot11 x hx w
  · exact rot13 x hx w
  · exact rot17 x hx w
  · exact rot18 x hx w
  · exact rot19 x hx w
  · exact rot22 x hx w
  · exact rot25 x hx w
def sig0 (x : Nat) : Nat := rotr 7 x ^^^ rotr 18 x ^^^ x / 8
def sig1 (x : Nat) : Nat := rotr 17 x ^^^ rotr 19 x ^^^ x / 1024
def mix (l : List Nat) (i : Nat) : Nat := (l.getD (i - 16) 0 + sig0 (l.getD (i - 15) 0) + l.getD (i - 7) 0 + sig1 (l.getD (i - 2) 0)) % 4294967296
def w2 (B : Nat → Nat) : Nat → List Nat
  | 0 => w1 B 16
  | k + 1 => (w2 B k).set (16 + k) (mix (w2 B k) (16 + k))
theorem w2_length (B : Nat → Nat) (i : Nat) : (w2 B i).length = 64 := by
  induction i with
  | zero => exact w1_length B 16
  | succ i ih => simp [w2, ih]
theorem getD_set_lt {l : List Nat} {i v : Nat} (hl : ∀ j, l.getD j 0 < 4294967296) (hv : v < 4294967296) : ∀ j, (l.set i v).getD j 0 < 4294967296 := fun j => by
  have := hl j
  simp only [List.getD_eq_getElem?_getD, List.getElem?_set] at this ⊢
  split
  · split <;> simp <;> omega
  · exact this
theorem w1_lt (B : Nat → Nat) (hB : ∀ j, j < 64 → B j < 256) : ∀ i, i ≤ 16 → ∀ j, (w1 B i).getD j 0 < 4294967296
  | 0, _ => fun j => by simp only [w1, zeros, List.getD_eq_getElem?_getD, List.getElem?_replicate]; split <;> simp
  | i + 1, h => getD_set_lt (w1_lt B hB i (by omega)) (by
      have := hB (4 * i) (by omega); have := hB (4 * i + 1) (by omega); have := hB (4 * i + 2) (by omega); have := hB (4 * i + 3) (by omega)
      unfold word; omega)
theorem w2_lt (B : Nat → Nat) (hB : ∀ j, j < 64 → B j < 256) : ∀ k, ∀ j, (w2 B k).getD j 0 < 4294967296
  | 0 => w1_lt B hB 16 (by omega)
  | k + 1 => getD_set_lt (w2_lt B hB k) (Nat.mod_lt _ (by decide))
theorem rz_lt (z : Int) (x : Nat) (hx : x < 4294967296) : rz z x < 4294967296 := rotr_lt _ _ hx
theorem xor_lt {a b : Nat} (ha : a < 4294967296) (hb : b < 4294967296) : a ^^^ b < 4294967296 := Nat.xor_lt_two_pow (n := 32) ha hb
theorem sig0_val (x : Nat) (hx : x < 4294967296) : bits BinOp.xor IntKind.u32 (bits BinOp.xor IntKind.u32 (rz (-7) x : Int) (rz (-18) x : Int)) ((x : Int) / 8) = ((sig0 x : Nat) : Int) := by
  rw [u32_xor_nat _ _ (rz_lt _ _ hx) (rz_lt _ _ hx), show ((x : Int) / 8) = ((x / 8 : Nat) : Int) by omega, u32_xor_nat _ _ (xor_lt (rz_lt _ _ hx) (rz_lt _ _ hx)) (by omega)]
  rfl
theorem sig1_val (x : Nat) (hx : x < 4294967296) : bits BinOp.xor IntKind.u32 (bits BinOp.xor IntKind.u32 (rz (-17) x : Int) (rz (-19) x : Int)) ((x : Int) / 1024) = ((sig1 x : Nat) : Int) := by
  rw [u32_xor_nat _ _ (rz_lt _ _ hx) (rz_lt _ _ hx), show ((x : Int) / 1024) = ((x / 1024 : Nat) : Int) by omega, u32_xor_nat _ _ (xor_lt (rz_lt _ _ hx) (rz_lt _ _ hx)) (by omega)]
  rfl
def sum0 (x : Nat) : Nat := rotr 2 x ^^^ rotr 13 x ^^^ rotr 22 x
def sum1 (x : Nat) : Nat := rotr 6 x ^^^ rotr 11 x ^^^ rotr 25 x
def chs (e f g : Nat) : Nat := (e &&& f) ^^^ ((4294967295 - e) &&& g)
def maj (a b c : Nat) : Nat := (a &&& b) ^^^ (a &&& c) ^^^ (b &&& c)
def round (l : List Nat) (k w : Nat) : List Nat :=
  match l with
  | [a, b, c, d, e, f, g, h] =>
    [(h + sum1 e + chs e f g + k + w + (sum0 a + maj a b c)) % 4294967296, a, b, c, (d + (h + sum1 e + chs e f g + k + w)) % 4294967296, e, f, g]
  | _ => l
def t3 (s W : List Nat) : Nat → List Nat
  | 0 => s
  | i + 1 => round (t3 s W i) (KL.getD i 0) (W.getD i 0)
theorem KL_lt : ∀ i, KL.getD i 0 < 4294967296 := fun i => by
  by_cases h : i < 64
  · exact (by decide : ∀ i : Fin 64, KL.getD i.val 0 < 4294967296) ⟨i, h⟩
  · rw [List.getD_eq_getElem?_getD, List.getElem?_eq_none (by rw [show KL.length = 64 from rfl]; omega)]; decide
theorem t3_eight (s W : List Nat) (hs : s.length = 8) (hsw : ∀ x ∈ s, x < 4294967296) (i : Nat) : ∃ a b c d e f g h, t3 s W i = [a, b, c, d, e, f, g, h] ∧
    a < 4294967296 ∧ b < 4294967296 ∧ c < 4294967296 ∧ d < 4294967296 ∧ e < 4294967296 ∧ f < 4294967296 ∧ g < 4294967296 ∧ h < 4294967296 := by
  induction i with
  | zero =>
    match s, hs with
    | [a, b, c, d, e, f, g, h], _ => exact ⟨a, b, c, d, e, f, g, h, rfl, hsw _ (by simp), hsw _ (by simp), hsw _ (by simp), hsw _ (by simp), hsw _ (by simp), hsw _ (by simp), hsw _ (by simp), hsw _ (by simp)⟩
  | succ i ih =>
    obtain ⟨a, b, c, d, e, f, g, h, ht, ha, hb, hc, hd, he, hf, hg, hh⟩ := ih
    exact ⟨_, _, _, _, _, _, _, _, by rw [t3, ht]; rfl, Nat.mod_lt _ (by decide), ha, hb, hc, Nat.mod_lt _ (by decide), he, hf, hg⟩
theorem xnot (t : Nat) (ht : t < 4294967296) : bits BinOp.xor IntKind.u32 (if IntKind.u32.signed = true then -1 else IntKind.u32.max) (t : Int) = ((4294967295 - t : Nat) : Int) := by
  rw [show (if IntKind.u32.signed = true then (-1 : Int) else IntKind.u32.max) = ((4294967295 : Nat) : Int) from rfl, u32_xor_nat _ _ (by decide) ht]
  congr 1
  apply Nat.eq_of_testBit_eq
  intro i
  rw [Nat.testBit_xor, show (4294967295 : Nat) = 2 ^ 32 - 1 from rfl, Nat.testBit_two_pow_sub_one, show 2 ^ 32 - 1 - t = 2 ^ 32 - (t + 1) by omega, Nat.testBit_two_pow_sub_succ (by omega)]
  by_cases hi : i < 32
  · simp [hi]
  · simp only [hi, decide_false, Bool.false_and, Bool.false_xor]
    exact Nat.testBit_lt_two_pow (Nat.lt_of_lt_of_le (show t < 2 ^ 32 from ht) (Nat.pow_le_pow_right (by decide) (by omega)))
theorem and_lt {a b : Nat} (ha : a < 4294967296) : a &&& b < 4294967296 := Nat.lt_of_le_of_lt Nat.and_le_left ha
theorem chs_val (e f g : Nat) (he : e < 4294967296) (hf : f < 4294967296) (hg : g < 4294967296) :
    bits BinOp.xor IntKind.u32 (bits BinOp.and IntKind.u32 (e : Int) (f : Int)) (bits BinOp.and IntKind.u32 ((4294967295 - e : Nat) : Int) (g : Int)) = ((chs e f g : Nat) : Int) := by
  rw [u32_and_nat _ _ he hf, u32_and_nat _ _ (by omega) hg, u32_xor_nat _ _ (and_lt he) (and_lt (by omega))]; rfl
theorem maj_val (a b c : Nat) (ha : a < 4294967296) (hb : b < 4294967296) (hc : c < 4294967296) :
    bits BinOp.xor IntKind.u32 (bits BinOp.xor IntKind.u32 (bits BinOp.and IntKind.u32 (a : Int) (b : Int)) (bits BinOp.and IntKind.u32 (a : Int) (c : Int))) (bits BinOp.and IntKind.u32 (b : Int) (c : Int)) = ((maj a b c : Nat) : Int) := by
  rw [u32_and_nat _ _ ha hb, u32_and_nat _ _ ha hc, u32_and_nat _ _ hb hc, u32_xor_nat _ _ (and_lt ha) (and_lt ha), u32_xor_nat _ _ (xor_lt (and_lt ha) (and_lt ha)) (and_lt hb)]; rfl
theorem sum0_val (x : Nat) (hx : x < 4294967296) : bits BinOp.xor IntKind.u32 (bits BinOp.xor IntKind.u32 (rz (-2) x : Int) (rz (-13) x : Int)) (rz (-22) x : Int) = ((sum0 x : Nat) : Int) := by
  rw [u32_xor_nat _ _ (rz_lt _ _ hx) (rz_lt _ _ hx), u32_xor_nat _ _ (xor_lt (rz_lt _ _ hx) (rz_lt _ _ hx)) (rz_lt _ _ hx)]; rfl
theorem sum1_val (x : Nat) (hx : x < 4294967296) : bits BinOp.xor IntKind.u32 (bits BinOp.xor IntKind.u32 (rz (-6) x : Int) (rz (-11) x : Int)) (rz (-25) x : Int) = ((sum1 x : Nat) : Int) := by
  rw [u32_xor_nat _ _ (rz_lt _ _ hx) (rz_lt _ _ hx), u32_xor_nat _ _ (xor_lt (rz_lt _ _ hx) (rz_lt _ _ hx)) (rz_lt _ _ hx)]; rfl
theorem set8 (wd : World) (g : Nat) (t : TypeId) (c0 c1 c2 c3 c4 c5 c6 c7 v0 v1 v2 v3 v4 v5 v6 v7 : Value) (hg : wd.heap[g]? = some (.cells #[c0, c1, c2, c3, c4, c5, c6, c7] t (0, 0))) :
    ((((((((wd.setCell ⟨g, 0, none⟩ v0).setCell ⟨g, 1, none⟩ v1).setCell ⟨g, 2, none⟩ v2).setCell ⟨g, 3, none⟩ v3).setCell ⟨g, 4, none⟩ v4).setCell ⟨g, 5, none⟩ v5).setCell ⟨g, 6, none⟩ v6).setCell ⟨g, 7, none⟩ v7).heap[g]? = some (.cells #[v0, v1, v2, v3, v4, v5, v6, v7] t (0, 0)) := by
  have h0 : (wd.setCell ⟨g, 0, none⟩ v0).heap[g]? = some (.cells #[v0, c1, c2, c3, c4, c5, c6, c7] t (0, 0)) := heap_setCell_same _ g 0 _ t v0 hg
  have h1 : ((wd.setCell ⟨g, 0, none⟩ v0).setCell ⟨g, 1, none⟩ v1).heap[g]? = some (.cells #[v0, v1, c2, c3, c4, c5, c6, c7] t (0, 0)) := heap_setCell_same _ g 1 _ t v1 h0
  have h2 : (((wd.setCell ⟨g, 0, none⟩ v0).setCell ⟨g, 1, none⟩ v1).setCell ⟨g, 2, none⟩ v2).heap[g]? = some (.cells #[v0, v1, v2, c3, c4, c5, c6, c7] t (0, 0)) := heap_setCell_same _ g 2 _ t v2 h1
  have h3 : ((((wd.setCell ⟨g, 0, none⟩ v0).setCell ⟨g, 1, none⟩ v1).setCell ⟨g, 2, none⟩ v2).setCell ⟨g, 3, none⟩ v3).heap[g]? = some (.cells #[v0, v1, v2, v3, c4, c5, c6, c7] t (0, 0)) := heap_setCell_same _ g 3 _ t v3 h2
  have h4 : (((((wd.setCell ⟨g, 0, none⟩ v0).setCell ⟨g, 1, none⟩ v1).setCell ⟨g, 2, none⟩ v2).setCell ⟨g, 3, none⟩ v3).setCell ⟨g, 4, none⟩ v4).heap[g]? = some (.cells #[v0, v1, v2, v3, v4, c5, c6, c7] t (0, 0)) := heap_setCell_same _ g 4 _ t v4 h3
  have h5 : ((((((wd.setCell ⟨g, 0, none⟩ v0).setCell ⟨g, 1, none⟩ v1).setCell ⟨g, 2, none⟩ v2).setCell ⟨g, 3, none⟩ v3).setCell ⟨g, 4, none⟩ v4).setCell ⟨g, 5, none⟩ v5).heap[g]? = some (.cells #[v0, v1, v2, v3, v4, v5, c6, c7] t (0, 0)) := heap_setCell_same _ g 5 _ t v5 h4
  have h6 : (((((((wd.setCell ⟨g, 0, none⟩ v0).setCell ⟨g, 1, none⟩ v1).setCell ⟨g, 2, none⟩ v2).setCell ⟨g, 3, none⟩ v3).setCell ⟨g, 4, none⟩ v4).setCell ⟨g, 5, none⟩ v5).setCell ⟨g, 6, none⟩ v6).heap[g]? = some (.cells #[v0, v1, v2, v3, v4, v5, v6, c7] t (0, 0)) := heap_setCell_same _ g 6 _ t v6 h5
  have h7 : ((((((((wd.setCell ⟨g, 0, none⟩ v0).setCell ⟨g, 1, none⟩ v1).setCell ⟨g, 2, none⟩ v2).setCell ⟨g, 3, none⟩ v3).setCell ⟨g, 4, none⟩ v4).setCell ⟨g, 5, none⟩ v5).setCell ⟨g, 6, none⟩ v6).setCell ⟨g, 7, none⟩ v7).heap[g]? = some (.cells #[v0, v1, v2, v3, v4, v5, v6, v7] t (0, 0)) := heap_setCell_same _ g 7 _ t v7 h6
  exact h7
theorem t3_length (s W : List Nat) (hs : s.length = 8) (i : Nat) : (t3 s W i).length = 8 := by
  induction i with
  | zero => exact hs
  | succ i ih => 
    match h : t3 s W i, ih with
    | [_, _, _, _, _, _, _, _], _ => rw [t3, h]; rfl
theorem t3_lt (s W : List Nat) (hs : s.length = 8) (hsw : ∀ x ∈ s, x < 4294967296) (i : Nat) : ∀ j, (t3 s W i).getD j 0 < 4294967296 := by
  obtain ⟨a, b, c, d, e, f, g, h, ht, ha, hb, hc, hd, he, hf, hg, hh⟩ := t3_eight s W hs hsw i
  intro j
  rw [ht]
  match j with
  | 0 => exact ha
  | 1 => exact hb
  | 2 => exact hc
  | 3 => exact hd
  | 4 => exact he
  | 5 => exact hf
  | 6 => exact hg
  | 7 => exact hh
  | j + 8 => exact (by decide : (0 : Nat) < 4294967296)
/-- The state goes into the one behind it, word by word. -/
def t4 (T s : List Nat) : Nat → List Nat
  | 0 => T
  | i + 1 => (t4 T s i).set i (((t4 T s i).getD i 0 + s.getD i 0) % 4294967296)
theorem t4_length (T s : List Nat) (i : Nat) : (t4 T s i).length = T.length := by
  induction i with
  | zero => rfl
  | succ i ih => simp [t4, ih]
/-- What a block makes of a state. -/
def blk (s : List Nat) (B : Nat → Nat) : List Nat := t4 (t3 s (w2 B 48) 64) s 8
theorem words_one (l : List Nat) : (words l).all (·.oneCell') = true := by
  rw [Array.all_eq_true_iff_forall_mem]
  intro v hv
  simp [words] at hv
  obtain ⟨n, _, rfl⟩ := hv
  rfl
theorem below_setRow {B g : Nat} {a w : World} (h : Below B a w) (hg : B ≤ g) (cs : Array Value) : Below B a (w.setRow g cs) :=
  ⟨h.os, h.tape, h.output, by rw [size_setRow]; exact h.size, fun k hk => by
    rw [← h.block k hk]; simp only [World.setRow, Array.getElem?_modify]; rw [if_neg (by omega)]⟩
theorem word_or (a b c d : Nat) (ha : a < 256) (hb : b < 256) (hc : c < 256) (hd : d < 256) :
    bits BinOp.or IntKind.u32 (bits BinOp.or IntKind.u32 (bits BinOp.or IntKind.u32 ((a : Int) * 16777216) ((b : Int) * 65536)) ((c : Int) * 256)) (d : Int) = ((a * 16777216 + b * 65536 + c * 256 + d : Nat) : Int) := by
  have e1 : a * 16777216 ||| b * 65536 = a * 16777216 + b * 65536 := by
    have := Nat.two_pow_add_eq_or_of_lt (i := 24) (b := b * 65536) (by omega) a
    rw [Nat.mul_comm a, show 16777216 = 2 ^ 24 from rfl]; exact this.symm
  have e2 : (a * 16777216 + b * 65536) ||| c * 256 = a * 16777216 + b * 65536 + c * 256 := by
    have := Nat.two_pow_add_eq_or_of_lt (i := 16) (b := c * 256) (by omega) (a * 256 + b)
    rw [show a * 16777216 + b * 65536 = 2 ^ 16 * (a * 256 + b) by omega]; exact this.symm
  have e3 : (a * 16777216 + b * 65536 + c * 256) ||| d = a * 16777216 + b * 65536 + c * 256 + d := by
    have := Nat.two_pow_add_eq_or_of_lt (i := 8) (b := d) (by omega) (a * 65536 + b * 256 + c)
    rw [show a * 16777216 + b * 65536 + c * 256 = 2 ^ 8 * (a * 65536 + b * 256 + c) by omega]; exact this.symm
  rw [show (a : Int) * 16777216 = ((a * 16777216 : Nat) : Int) by omega, show (b : Int) * 65536 = ((b * 65536 : Nat) : Int) by omega, show (c : Int) * 256 = ((c * 256 : Nat) : Int) by omega,
    u32_or_nat _ _ (by omega) (by omega), e1, u32_or_nat _ _ (by omega) (by omega), e2, u32_or_nat _ _ (by omega) (by omega), e3]
set_option maxRecDepth 100000 in
set_option maxHeartbeats 1000000 in
theorem block_calls (s : List Nat) (hs : s.length = 8) (hsw : ∀ x ∈ s, x < 4294967296) (B : Nat → Nat) (bb oo n c : Nat) (hn : 64 ≤ n) (hnc : n ≤ c) (w : World)
    (hcell : ∀ j, j < 64 → w.cell? ⟨bb, oo + j, none⟩ = some (.int .u8 (B j : Nat))) (hB : ∀ j, j < 64 → B j < 256) :
    Calls Try.prog 19 #[.agg (words s), .slice (some ⟨bb, oo, none⟩) n c] w fun e w' => e = .returned (.agg (words (blk s B))) ∧ Below w.heap.size w w' := by
  obtain ⟨s0, s1, s2, s3, s4, s5, s6, s7, rfl⟩ : ∃ a b c d e f g h, s = [a, b, c, d, e, f, g, h] := by
    match s, hs with
    | [a, b, c, d, e, f, g, h], _ => exact ⟨a, b, c, d, e, f, g, h, rfl⟩
  have hbb : bb < w.heap.size := World.block_lt_of_cell? w _ (hcell 0 (by decide))
  go_enter Try.func19, Try.ntmps19
  go_upto_region 1 with fail
  generalize hW : World.alloc _ _ = W
  have hWs : W.heap.size = w.heap.size + 2 := by rw [← hW]; simp
  have hW0 : W.heap[w.heap.size]? = some (.cells (words [s0, s1, s2, s3, s4, s5, s6, s7]) 43 (0, 0)) := by rw [← hW]; exact heap_alloc2_old w _ _
  have hW1 : W.heap[w.heap.size + 1]? = some (.cells (words (zeros 8)) 43 (0, 0)) := by rw [← hW]; exact heap_alloc2_new w _ _
  have hWB : Below w.heap.size w W := by rw [← hW]; exact ((Below.refl _ _).alloc (by simp) _).alloc (by simp) _
  clear hW
  refine wp_region_lit ?_
  refine sl_call rfl 22 #[] (by kernel_rfl) (R := fun v w' => v = .agg (words KL) ∧ w' = W.alloc (.cells (words KL) 48)) ((constants_calls W).mono fun e w' h => ⟨_, h.1, rfl, h.2⟩) ?_
  rintro v w2 ⟨rfl, rfl⟩
  refine sl_run rfl (.pointer (some ⟨w.heap.size + 3, 0, none⟩)) (((W.alloc (.cells (words KL) 48))).alloc (.cells (words (zeros 64)) 48)) (by rw [show w.heap.size + 3 = (W.alloc (.cells (words KL) 48)).heap.size by simp [hWs]]; kernel_rfl) ?_
  have hW2 : (W.alloc (.cells (words KL) 48)).heap.size = w.heap.size + 3 := by simp [hWs]
  refine wpList_store_row rfl 48 _ _ rfl (w.heap.size + 3) (words KL) (by kernel_rfl) (by kernel_rfl) 48 (words (zeros 64)) (by rw [← hW2]; exact heap_alloc_new _ _) (by kernel_rfl) (by kernel_rfl) (by kernel_rfl) ?_
  rw [← hW2, World.setRow_alloc_new]
  obtain ⟨V, hV⟩ : ∃ V, (W.alloc (.cells (words KL) 48)).alloc (.cells (words KL) 48) = V := ⟨_, rfl⟩
  rw [hV]
  have hVs : V.heap.size = w.heap.size + 4 := by rw [← hV]; simp [hWs]
  have hV0 : V.heap[w.heap.size]? = some (.cells (words [s0, s1, s2, s3, s4, s5, s6, s7]) 43 (0, 0)) := by
    rw [← hV, heap_alloc_old _ _ (by simp [hWs]; omega), heap_alloc_old _ _ (by simp [hWs])]; exact hW0
  have hV1 : V.heap[w.heap.size + 1]? = some (.cells (words (zeros 8)) 43 (0, 0)) := by
    rw [← hV, heap_alloc_old _ _ (by simp [hWs]), heap_alloc_old _ _ (by simp [hWs])]; exact hW1
  have hV3 : V.heap[w.heap.size + 3]? = some (.cells (words KL) 48 (0, 0)) := by rw [← hV, ← hW2]; exact heap_alloc_new _ _
  have hVB : Below w.heap.size w V := by rw [← hV]; exact (hWB.alloc (by omega) _).alloc (by omega) _
  clear hV hWB hW0 hW1
  rw [hW2]
  clear hW2 hWs
  refine wpList_nil ?_
  go_wp2_with fail
  generalize hU : World.alloc _ _ = U
  have hU4 : U.heap[w.heap.size + 4]? = some (.cells (words (w1 B 0)) 48 (0, 0)) := by rw [← hU, ← hVs]; exact heap_alloc_new _ _
  have hUB : Below (w.heap.size + 4) V U := by rw [← hU]; exact (Below.refl _ _).alloc (by omega) _
  have hUs : U.heap.size = w.heap.size + 5 := by rw [← hU]; simp [hVs]
  clear hU
  go_loopw [23] (fun v wr => ∃ i : Nat, i ≤ 16 ∧ v = .int .i64 i ∧ wr.heap[w.heap.size + 4]? = some (.cells (words (w1 B i)) 48 (0, 0)) ∧ Hid (Below (w.heap.size + 4) V wr) ∧ wr.heap.size = w.heap.size + 5) (fun v _ => 16 - (intOf v).toNat)
  case atStart => exact ⟨0, by omega, rfl, hU4, hUB, hUs⟩
  case round =>
    obtain ⟨i, hi, rfl, hr4, hrB, hrs⟩ := hrel
    by_cases hlt : i < 16
    · have hcr : ∀ j, j < 64 → wr.cell? ⟨bb, oo + j, none⟩ = some (.int .u8 (B j : Nat)) := fun j hj => by
        rw [Below.cell hrB (show bb < w.heap.size + 4 by omega), hVB.cell hbb]; exact hcell j hj
      obtain ⟨q0, hq0⟩ : ∃ q : Nat, q = 4 * i := ⟨_, rfl⟩
      obtain ⟨q1, hq1⟩ : ∃ q : Nat, q = 4 * i + 1 := ⟨_, rfl⟩
      obtain ⟨q2, hq2⟩ : ∃ q : Nat, q = 4 * i + 2 := ⟨_, rfl⟩
      obtain ⟨q3, hq3⟩ : ∃ q : Nat, q = 4 * i + 3 := ⟨_, rfl⟩
      have e0 : IntKind.i64.wrap (4 * (i : Int)) = (q0 : Int) := by rw [IntKind.wrap_i64]; omega
      have e1 : IntKind.i64.wrap ((q0 : Int) + 1) = (q1 : Int) := by rw [IntKind.wrap_i64]; omega
      have e2 : IntKind.i64.wrap ((q0 : Int) + 2) = (q2 : Int) := by rw [IntKind.wrap_i64]; omega
      have e3 : IntKind.i64.wrap ((q0 : Int) + 3) = (q3 : Int) := by rw [IntKind.wrap_i64]; omega
      have h0 := hcr q0 (by omega)
      have h1 := hcr q1 (by omega)
      have h2 := hcr q2 (by omega)
      have h3 := hcr q3 (by omega)
      have b0 := hB q0 (by omega)
      have b1 := hB q1 (by omega)
      have b2 := hB q2 (by omega)
      have b3 := hB q3 (by omega)
      have l0 : q0 < n := by omega
      have l1 : q1 < n := by omega
      have l2 : q2 < n := by omega
      have l3 : q3 < n := by omega
      have hword : word B i = B q0 * 16777216 + B q1 * 65536 + B q2 * 256 + B q3 := by subst hq0 hq1 hq2 hq3; rfl
      obtain ⟨y0, hy0⟩ : ∃ y, y = B q0 := ⟨_, rfl⟩
      obtain ⟨y1, hy1⟩ : ∃ y, y = B q1 := ⟨_, rfl⟩
      obtain ⟨y2, hy2⟩ : ∃ y, y = B q2 := ⟨_, rfl⟩
      obtain ⟨y3, hy3⟩ : ∃ y, y = B q3 := ⟨_, rfl⟩
      rw [← hy0, ← hy1, ← hy2, ← hy3] at hword
      rw [← hy0] at h0 b0
      rw [← hy1] at h1 b1
      rw [← hy2] at h2 b2
      rw [← hy3] at h3 b3
      clear hy0 hy1 hy2 hy3 hq0 hq1 hq2 hq3
      have li : i < 64 := by omega
      clear hcr
      go_upto_region 6 with fail
      go_still_tail 34, (by kernel_rfl)
      change wpList _ _ _ _ _ wr.drew
      generalize hx : wr.drew = wd
      have hd4 : wd.heap[w.heap.size + 4]? = some (.cells (words (w1 B i)) 48 (0, 0)) := by rw [← hx]; exact hr4
      have hdB : Hid (Below (w.heap.size + 4) V wd) := by rw [← hx]; exact Below.drew hrB
      have hds : wd.heap.size = w.heap.size + 5 := by rw [← hx]; exact hrs
      clear hx hr4 hrB hrs
      have hwl : (w1 B i).length = 64 := w1_length B i
      have hc : wd.cell? ⟨w.heap.size + 4, i, none⟩ = some (.int .u32 ((w1 B i).getD i 0 : Nat)) := by rw [cell_of_row _ _ _ _ _ _ hd4]; exact words_get _ _ (by omega)
      have hf : wd.frozen? ⟨w.heap.size + 4, i, none⟩ = false := frozen_of_row _ _ _ _ _ hd4
      go_wp2
      go_roundw
      case rel =>
        have hv := word_or y0 y1 y2 y3 b0 b1 b2 b3
        rw [← hword] at hv
        refine ⟨i + 1, by omega, by go_num, ?_, ?_, ?_⟩
        · rw [hv, heap_setCell_same _ _ _ _ _ _ hd4, words_set]; rfl
        · exact Below.setCell hdB (Nat.le_refl _) _
        · simpa using hds
      case measure => simp [intOf]; omega
    · obtain rfl : i = 16 := by omega
      have hlt16 : ¬ ((16 : Nat) : Int) < 16 := by omega
      go_wp2_with fail
      have hw20 : wr.heap[w.heap.size + 4]? = some (.cells (words (w2 B 0)) 48 (0, 0)) := hr4
      clear hr4
      go_loopw [8] (fun v wr => ∃ k i : Nat, k ≤ 48 ∧ i = 16 + k ∧ v = .int .i64 i ∧ wr.heap[w.heap.size + 4]? = some (.cells (words (w2 B k)) 48 (0, 0)) ∧ Hid (Below (w.heap.size + 4) V wr) ∧ wr.heap.size = w.heap.size + 5) (fun v _ => 64 - (intOf v).toNat)
      case atStart => exact ⟨0, 16, by omega, rfl, rfl, hw20, hrB, hrs⟩
      case round =>
        clear hrB hrs hw20
        obtain ⟨k, i, hk, hik, rfl, hr4, hrB, hrs⟩ := hrel
        by_cases hlt : i < 64
        · have hwl : (w2 B k).length = 64 := w2_length B k
          have hwb : ∀ j, (w2 B k).getD j 0 < 4294967296 := w2_lt B hB k
          have hg : ∀ j, j < 64 → wr.cell? ⟨w.heap.size + 4, j, none⟩ = some (.int .u32 ((w2 B k).getD j 0 : Nat)) := fun j hj => by rw [cell_of_row _ _ _ _ _ _ hr4]; exact words_get _ _ (by omega)
          obtain ⟨j15, hj15⟩ : ∃ j : Nat, j = i - 15 := ⟨_, rfl⟩
          obtain ⟨j2, hj2⟩ : ∃ j : Nat, j = i - 2 := ⟨_, rfl⟩
          obtain ⟨j16, hj16⟩ : ∃ j : Nat, j = i - 16 := ⟨_, rfl⟩
          obtain ⟨j7, hj7⟩ : ∃ j : Nat, j = i - 7 := ⟨_, rfl⟩
          have e15 : IntKind.i64.wrap ((i : Int) - 15) = (j15 : Int) := by rw [IntKind.wrap_i64]; omega
          have e2 : IntKind.i64.wrap ((i : Int) - 2) = (j2 : Int) := by rw [IntKind.wrap_i64]; omega
          have e16 : IntKind.i64.wrap ((i : Int) - 16) = (j16 : Int) := by rw [IntKind.wrap_i64]; omega
          have e7 : IntKind.i64.wrap ((i : Int) - 7) = (j7 : Int) := by rw [IntKind.wrap_i64]; omega
          have l15 : j15 < 64 := by omega
          have l2 : j2 < 64 := by omega
          have l16 : j16 < 64 := by omega
          have l7 : j7 < 64 := by omega
          have n16 : (j16 : Int) < 64 := by omega
          have n7 : (j7 : Int) < 64 := by omega
          have ni : (i : Int) < 64 := by omega
          have c15 := hg j15 l15
          have c2 := hg j2 l2
          have c16 := hg j16 l16
          have c7 := hg j7 l7
          obtain ⟨x15, hx15⟩ : ∃ x, x = (w2 B k).getD j15 0 := ⟨_, rfl⟩
          obtain ⟨x2, hx2⟩ : ∃ x, x = (w2 B k).getD j2 0 := ⟨_, rfl⟩
          obtain ⟨x16, hx16⟩ : ∃ x, x = (w2 B k).getD j16 0 := ⟨_, rfl⟩
          obtain ⟨x7, hx7⟩ : ∃ x, x = (w2 B k).getD j7 0 := ⟨_, rfl⟩
          have m15 := hwb j15
          have m2 := hwb j2
          have m16 := hwb j16
          have m7 := hwb j7
          rw [← hx15] at c15 m15
          rw [← hx2] at c2 m2
          rw [← hx16] at c16 m16
          rw [← hx7] at c7 m7
          have hmix : Hid (mix (w2 B k) i = (x16 + sig0 x15 + x7 + sig1 x2) % 4294967296) := by show _ = _; unfold mix; rw [← hj15, ← hj2, ← hj16, ← hj7, ← hx15, ← hx2, ← hx16, ← hx7]
          have hik' : Hid (i = 16 + k) := hik
          have hi16 : 16 ≤ i := by omega
          clear hik
          clear hg hwb hx15 hx2 hx16 hx7 hj15 hj2 hj16 hj7
          go_wp2_with fail
          go_quiet (fail)
          go_wp2_with (go_at_call 23; refine (rotz _ (by assumption) _ (by decide) _).mono ?_; rintro _ _ ⟨rfl, rfl⟩)
          have hr4 : (wr.drewN nq).heap[w.heap.size + 4]? = some (.cells (words (w2 B k)) 48 (0, 0)) := hr4
          have hrB : Hid (Below (w.heap.size + 4) V (wr.drewN nq)) := by
            refine ⟨hrB.os, hrB.tape, hrB.output, hrB.size, hrB.block⟩
          have hrs : (wr.drewN nq).heap.size = w.heap.size + 5 := hrs
          have c16 : (wr.drewN nq).cell? ⟨w.heap.size + 4, j16, none⟩ = some (.int .u32 (x16 : Int)) := c16
          have c7 : (wr.drewN nq).cell? ⟨w.heap.size + 4, j7, none⟩ = some (.int .u32 (x7 : Int)) := c7
          generalize hwe : wr.drewN nq = we at hr4 hrB hrs c16 c7 ⊢
          clear hwe
          refine wp_region_still_tail 15 (by kernel_rfl) (by kernel_rfl) ?_
          simp only [List.take_succ_cons, List.take_zero, List.drop_succ_cons, List.drop_zero]
          change wpStill _ _ we.drew (fun a' => wpList _ _ _ _ a' we.drew) _ _
          have hd4 : we.drew.heap[w.heap.size + 4]? = some (.cells (words (w2 B k)) 48 (0, 0)) := hr4
          have hdB : Hid (Below (w.heap.size + 4) V we.drew) := Below.drew hrB
          have hds : we.drew.heap.size = w.heap.size + 5 := hrs
          have c16 : we.drew.cell? ⟨w.heap.size + 4, j16, none⟩ = some (.int .u32 (x16 : Int)) := c16
          have c7 : we.drew.cell? ⟨w.heap.size + 4, j7, none⟩ = some (.int .u32 (x7 : Int)) := c7
          generalize hx : we.drew = wd at hd4 hdB hds c16 c7 ⊢
          clear hx hr4 hrB hrs
          repeat still_step
          refine wpStill_nil ?_
          have hc : wd.cell? ⟨w.heap.size + 4, i, none⟩ = some (.int .u32 ((w2 B k).getD i 0 : Nat)) := by rw [cell_of_row _ _ _ _ _ _ hd4]; exact words_get _ _ (by omega)
          have hf : wd.frozen? ⟨w.heap.size + 4, i, none⟩ = false := frozen_of_row _ _ _ _ _ hd4
          go_wp2_with fail
          go_roundw
          case rel =>
            have hik := hik'.out
            rw [sig0_val x15 m15, sig1_val x2 m2, show (((x16 : Int) + (sig0 x15 : Int) + (x7 : Int) + (sig1 x2 : Int)) % 4294967296) = (((x16 + sig0 x15 + x7 + sig1 x2) % 4294967296 : Nat) : Int) by omega, ← hmix.out]
            refine ⟨k + 1, i + 1, by omega, by omega, by go_num, ?_, ?_, ?_⟩
            · rw [heap_setCell_same _ _ _ _ _ _ hd4, words_set, hik]; rfl
            · exact Below.setCell hdB (Nat.le_refl _) _
            · simpa using hds
          case measure => simp [intOf]; omega
        · obtain rfl : k = 48 := by omega
          obtain rfl : i = 64 := by omega
          have hlt64 : ¬ ((64 : Nat) : Int) < 64 := by omega
          clear hik hk
          have hw30 : wr.heap[w.heap.size + 4]? = some (.cells (words (w2 B 48)) 48 (0, 0)) := hr4
          clear hr4
          go_upto_region 15 with fail
          have hS : wr.heap[w.heap.size]? = some (.cells (words [s0, s1, s2, s3, s4, s5, s6, s7]) 43 (0, 0)) := by rw [hrB.block _ (by omega)]; exact hV0
          refine wp_region_lit ?_
          refine wpList_load_row rfl 43 _ rfl w.heap.size (by kernel_rfl) 43 (words [s0, s1, s2, s3, s4, s5, s6, s7]) (0, 0) _ hS Try.underlying43 rfl (by kernel_rfl) ?_
          refine sl_run rfl (.pointer (some ⟨w.heap.size + 5, 0, none⟩)) (wr.alloc (.cells (words (zeros 8)) 43)) (by rw [← hrs]; kernel_rfl) ?_
          rw [← hrs]
          refine wpList_store_row rfl 43 _ _ rfl wr.heap.size (words [s0, s1, s2, s3, s4, s5, s6, s7]) (by kernel_rfl) (by kernel_rfl) 43 (words (zeros 8)) (heap_alloc_new _ _) (by kernel_rfl) (by kernel_rfl) (by kernel_rfl) ?_
          rw [World.setRow_alloc_new]
          refine wpList_nil ?_
          obtain ⟨X, hX⟩ : ∃ X, wr.alloc (.cells (words [s0, s1, s2, s3, s4, s5, s6, s7]) 43) = X := ⟨_, rfl⟩
          rw [hX]
          have hX5 : X.heap[w.heap.size + 5]? = some (.cells (words (t3 [s0, s1, s2, s3, s4, s5, s6, s7] (w2 B 48) 0)) 43 (0, 0)) := by rw [← hX, ← hrs]; exact heap_alloc_new _ _
          have hX4 : X.heap[w.heap.size + 4]? = some (.cells (words (w2 B 48)) 48 (0, 0)) := by rw [← hX, heap_alloc_old _ _ (by omega)]; exact hw30
          have hX3 : X.heap[w.heap.size + 3]? = some (.cells (words KL) 48 (0, 0)) := by rw [← hX, heap_alloc_old _ _ (by omega), hrB.block _ (by omega)]; exact hV3
          have hX1 : X.heap[w.heap.size + 1]? = some (.cells (words (zeros 8)) 43 (0, 0)) := by rw [← hX, heap_alloc_old _ _ (by omega), hrB.block _ (by omega)]; exact hV1
          have hX0 : X.heap[w.heap.size]? = some (.cells (words [s0, s1, s2, s3, s4, s5, s6, s7]) 43 (0, 0)) := by rw [← hX, heap_alloc_old _ _ (by omega)]; exact hS
          have hXB : Below w.heap.size w X := by rw [← hX]; exact (hVB.trans (hrB.out.mono (by omega))).alloc (by omega) _
          have hXs : X.heap.size = w.heap.size + 6 := by rw [← hX]; simp [hrs]
          rw [hrs]
          clear hX hS hw30 hrB hrs hV0 hV1 hV3 hVB
          go_wp2_with fail
          go_loopw [106] (fun v wr => ∃ i : Nat, i ≤ 64 ∧ v = .int .i64 i ∧ wr.heap[w.heap.size + 5]? = some (.cells (words (t3 [s0, s1, s2, s3, s4, s5, s6, s7] (w2 B 48) i)) 43 (0, 0)) ∧ Hid (Below (w.heap.size + 5) X wr) ∧ wr.heap.size = w.heap.size + 6) (fun v _ => 64 - (intOf v).toNat)
          case atStart => exact ⟨0, by omega, rfl, hX5, Below.refl _ _, hXs⟩
          case round =>
            obtain ⟨i, hi, rfl, hr5, hrB, hrs⟩ := hrel
            by_cases hlt : i < 64
            · obtain ⟨kc, hkc⟩ : ∃ x, x = KL.getD i 0 := ⟨_, rfl⟩
              obtain ⟨wc, hwc⟩ : ∃ x, x = (w2 B 48).getD i 0 := ⟨_, rfl⟩
              have hkl : kc < 4294967296 := by rw [hkc]; exact KL_lt i
              have hwl : wc < 4294967296 := by rw [hwc]; exact w2_lt B hB 48 i
              have c3 : wr.cell? ⟨w.heap.size + 3, i, none⟩ = some (.int .u32 (kc : Int)) := by
                rw [Below.cell hrB (show w.heap.size + 3 < w.heap.size + 5 by omega), cell_of_row _ _ _ _ _ _ hX3, hkc]; exact words_get _ _ (by rw [show KL.length = 64 from rfl]; omega)
              have c4 : wr.cell? ⟨w.heap.size + 4, i, none⟩ = some (.int .u32 (wc : Int)) := by
                rw [Below.cell hrB (show w.heap.size + 4 < w.heap.size + 5 by omega), cell_of_row _ _ _ _ _ _ hX4, hwc]; exact words_get _ _ (by rw [w2_length]; omega)
              obtain ⟨t0, t1, t2, t3', t4, t5, t6, t7, hT, m0, m1, m2, m3, m4, m5, m6, m7⟩ := t3_eight [s0, s1, s2, s3, s4, s5, s6, s7] (w2 B 48) rfl hsw i
              have hnext : Hid (t3 [s0, s1, s2, s3, s4, s5, s6, s7] (w2 B 48) (i + 1) = round [t0, t1, t2, t3', t4, t5, t6, t7] kc wc) := by show _ = _; rw [← hT, hkc, hwc]; rfl
              rw [hT] at hr5
              have ni : (i : Int) < 64 := by omega
              have hb5 : Hid (wr.heap[w.heap.size + 5]? = some (.cells (words [t0, t1, t2, t3', t4, t5, t6, t7]) 43 (0, 0))) := hr5
              have d0 : wr.cell? ⟨w.heap.size + 5, 0, none⟩ = some (.int .u32 (t0 : Int)) := cell_of_row _ _ _ _ _ _ hr5
              have d1 : wr.cell? ⟨w.heap.size + 5, 1, none⟩ = some (.int .u32 (t1 : Int)) := cell_of_row _ _ _ _ _ _ hr5
              have d2 : wr.cell? ⟨w.heap.size + 5, 2, none⟩ = some (.int .u32 (t2 : Int)) := cell_of_row _ _ _ _ _ _ hr5
              have d3 : wr.cell? ⟨w.heap.size + 5, 3, none⟩ = some (.int .u32 (t3' : Int)) := cell_of_row _ _ _ _ _ _ hr5
              have d4 : wr.cell? ⟨w.heap.size + 5, 4, none⟩ = some (.int .u32 (t4 : Int)) := cell_of_row _ _ _ _ _ _ hr5
              have d5 : wr.cell? ⟨w.heap.size + 5, 5, none⟩ = some (.int .u32 (t5 : Int)) := cell_of_row _ _ _ _ _ _ hr5
              have d6 : wr.cell? ⟨w.heap.size + 5, 6, none⟩ = some (.int .u32 (t6 : Int)) := cell_of_row _ _ _ _ _ _ hr5
              have d7 : wr.cell? ⟨w.heap.size + 5, 7, none⟩ = some (.int .u32 (t7 : Int)) := cell_of_row _ _ _ _ _ _ hr5
              have f0 : wr.frozen? ⟨w.heap.size + 5, 0, none⟩ = false := frozen_of_row _ _ _ _ _ hr5
              have f1 : wr.frozen? ⟨w.heap.size + 5, 1, none⟩ = false := frozen_of_row _ _ _ _ _ hr5
              have f2 : wr.frozen? ⟨w.heap.size + 5, 2, none⟩ = false := frozen_of_row _ _ _ _ _ hr5
              have f3 : wr.frozen? ⟨w.heap.size + 5, 3, none⟩ = false := frozen_of_row _ _ _ _ _ hr5
              have f4 : wr.frozen? ⟨w.heap.size + 5, 4, none⟩ = false := frozen_of_row _ _ _ _ _ hr5
              have f5 : wr.frozen? ⟨w.heap.size + 5, 5, none⟩ = false := frozen_of_row _ _ _ _ _ hr5
              have f6 : wr.frozen? ⟨w.heap.size + 5, 6, none⟩ = false := frozen_of_row _ _ _ _ _ hr5
              have f7 : wr.frozen? ⟨w.heap.size + 5, 7, none⟩ = false := frozen_of_row _ _ _ _ _ hr5
              clear hr5 hT hkc hwc
              go_wp2_with fail
              go_quiet (fail)
              go_wp2_with (go_at_call 23; refine (rotz _ (by assumption) _ (by decide) _).mono ?_; rintro _ _ ⟨rfl, rfl⟩)
              go_quiet (fail)
              go_upto_region 24 with (go_at_call 23; refine (rotz _ (by assumption) _ (by decide) _).mono ?_; rintro _ _ ⟨rfl, rfl⟩)
              go_wp2_with fail
              go_roundw
              case rel =>
                rw [xnot t4 m4, chs_val t4 t5 t6 m4 m5 m6, sum1_val t4 m4, sum0_val t0 m0, maj_val t0 t1 t2 m0 m1 m2,
                  show ((t7 : Int) + (sum1 t4 : Int) + (chs t4 t5 t6 : Int) + (kc : Int) + (wc : Int) + ((sum0 t0 : Int) + (maj t0 t1 t2 : Int))) % 4294967296 = (((t7 + sum1 t4 + chs t4 t5 t6 + kc + wc + (sum0 t0 + maj t0 t1 t2)) % 4294967296 : Nat) : Int) by omega,
                  show ((t3' : Int) + ((t7 : Int) + (sum1 t4 : Int) + (chs t4 t5 t6 : Int) + (kc : Int) + (wc : Int))) % 4294967296 = (((t3' + (t7 + sum1 t4 + chs t4 t5 t6 + kc + wc)) % 4294967296 : Nat) : Int) by omega]
                refine ⟨i + 1, by omega, by go_num, ?_, ?_, ?_⟩
                · have hbn := fun n => (show (wr.drewN n).heap[w.heap.size + 5]? = some (.cells (words [t0, t1, t2, t3', t4, t5, t6, t7]) 43 (0, 0)) from hb5.out)
                  rw [set8 _ _ _ _ _ _ _ _ _ _ _ _ _ _ _ _ _ _ _ (hbn _), hnext.out]; rfl
                · refine Below.setCell (Below.setCell (Below.setCell (Below.setCell (Below.setCell (Below.setCell (Below.setCell (Below.setCell ?_ ?_ _) ?_ _) ?_ _) ?_ _) ?_ _) ?_ _) ?_ _) ?_ _
                  · exact ⟨hrB.out.os, hrB.out.tape, hrB.out.output, hrB.out.size, hrB.out.block⟩
                  all_goals exact Nat.le_refl _
                · simpa using hrs
              case measure => simp [intOf]; omega
            · obtain rfl : i = 64 := by omega
              obtain ⟨T, hT⟩ : ∃ T, t3 [s0, s1, s2, s3, s4, s5, s6, s7] (w2 B 48) 64 = T := ⟨_, rfl⟩
              have hTl : T.length = 8 := by rw [← hT]; exact t3_length _ _ rfl 64
              have hTb : ∀ j, T.getD j 0 < 4294967296 := by rw [← hT]; exact t3_lt _ _ rfl hsw 64
              rw [hT] at hr5
              have hq5 : wr.heap[w.heap.size + 5]? = some (.cells (words (t4 T [s0, s1, s2, s3, s4, s5, s6, s7] 0)) 43 (0, 0)) := hr5
              clear hr5
              have hlt64 : ¬ ((64 : Nat) : Int) < 64 := by omega
              go_wp2_with fail
              go_loopw [190] (fun v wr => ∃ i : Nat, i ≤ 8 ∧ v = .int .i64 i ∧ wr.heap[w.heap.size + 5]? = some (.cells (words (t4 T [s0, s1, s2, s3, s4, s5, s6, s7] i)) 43 (0, 0)) ∧ Hid (Below (w.heap.size + 5) X wr) ∧ wr.heap.size = w.heap.size + 6) (fun v _ => 8 - (intOf v).toNat)
              case atStart => exact ⟨0, by omega, rfl, hq5, hrB, hrs⟩
              case round =>
                clear hq5 hrB hrs
                obtain ⟨i, hi, rfl, hr5, hrB, hrs⟩ := hrel
                by_cases hlt : i < 8
                · have ni : (i : Int) < 8 := by omega
                  obtain ⟨x, hx⟩ : ∃ x, x = (t4 T [s0, s1, s2, s3, s4, s5, s6, s7] i).getD i 0 := ⟨_, rfl⟩
                  obtain ⟨y, hy⟩ : ∃ y, y = [s0, s1, s2, s3, s4, s5, s6, s7].getD i 0 := ⟨_, rfl⟩
                  have hl4 : (t4 T [s0, s1, s2, s3, s4, s5, s6, s7] i).length = 8 := by rw [t4_length]; exact hTl
                  go_upto_region 29 with fail
                  refine wp_region_still_tail 7 (by kernel_rfl) (by kernel_rfl) ?_
                  simp only [List.take_succ_cons, List.take_zero, List.drop_succ_cons, List.drop_zero]
                  change wpStill _ _ wr.drew (fun a' => wpList _ _ _ _ a' wr.drew) _ _
                  have hd5 : wr.drew.heap[w.heap.size + 5]? = some (.cells (words (t4 T [s0, s1, s2, s3, s4, s5, s6, s7] i)) 43 (0, 0)) := hr5
                  have hd0 : wr.drew.heap[w.heap.size]? = some (.cells (words [s0, s1, s2, s3, s4, s5, s6, s7]) 43 (0, 0)) := by rw [Below.block (Below.drew hrB) _ (by omega)]; exact hX0
                  have hdB : Hid (Below (w.heap.size + 5) X wr.drew) := Below.drew hrB
                  have hds : wr.drew.heap.size = w.heap.size + 6 := hrs
                  generalize hx' : wr.drew = wd at hd5 hd0 hdB hds ⊢
                  clear hx' hr5 hrB hrs
                  have c5 : wd.cell? ⟨w.heap.size + 5, i, none⟩ = some (.int .u32 (x : Int)) := by rw [cell_of_row _ _ _ _ _ _ hd5, hx]; exact words_get _ _ (by omega)
                  have c0 : wd.cell? ⟨w.heap.size, i, none⟩ = some (.int .u32 (y : Int)) := by rw [cell_of_row _ _ _ _ _ _ hd0, hy]; exact words_get _ _ (by simpa using hlt)
                  have f5 : wd.frozen? ⟨w.heap.size + 5, i, none⟩ = false := frozen_of_row _ _ _ _ _ hd5
                  have hxy : Hid (t4 T [s0, s1, s2, s3, s4, s5, s6, s7] (i + 1) = (t4 T [s0, s1, s2, s3, s4, s5, s6, s7] i).set i ((x + y) % 4294967296)) := by show _ = _; rw [hx, hy]; rfl
                  have hd5' : Hid (wd.heap[w.heap.size + 5]? = some (.cells (words (t4 T [s0, s1, s2, s3, s4, s5, s6, s7] i)) 43 (0, 0))) := hd5
                  clear hx hy hd5 hd0
                  repeat still_step
                  refine wpStill_nil ?_
                  go_wp2_with fail
                  go_roundw
                  case rel =>
                    refine ⟨i + 1, by omega, by go_num, ?_, ?_, ?_⟩
                    · rw [show (((x : Int) + (y : Int)) % 4294967296) = (((x + y) % 4294967296 : Nat) : Int) by omega, heap_setCell_same _ _ _ _ _ _ hd5'.out, words_set, hxy.out]
                    · exact Below.setCell hdB (Nat.le_refl _) _
                    · simpa using hds
                  case measure => simp [intOf]; omega
                · obtain rfl : i = 8 := by omega
                  have hlt8 : ¬ ((8 : Nat) : Int) < 8 := by omega
                  go_upto_region 31 with fail
                  have h1 : wr.heap[w.heap.size + 1]? = some (.cells (words (zeros 8)) 43 (0, 0)) := by rw [hrB.block _ (by omega)]; exact hX1
                  have hlen : (t4 T [s0, s1, s2, s3, s4, s5, s6, s7] 8).length = 8 := by rw [t4_length]; exact hTl
                  have hB' : Below w.heap.size w wr := hXB.trans (hrB.out.mono (by omega))
                  refine wp_region_lit ?_
                  refine wpList_load_row rfl 43 _ rfl (w.heap.size + 5) (by kernel_rfl) 43 _ (0, 0) _ hr5 Try.underlying43 rfl (by rw [words_size, hlen]; kernel_rfl) ?_
                  refine wpList_store_row rfl 43 _ _ rfl (w.heap.size + 1) _ (by kernel_rfl) (by kernel_rfl) 43 (words (zeros 8)) h1 (by rw [words_size, hlen]; kernel_rfl) (by rw [words_size, words_size, hlen]; rfl) (words_one _) ?_
                  refine wpList_nil ?_
                  rename_i hK
                  exact hK _ _ (wp_ret (bodyPost_ret (results_cell_row rfl _ _ (w.heap.size + 1) 43 (words (t4 T [s0, s1, s2, s3, s4, s5, s6, s7] 8)) (0, 0) _ (by kernel_rfl) (setRow_heap _ _ _ _ _ _ h1) Try.underlying43 rfl (by rw [words_size, hlen]; kernel_rfl)) (by kernel_rfl) ⟨by subst hT; rfl, below_setRow hB' (by omega) _⟩))
end Go.Proofs.Ytnaknnnobcnnfaa.Sha
