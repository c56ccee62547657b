/-
  The law ChainBytes holds: for every input it answers true, and what came in reads as it did; its card.
-/
import Derived.Test.YtadopkifpfmhcaaDoorMgC
import Derived.Test.YtadopkifpfmhcaaDoorMgB
import Derived.Test.YtadopkifpfmhcaaDoorRows
import Derived.Test.YtadopkifpfmhcaaDoorCards
import Derived.Test.YtadopkifpfmhcaaDoorTie
import Derived.WalkKit
import Derived.ProofKit
import Derived.OpenShut
import Derived.ShutString
import Derived.ChangeOld
import Derived.Below
import Derived.SevenTiedAt
import Derived.LaidHandle
set_option linter.unusedVariables false
set_option linter.unusedSimpArgs false
namespace Go.Proofs.YtadopkifpfmhcaaDoor
open Go.RowKit
open Sha (vals Bytes Lies bytesC sumB)
open Go.Proofs.YtadopkifpfmhcaaDoorW.PrintWords Go.Proofs.YtadopkifpfmhcaaDoorW.PrintLast Go.Proofs.YtadopkifpfmhcaaDoorW.PrintMore
theorem exec_eqB {o : Oper} {a : Act} {w : World} (x y : Operand) (ho : o.op = .binOp .eql 4 x y 4) (u v : Bool) (hx : a.eval x = .bool u) (hy : a.eval y = .bool v) (b : Bool) (hb : (u == v) = b) : (execOp a.eval o).run Tryd.prog w = .ok (.value (.bool b)) w := by
  have hr : (binOp .eql 4 (.bool u) (.bool v)).run Tryd.prog w = .ok (.bool (u == v)) w := by cases u <;> cases v <;> kernel_rfl
  subst hb; unfold execOp
  simp [ho, hx, hy, eqGuard, hr]
set_option maxRecDepth 100000 in
set_option maxHeartbeats 8000000 in
theorem lbytes_calls (i : Int) (hi : i < 9223372036854775808) (e : En) (he : e.ok) (w : World) (ht : Tab w) : Calls Tryd.prog 3 #[.int .i64 i, .agg (encE e)] w fun z w' => z = .returned (.bool true) ∧ Below w.heap.size w w' := by
  have htH : Hid (Tab w) := ht
  have heH : Hid e.ok := he
  obtain ⟨R, hR⟩ : ∃ R, R = bytesS i e := ⟨_, rfl⟩
  obtain ⟨lr, er⟩ := R
  have hRH : Hid ((lr, er) = bytesS i e) := hR
  clear ht he hR
  go_enter Tryd.func3, Tryd.ntmps3
  go_upto_region 1 with fail
  generalize hW : World.alloc _ _ = W
  have hW0 : W.heap[w.heap.size]? = some (.cells (encE e) 24 (0, 0)) := by rw [← hW]; exact heap_alloc_new _ _
  have hWB : Below w.heap.size w W := by rw [← hW]; exact (Below.refl _ _).alloc (Nat.le_refl _) _
  clear hW
  obtain ⟨B, hB⟩ : ∃ B, B = w.heap.size := ⟨_, rfl⟩
  rw [← hB] at hW0 ⊢
  have hSW : Hid (BS w B e W) := ⟨hW0, hWB⟩
  clear hW0 hWB hB
  refine wp_region_lit ?_
  refine sl_run rfl (.int .i64 i) W (by kernel_rfl) ?_
  simp only [Act.put, fl1, fl2, fl3]
  refine sg_run (by kernel_rfl) (.agg (encE e)) W (exec_load_row 24 W _ rfl B (by kernel_rfl) 24 (encE e) (0, 0) _ hSW.out.box Tryd.underlying24 rfl (by rw [encE_size']; kernel_rfl)) ?_
  simp only [Act.put, fl1, fl2, fl3]
  refine sg_call (by kernel_rfl) 11 #[.int .i64 i, .agg (encE e)] (by kernel_rfl) (R := fun v w' => ∃ u, v = .tuple #[u, .int .i64 (er : Int)] ∧ Bytes w' u lr ∧ Below W.heap.size W w') ((chbytes_calls i hi e heH.out W).mono fun e w' h => by
    obtain ⟨v, h1, h2, h3⟩ := h
    rw [← hRH.out] at h1 h2
    exact ⟨_, h1, v, rfl, h2, h3⟩) ?_
  rintro _ w1 ⟨u1, rfl, hby, hb⟩
  simp only [Act.put, fl1, fl2, fl3]
  have hSw1 : Hid (BS w B e w1) := (hSW.out).below hb
  clear hSW
  have hu1w1 : Hid (Bytes w1 u1 lr) := hby
  clear hb hby
  refine sl_run rfl (.tuple #[u1, .int .i64 (er : Int)]) w1 (by kernel_rfl) ?_
  simp only [Act.put, fl1, fl2, fl3]
  refine sl_run rfl (u1) w1 (by kernel_rfl) ?_
  simp only [Act.put, fl1, fl2, fl3]
  refine sl_run rfl (.int .i64 (er : Int)) w1 (by kernel_rfl) ?_
  simp only [Act.put, fl1, fl2, fl3]
  refine sl_run rfl (u1) w1 (by kernel_rfl) ?_
  simp only [Act.put, fl1, fl2, fl3]
  refine sl_run rfl (.int .i64 (er : Int)) w1 (by kernel_rfl) ?_
  simp only [Act.put, fl1, fl2, fl3]
  refine wpList_nil ?_
  go_upto_region 2 with fail
  refine wp_region_lit ?_
  refine sl_run rfl (.int .i64 i) w1 (by kernel_rfl) ?_
  simp only [Act.put, fl1, fl2, fl3]
  refine sg_run (by kernel_rfl) (.agg (encE e)) w1 (exec_load_row 24 w1 _ rfl B (by kernel_rfl) 24 (encE e) (0, 0) _ hSw1.out.box Tryd.underlying24 rfl (by rw [encE_size']; kernel_rfl)) ?_
  simp only [Act.put, fl1, fl2, fl3]
  refine sg_call (by kernel_rfl) 12 #[.int .i64 i, .agg (encE e)] (by kernel_rfl) (R := fun v w' => ∃ u, v = .tuple #[u, .int .i64 (er : Int)] ∧ Bytes w' u lr ∧ Below w1.heap.size w1 w') ((rbytes_calls i hi e heH.out w1).mono fun e w' h => by
    obtain ⟨v, h1, h2, h3⟩ := h
    rw [← hRH.out] at h1 h2
    exact ⟨_, h1, v, rfl, h2, h3⟩) ?_
  rintro _ w2 ⟨u2, rfl, hby, hb⟩
  simp only [Act.put, fl1, fl2, fl3]
  have hSw2 : Hid (BS w B e w2) := (hSw1.out).below hb
  have hu1w2 : Hid (Bytes w2 u1 lr) := (hu1w1.out).below hb
  clear hSw1 hu1w1
  have hu2w2 : Hid (Bytes w2 u2 lr) := hby
  clear hb hby
  refine sl_run rfl (.tuple #[u2, .int .i64 (er : Int)]) w2 (by kernel_rfl) ?_
  simp only [Act.put, fl1, fl2, fl3]
  refine sl_run rfl (u2) w2 (by kernel_rfl) ?_
  simp only [Act.put, fl1, fl2, fl3]
  refine sl_run rfl (.int .i64 (er : Int)) w2 (by kernel_rfl) ?_
  simp only [Act.put, fl1, fl2, fl3]
  refine sl_run rfl (u2) w2 (by kernel_rfl) ?_
  simp only [Act.put, fl1, fl2, fl3]
  refine sl_run rfl (.int .i64 (er : Int)) w2 (by kernel_rfl) ?_
  simp only [Act.put, fl1, fl2, fl3]
  refine wpList_nil ?_
  go_upto_region 3 with fail
  refine wp_normalG ?_
  refine wp_region_held_drew (S := fun w' => Below w2.heap.size w2 w') (by kernel_rfl) (Below.refl _ _).drew (fun hS => ?_)
  change wpAnyH _ _ _ _ _ 21 (Array.replicate 21 false) _ _
  generalize hx : w2.drew = y at hS ⊢
  clear hx
  have hwl : 0 < y.heap.size := Nat.lt_of_lt_of_le htH.out.1 (Nat.le_trans hSw2.out.bel.size hS.size)
  refine held_call 0 rfl (by kernel_rfl) (by kernel_rfl) 13 #[] (by kernel_rfl) (R := fun v w' => v = .bool true ∧ Below y.heap.size y w') ((fixed_calls y hwl (htH.out.below htH.out.1 (hSw2.out.bel.trans (hS.mono hSw2.out.bel.size)))).mono fun e w' h => ⟨_, h.1, rfl, h.2⟩) ?_
  rintro _ y1 ⟨rfl, hb⟩
  have hS9 : Below w2.heap.size w2 y1 := hS.trans (hb.mono hS.size)
  clear hS
  have hS := hS9
  clear hS9 hb
  refine ⟨hS, ?_⟩
  simp only [Act.put, fl1, fl2, fl3, fl4, fl5, fl6]
  refine held_take 1 rfl (by kernel_rfl) (by kernel_rfl) (by kernel_rfl) (.bool true) (fun _ _ _ h => nomatch h.1) (by kernel_rfl) (fun w' h => (by kernel_rfl)) hS ?_
  simp only [Act.put, fl1, fl2, fl3, fl4, fl5, fl6]
  refine held_take 2 rfl (by kernel_rfl) (by kernel_rfl) (by kernel_rfl) (.int .i64 (er : Int)) (fun _ _ _ h => nomatch h.1) (by kernel_rfl) (fun w' h => (by kernel_rfl)) hS ?_
  simp only [Act.put, fl1, fl2, fl3, fl4, fl5, fl6]
  refine held_take 3 rfl (by kernel_rfl) (by kernel_rfl) (by kernel_rfl) (.int .i64 (er : Int)) (fun _ _ _ h => nomatch h.1) (by kernel_rfl) (fun w' h => (by kernel_rfl)) hS ?_
  simp only [Act.put, fl1, fl2, fl3, fl4, fl5, fl6]
  refine held_take 4 rfl (by kernel_rfl) (by kernel_rfl) (by kernel_rfl) (.bool true) (fun _ _ _ h => nomatch h.1) (by kernel_rfl) (fun w' h => exec_eqI 3 _ _ rfl (er : Int) (er : Int) (by kernel_rfl) (by kernel_rfl) true (by simp)) hS ?_
  simp only [Act.put, fl1, fl2, fl3, fl4, fl5, fl6]
  refine held_take 5 rfl (by kernel_rfl) (by kernel_rfl) (by kernel_rfl) (.bool true) (fun _ _ _ h => nomatch h.1) (by kernel_rfl) (fun w' h => (by kernel_rfl)) hS ?_
  simp only [Act.put, fl1, fl2, fl3, fl4, fl5, fl6]
  refine held_take 6 rfl (by kernel_rfl) (by kernel_rfl) (by kernel_rfl) (.bool true) (fun _ _ _ h => nomatch h.1) (by kernel_rfl) (fun w' h => (by kernel_rfl)) hS ?_
  simp only [Act.put, fl1, fl2, fl3, fl4, fl5, fl6]
  refine held_take 7 rfl (by kernel_rfl) (by kernel_rfl) (by kernel_rfl) (u1) (fun _ _ _ h => nomatch h.1) (by kernel_rfl) (fun w' h => (by kernel_rfl)) hS ?_
  simp only [Act.put, fl1, fl2, fl3, fl4, fl5, fl6]
  refine held_take 8 rfl (by kernel_rfl) (by kernel_rfl) (by kernel_rfl) (.string (strB lr)) (fun _ _ _ h => nomatch h.1) (by kernel_rfl) (fun w' h => exec_convB _ rfl u1 lr (by kernel_rfl) (hu1w2.out.below h)) hS ?_
  simp only [Act.put, fl1, fl2, fl3, fl4, fl5, fl6]
  refine held_take 9 rfl (by kernel_rfl) (by kernel_rfl) (by kernel_rfl) (u2) (fun _ _ _ h => nomatch h.1) (by kernel_rfl) (fun w' h => (by kernel_rfl)) hS ?_
  simp only [Act.put, fl1, fl2, fl3, fl4, fl5, fl6]
  refine held_take 10 rfl (by kernel_rfl) (by kernel_rfl) (by kernel_rfl) (.string (strB lr)) (fun _ _ _ h => nomatch h.1) (by kernel_rfl) (fun w' h => exec_convB _ rfl u2 lr (by kernel_rfl) (hu2w2.out.below h)) hS ?_
  simp only [Act.put, fl1, fl2, fl3, fl4, fl5, fl6]
  refine held_take 11 rfl (by kernel_rfl) (by kernel_rfl) (by kernel_rfl) (.bool true) (fun _ _ _ h => nomatch h.1) (by kernel_rfl) (fun w' h => exec_eqS 9 _ _ rfl (strB lr) (strB lr) (by kernel_rfl) (by kernel_rfl) true (by simp)) hS ?_
  simp only [Act.put, fl1, fl2, fl3, fl4, fl5, fl6]
  refine held_take 12 rfl (by kernel_rfl) (by kernel_rfl) (by kernel_rfl) (.bool true) (fun _ _ _ h => nomatch h.1) (by kernel_rfl) (fun w' h => (by kernel_rfl)) hS ?_
  simp only [Act.put, fl1, fl2, fl3, fl4, fl5, fl6]
  refine held_take 13 rfl (by kernel_rfl) (by kernel_rfl) (by kernel_rfl) (.bool true) (fun _ _ _ h => nomatch h.1) (by kernel_rfl) (fun w' h => (by kernel_rfl)) hS ?_
  simp only [Act.put, fl1, fl2, fl3, fl4, fl5, fl6]
  refine held_take 14 rfl (by kernel_rfl) (by kernel_rfl) (by kernel_rfl) (.agg (encE e)) (fun _ _ _ h => nomatch h.1) (by kernel_rfl) (fun w' h => (exec_load_row 24 w' _ rfl B (by kernel_rfl) 24 (encE e) (0, 0) _ (heap_kept hSw2.out.box h) Tryd.underlying24 rfl (by rw [encE_size']; kernel_rfl))) hS ?_
  simp only [Act.put, fl1, fl2, fl3, fl4, fl5, fl6]
  refine held_take 16 rfl (by kernel_rfl) (by kernel_rfl) (by kernel_rfl) (.agg (encE e)) (fun _ _ _ h => nomatch h.1) (by kernel_rfl) (fun w' h => (exec_load_row 24 w' _ rfl B (by kernel_rfl) 24 (encE e) (0, 0) _ (heap_kept hSw2.out.box h) Tryd.underlying24 rfl (by rw [encE_size']; kernel_rfl))) hS ?_
  simp only [Act.put, fl1, fl2, fl3, fl4, fl5, fl6]
  obtain ⟨gd, hgd⟩ : ∃ b, b = goodE e := ⟨_, rfl⟩
  refine held_call 15 rfl (by kernel_rfl) (by kernel_rfl) 14 #[.agg (encE e)] (by kernel_rfl) (R := fun v w' => v = .bool gd ∧ Below y1.heap.size y1 w') ((hgd ▸ good_calls e y1).mono fun e w' h => ⟨_, h.1, rfl, h.2⟩) ?_
  rintro _ y2 ⟨rfl, hb⟩
  have hS9 : Below w2.heap.size w2 y2 := hS.trans (hb.mono hS.size)
  clear hS
  have hS := hS9
  clear hS9 hb
  refine ⟨hS, ?_⟩
  simp only [Act.put, fl1, fl2, fl3, fl4, fl5, fl6]
  refine held_call 17 rfl (by kernel_rfl) (by kernel_rfl) 15 #[.agg (encE e)] (by kernel_rfl) (R := fun v w' => v = .bool gd ∧ Below y2.heap.size y2 w') ((hgd ▸ rgood_calls e y2).mono fun e w' h => ⟨_, h.1, rfl, h.2⟩) ?_
  rintro _ y3 ⟨rfl, hb⟩
  have hS9 : Below w2.heap.size w2 y3 := hS.trans (hb.mono hS.size)
  clear hS
  have hS := hS9
  clear hS9 hb
  refine ⟨hS, ?_⟩
  simp only [Act.put, fl1, fl2, fl3, fl4, fl5, fl6]
  refine held_take 18 rfl (by kernel_rfl) (by kernel_rfl) (by kernel_rfl) (.bool true) (fun _ _ _ h => nomatch h.1) (by kernel_rfl) (fun w' h => exec_eqB _ _ rfl gd gd (by kernel_rfl) (by kernel_rfl) true (by simp)) hS ?_
  simp only [Act.put, fl1, fl2, fl3, fl4, fl5, fl6]
  refine held_take 19 rfl (by kernel_rfl) (by kernel_rfl) (by kernel_rfl) (.bool true) (fun _ _ _ h => nomatch h.1) (by kernel_rfl) (fun w' h => (by kernel_rfl)) hS ?_
  simp only [Act.put, fl1, fl2, fl3, fl4, fl5, fl6]
  refine held_take 20 rfl (by kernel_rfl) (by kernel_rfl) (by kernel_rfl) (.bool true) (fun _ _ _ h => nomatch h.1) (by kernel_rfl) (fun w' h => (by kernel_rfl)) hS ?_
  simp only [Act.put, fl1, fl2, fl3, fl4, fl5, fl6]
  have hF : Hid (Below w.heap.size w y3) := hSw2.out.bel.trans (hS.mono hSw2.out.bel.size)
  clear hS hSw2 hu1w2 hu2w2
  refine wpAnyH_done (by kernel_rfl) ?_ _
  refine ⟨rfl, ?_⟩
  rename_i hK
  refine hK _ _ ?_
  clear hK
  go_wp2_with fail
  go_ret
  exact ⟨rfl, hF.out⟩
end Go.Proofs.YtadopkifpfmhcaaDoor
namespace Go.Proofs.YtadopkifpfmhcaaDoor.chainBytes
open Go.ChangeShapes Go.WideShapes Go.ChangeAt Go.RowKit

theorem own : ownKnob Tryd.prog.godebug = none := by kernel_rfl
theorem laidOut : laidOutB Tryd.prog = true := by kernel_rfl
set_option maxRecDepth 100000 in
theorem lifted (os : Os) (started : os.Started) (H : Type) (enc : TypeId × Value → H) :
    ReturnsInHanded {} Tryd.checked os 3 .any (fun w args => (Rows.chainBytesSpec.pre enc Tryd.prog Tryd.f3 Rows.chainBytesRow.domain false w args ∧ laidMet Tryd.prog [("math/bits.deBruijn64tab", Rows.laid_math_bits_deBruijn64tab)] w) ∧ sizedMet enc Tryd.prog Tryd.f3 (OpenSpec.ofChange Rows.chainBytesSpec) false w args)
      (Rows.chainBytesSpec.post enc Tryd.prog Tryd.f3 false true false false) := by
  refine returnsInHanded_of_change_and (C := Tryd.checked) (X := fun w _ => laidMet Tryd.prog [("math/bits.deBruijn64tab", Rows.laid_math_bits_deBruijn64tab)] w) (fun _ _ _ hh h => h.of_heap hh) own started (by kernel_rfl) Tryd.func3
    (ChangeSpec.witness_at (enc := enc) (C := Tryd.checked) (os := os) (X := fun w _ => laidMet Tryd.prog [("math/bits.deBruijn64tab", Rows.laid_math_bits_deBruijn64tab)] w) false (laidWorld os) #[.int .i64 0, .agg #[.string ByteArray.empty, .int .i64 0, .string ByteArray.empty, .int .u8 0, .int .u8 0, .int .u8 0, .int .u8 0, .int .u8 0, .int .u8 0, .int .u8 0, .int .u8 0, .int .u8 0, .int .u8 0, .int .u8 0, .int .u8 0, .int .u8 0, .int .u8 0, .int .u8 0, .int .u8 0, .int .u8 0, .int .u8 0, .int .u8 0, .int .u8 0, .int .u8 0, .int .u8 0, .int .u8 0, .int .u8 0, .int .u8 0, .int .u8 0, .int .u8 0, .int .u8 0, .int .u8 0, .int .u8 0, .int .u8 0, .int .u8 0]] 8 rfl (by kernel_rfl) (by kernel_rfl) (by kernel_rfl) (by kernel_rfl) (by kernel_rfl) (laidWorld_met os _)) ?_
  intro W base args ds gs before hval0 hW hcnd hsz hL _
  have hval : ∀ (j : Nat) t v, Tryd.f3.params[j]? = some t → args[j]? = some v → Value.okWide Tryd.prog W .any base t v := hval0
  have htab := tab_of_laid hL
  have hW' := hW
  obtain ⟨p, q, hA0, hV, rfl, hfz, hnd⟩ := hW
  have hA : DataW.TrodAll enc Tryd.prog W 0 (fun _ => true) true Tryd.f3.params.toList args.toList ds p := hA0
  have hsz2 : (DataW.weightsEach Tryd.prog ([3, 24] ++ Rows.chainBytesSpec.plain.varTypes Tryd.prog) (ds ++ gs)).all (· ≤ reachBytes) = true := by
    have := hsz; rw [Tryd.params3] at this; exact this
  rw [Tryd.params3] at hA hval
  obtain ⟨v0, vs0, d0, ds0, p0, q0, hargs, rfl, rfl, h0, r0⟩ := trodAll_cons hA
  obtain ⟨v1, vs1, d1, ds1, p1, q1, rfl, rfl, rfl, h1, r1⟩ := trodAll_cons r0
  obtain ⟨rfl, rfl, rfl⟩ := trodAll_nil r1
  obtain rfl : args = #[v0, v1] := by cases args; simp_all
  obtain ⟨rfl, rfl⟩ := trodVars_none hV
  have k0 := h0
  have lt0 : ∀ x ∈ p0, x.block < W.heap.size := by obtain ⟨m, hm⟩ := k0; exact DataW.trod_lt m _ _ _ hm
  obtain ⟨n0, rfl, rfl, rfl, wf0⟩ := open_int Tryd.underlying3 (hval 0 3 v0 rfl rfl) h0
  have b0 := int_wf wf0
  have k1 := h1
  have lt1 : ∀ x ∈ p1, x.block < W.heap.size := by obtain ⟨m, hm⟩ := k1; exact DataW.trod_lt m _ _ _ hm
  obtain ⟨x1, rfl, g1⟩ := arg_en (hval 1 24 v1 rfl rfl) h1
  clear hA0 hval0
  refine (lbytes_calls n0 b0.2 x1 g1 W htab).mono fun e W' ⟨he, bel⟩ => ?_
  subst he
  exact ⟨_, rfl, _, _, _, [], _, [], hW', trodAll_mk1 (shut_bool Tryd.underlying4 _), (trodAll_cons_mk (Below.trod laidOut (by kernel_rfl) (of_decide_eq_true (by kernel_rfl)) k0 bel lt0) (trodAll_cons_mk (Below.trod laidOut (by kernel_rfl) (of_decide_eq_true (by kernel_rfl)) k1 bel lt1) trodAll_mk0)), rfl, bel.frame _, fun h => by cases h⟩
theorem over : Rows.ChainBytesSaid :=
  OpenClaim.holds_of_wide 3 Tryd.f3 rfl rfl rfl rfl rfl rfl rfl ⟨rfl, rfl, rfl, rfl, rfl⟩ rfl rfl rfl rfl rfl (by kernel_rfl) Tryd.func3 (by kernel_rfl)
    (of_decide_eq_true (by kernel_rfl)) (by unfold Func.isWrapper; first | (rw [if_pos (by decide +kernel)]; kernel_rfl) | (rw [if_neg (by decide +kernel)]; exact ⟨rfl, rfl⟩))
    (fun os started H enc _ => lifted os started H enc)
theorem card : Rows.ChainBytesCardSaid :=
  Claim7.holds_tied_plain_at .later [] [.data] true (true, "eaf48906fbdc0550d943cf212d39e566490c253f0718d60b671d22ae1cd4fb08") false
    over (fun _ h => by cases h) (by kernel_rfl) (fun _ h => by cases h) chainBytes_row_tie rfl ⟨rfl, rfl⟩ (by kernel_rfl) rfl
    (fun f fn hf hfn => by
      obtain rfl : f = 3 := Option.some.inj ((show Tryd.prog.funcNamed "mandate/mandatelaw18.ChainBytes" = some 3 by kernel_rfl).symm.trans hf) |>.symm
      obtain rfl : fn = Tryd.f3 := (Option.some.inj (Tryd.func3.symm.trans hfn)).symm
      exact ⟨by kernel_rfl, fun j t ht => by
        rw [Tryd.params3] at ht
        have h3 : t = 3 ∨ t = 24 := by
          rcases j with _ | j
          · simp at ht; subst ht; simp
          rcases j with _ | j
          · simp at ht; subst ht; simp
          · simp at ht
        rcases h3 with rfl | rfl
        all_goals exact (show Tryd.prog.wantsStandIn _ = false by kernel_rfl)⟩)
    (by kernel_rfl)
end Go.Proofs.YtadopkifpfmhcaaDoor.chainBytes
namespace Go.Proofs.YtadopkifpfmhcaaDoor
/-- The statement. -/
theorem chainBytes_holds : Rows.ChainBytesCardSaid := chainBytes.card
#print axioms chainBytes_holds
end Go.Proofs.YtadopkifpfmhcaaDoor
