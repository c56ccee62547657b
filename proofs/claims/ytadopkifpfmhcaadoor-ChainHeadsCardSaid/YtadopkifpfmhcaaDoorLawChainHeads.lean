/-
  The law ChainHeads holds: for every input it answers true, and what came in reads as it did; its card.
-/
import Derived.Test.YtadopkifpfmhcaaDoorMgC
import Derived.Test.YtadopkifpfmhcaaDoorMgB
import Derived.Test.YtadopkifpfmhcaaDoorRows
import Derived.Test.YtadopkifpfmhcaaDoorCards
import Derived.Test.YtadopkifpfmhcaaDoorTie
import Derived.WalkKit
import Derived.ProofKit
import Derived.OpenShut
import Derived.ShutString
import Derived.ChangeOld
import Derived.Below
import Derived.SevenTiedAt
import Derived.LaidHandle
set_option linter.unusedVariables false
set_option linter.unusedSimpArgs false
namespace Go.Proofs.YtadopkifpfmhcaaDoor
open Go.RowKit
open Sha (vals Bytes Lies bytesC sumB)
open Go.Proofs.YtadopkifpfmhcaaDoorW.PrintWords Go.Proofs.YtadopkifpfmhcaaDoorW.PrintLast Go.Proofs.YtadopkifpfmhcaaDoorW.PrintMore
theorem verS_self (cut : Int) (l : List En) : verS cut l (headS cut l).1 = (headS cut l).2 := by unfold verS; simp
set_option maxRecDepth 100000 in
set_option maxHeartbeats 16000000 in
theorem lheads_calls (cut : Int) (l : List En) (hok : ∀ x ∈ l, x.ok) (A : Option Addr) (n c : Nat) (hn : n = l.length) (q : List Nat) (hq : ∀ x ∈ q, x < 256) (u : Value) (hql : q.length ≤ 140737488351232) (w : World) (ht : Tab w) (hy : Rw 35 encE w (.slice A n c) l) (hu : Bytes w u q) :
    Calls Tryd.prog 4 #[.int .i64 cut, .slice A n c, u] w fun z w' => z = .returned (.bool true) ∧ Below w.heap.size w w' := by
  have htH : Hid (Tab w) := ht
  have hn' : Hid (n = l.length) := hn
  have hyw : Hid (Rw 35 encE w (.slice A n c) l) := hy
  have huw : Hid (Bytes w u q) := hu
  have hBw : Hid (Below w.heap.size w w) := Below.refl _ _
  have hokH : Hid (∀ x ∈ l, x.ok) := hok
  have hqH : Hid (∀ x ∈ q, x < 256) := hq
  obtain ⟨V, hV⟩ : ∃ V, V = verS cut l q := ⟨_, rfl⟩
  have hVH : Hid (V = verS cut l q) := hV
  obtain ⟨lr, er, hR⟩ : ∃ lr er, headS cut l = (lr, er) := ⟨_, _, rfl⟩
  have hfine := headS_fine cut l
  have hself := verS_self cut l
  rw [hR] at hfine hself
  simp only at hfine hself
  have hRH : Hid (headS cut l = (lr, er)) := hR
  have hselfH : Hid (verS cut l lr = er) := hself
  have hlt : Hid (∀ x ∈ lr, x < 256) := hfine.1
  have hll : lr.length ≤ 32 := hfine.2
  clear hn hy hok hu hq hV hR hfine hself ht
  go_enter Tryd.func4, Tryd.ntmps4
  go_upto_region 1 with fail
  refine wp_region_lit ?_
  refine sg_call (by kernel_rfl) 13 #[] (by kernel_rfl) (R := fun v w' => v = .bool true ∧ Below w.heap.size w w') ((fixed_calls w htH.out.1 htH.out).mono fun e w' h => ⟨_, h.1, rfl, h.2⟩) ?_
  rintro _ w1 ⟨rfl, hb⟩
  simp only [Act.put, fl1, fl2, fl3]
  have hBw1 : Hid (Below w.heap.size w w1) := hBw.out.trans ((hb).mono (hBw.out).size)
  have hyw1 : Hid (Rw 35 encE w1 (.slice A n c) l) := (hyw.out).below hb
  have huw1 : Hid (Bytes w1 u q) := (huw.out).below hb
  clear hBw hyw huw
  clear hb
  refine sl_run rfl (.bool false) w1 (by kernel_rfl) ?_
  simp only [Act.put, fl1, fl2, fl3]
  refine wpList_nil ?_
  by_cases h30 : 30 < n
  · have hI : (n : Int) > 30 := by omega
    have hF := hBw1
    clear hBw1 hyw1 huw1
    go_wp2_with fail
    go_ret
    exact ⟨rfl, hF.out⟩
  have hI : ¬ (n : Int) > 30 := by omega
  obtain rfl : n = l.length := hn'.out
  have hn9 : l.length ≤ 30 := by omega
  clear hn' h30
  go_upto_region 5 with fail
  refine wp_region_lit ?_
  refine sl_run rfl (.int .i64 cut) w1 (by kernel_rfl) ?_
  simp only [Act.put, fl1, fl2, fl3]
  refine sg_run (by kernel_rfl) (.slice (some ⟨w1.heap.size, 0, none⟩) 0 0) (w1.alloc (.cells #[] 24)) (by kernel_rfl) ?_
  simp only [Act.put, fl1, fl2, fl3]
  refine sl_run rfl (.slice A l.length c) (w1.alloc (.cells #[] 24)) (by kernel_rfl) ?_
  simp only [Act.put, fl1, fl2, fl3]
  obtain ⟨i24, z24, hi24, hz24, hs24, hb24, hc24⟩ := inf24p
  refine appendRw (k := 35) (enc := encE) 34 24 72 i24 z24 un34 hi24 hz24 hs24 hb24 hc24 (by decide) encE_size' encE_one rfl _ _ rfl w1.heap.size (.slice (some ⟨w1.heap.size, 0, none⟩) 0 0) [] l (by kernel_rfl) (World.ownsRow_made w1 #[] 0 (Nat.le_refl _) (by decide) rfl) (.slice A l.length c) (by kernel_rfl) (hyw1.out.below ((Below.refl _ _).alloc (Nat.le_refl _) _)) (by simp; omega) (by simp; omega) (by simp) (fun v9 w2 hown9 hgr9 => ?_)
  clear hi24 hz24 hs24 hb24 hc24
  rw [List.nil_append] at hown9
  have hb : Below w1.heap.size w1 w2 := ((Below.refl _ _).alloc (Nat.le_refl _) _).grown hgr9 (by simp) (fun q hq => by simp [Value.ownBlock] at hq; omega)
  obtain ⟨Ahk, chk, rfl⟩ := own_form hown9
  simp only [Act.put, fl1, fl2, fl3]
  have hBw2 : Hid (Below w.heap.size w w2) := hBw1.out.trans ((hb).mono (hBw1.out).size)
  have hyw2 : Hid (Rw 35 encE w2 (.slice A l.length c) l) := (hyw1.out).below hb
  have huw2 : Hid (Bytes w2 u q) := (huw1.out).below hb
  clear hBw1 hyw1 huw1
  have hkw2 : Hid (Rw 35 encE w2 (.slice Ahk l.length chk) l) := Rw.own encE_size' (by decide) hown9
  clear hb hown9 hgr9
  refine sg_call (by kernel_rfl) 16 #[.int .i64 cut, .slice Ahk l.length chk] (by kernel_rfl) (R := fun v w' => ∃ u, v = .tuple #[u, .int .i64 (er : Int)] ∧ Bytes w' u lr ∧ Below w2.heap.size w2 w') ((Head_calls cut l hokH.out Ahk l.length chk rfl (by omega) w2 hkw2.out).mono fun e w' h => by
    obtain ⟨v, h1, h2, h3⟩ := h
    rw [hRH.out] at h1 h2
    exact ⟨_, h1, v, rfl, h2, h3⟩) ?_
  rintro _ w3 ⟨u1, rfl, hby, hb⟩
  simp only [Act.put, fl1, fl2, fl3]
  have hBw3 : Hid (Below w.heap.size w w3) := hBw2.out.trans ((hb).mono (hBw2.out).size)
  have hyw3 : Hid (Rw 35 encE w3 (.slice A l.length c) l) := (hyw2.out).below hb
  have huw3 : Hid (Bytes w3 u q) := (huw2.out).below hb
  have hkw3 : Hid (Rw 35 encE w3 (.slice Ahk l.length chk) l) := (hkw2.out).below hb
  clear hBw2 hyw2 huw2 hkw2
  have hu1w3 : Hid (Bytes w3 u1 lr) := hby
  clear hb hby
  refine sl_run rfl (.tuple #[u1, .int .i64 (er : Int)]) w3 (by kernel_rfl) ?_
  simp only [Act.put, fl1, fl2, fl3]
  refine sl_run rfl (u1) w3 (by kernel_rfl) ?_
  simp only [Act.put, fl1, fl2, fl3]
  refine sl_run rfl (.int .i64 (er : Int)) w3 (by kernel_rfl) ?_
  simp only [Act.put, fl1, fl2, fl3]
  refine sl_run rfl (u1) w3 (by kernel_rfl) ?_
  simp only [Act.put, fl1, fl2, fl3]
  refine sl_run rfl (.int .i64 (er : Int)) w3 (by kernel_rfl) ?_
  simp only [Act.put, fl1, fl2, fl3]
  refine wpList_nil ?_
  go_upto_region 6 with fail
  refine wp_region_lit ?_
  refine sl_run rfl (.int .i64 cut) w3 (by kernel_rfl) ?_
  simp only [Act.put, fl1, fl2, fl3]
  refine sl_run rfl (.slice A l.length c) w3 (by kernel_rfl) ?_
  simp only [Act.put, fl1, fl2, fl3]
  refine sg_call (by kernel_rfl) 17 #[.int .i64 cut, .slice A l.length c] (by kernel_rfl) (R := fun v w' => ∃ u, v = .tuple #[u, .int .i64 (er : Int)] ∧ Bytes w' u lr ∧ Below w3.heap.size w3 w') ((rHead_calls cut l hokH.out A l.length c rfl (by omega) w3 hyw3.out).mono fun e w' h => by
    obtain ⟨v, h1, h2, h3⟩ := h
    rw [hRH.out] at h1 h2
    exact ⟨_, h1, v, rfl, h2, h3⟩) ?_
  rintro _ w4 ⟨u2, rfl, hby, hb⟩
  simp only [Act.put, fl1, fl2, fl3]
  have hBw4 : Hid (Below w.heap.size w w4) := hBw3.out.trans ((hb).mono (hBw3.out).size)
  have hyw4 : Hid (Rw 35 encE w4 (.slice A l.length c) l) := (hyw3.out).below hb
  have huw4 : Hid (Bytes w4 u q) := (huw3.out).below hb
  have hkw4 : Hid (Rw 35 encE w4 (.slice Ahk l.length chk) l) := (hkw3.out).below hb
  have hu1w4 : Hid (Bytes w4 u1 lr) := (hu1w3.out).below hb
  clear hBw3 hyw3 huw3 hkw3 hu1w3
  have hu2w4 : Hid (Bytes w4 u2 lr) := hby
  clear hb hby
  refine sl_run rfl (.tuple #[u2, .int .i64 (er : Int)]) w4 (by kernel_rfl) ?_
  simp only [Act.put, fl1, fl2, fl3]
  refine sl_run rfl (u2) w4 (by kernel_rfl) ?_
  simp only [Act.put, fl1, fl2, fl3]
  refine sl_run rfl (.int .i64 (er : Int)) w4 (by kernel_rfl) ?_
  simp only [Act.put, fl1, fl2, fl3]
  refine sl_run rfl (u2) w4 (by kernel_rfl) ?_
  simp only [Act.put, fl1, fl2, fl3]
  refine sl_run rfl (.int .i64 (er : Int)) w4 (by kernel_rfl) ?_
  simp only [Act.put, fl1, fl2, fl3]
  refine wpList_nil ?_
  go_upto_region 7 with fail
  refine wp_region_lit ?_
  refine sl_run rfl (.int .i64 (er : Int)) w4 (by kernel_rfl) ?_
  simp only [Act.put, fl1, fl2, fl3]
  refine sl_run rfl (.int .i64 (er : Int)) w4 (by kernel_rfl) ?_
  simp only [Act.put, fl1, fl2, fl3]
  refine sl_run rfl (.bool false) w4 (exec_neI 3 _ _ rfl (er : Int) (er : Int) (by kernel_rfl) (by kernel_rfl) false (by simp)) ?_
  simp only [Act.put, fl1, fl2, fl3]
  refine sl_run rfl (.bool false) w4 (by kernel_rfl) ?_
  simp only [Act.put, fl1, fl2, fl3]
  refine sg_run (by kernel_rfl) (u1) w4 (by kernel_rfl) ?_
  simp only [Act.put, fl1, fl2, fl3]
  refine sg_run (by kernel_rfl) (.string (strB lr)) w4 (exec_convB _ rfl u1 lr (by kernel_rfl) hu1w4.out) ?_
  simp only [Act.put, fl1, fl2, fl3]
  refine sg_run (by kernel_rfl) (u2) w4 (by kernel_rfl) ?_
  simp only [Act.put, fl1, fl2, fl3]
  refine sg_run (by kernel_rfl) (.string (strB lr)) w4 (exec_convB _ rfl u2 lr (by kernel_rfl) hu2w4.out) ?_
  simp only [Act.put, fl1, fl2, fl3]
  refine sg_run (by kernel_rfl) (.bool false) w4 (exec_neS 9 _ _ rfl (strB lr) (strB lr) (by kernel_rfl) (by kernel_rfl) false (by simp)) ?_
  simp only [Act.put, fl1, fl2, fl3]
  refine sl_run rfl (.bool false) w4 (by kernel_rfl) ?_
  simp only [Act.put, fl1, fl2, fl3]
  refine wpList_nil ?_
  go_upto_region 9 with fail
  refine wp_region_lit ?_
  refine sl_run rfl (.int .i64 cut) w4 (by kernel_rfl) ?_
  simp only [Act.put, fl1, fl2, fl3]
  refine sl_run rfl (.slice A l.length c) w4 (by kernel_rfl) ?_
  simp only [Act.put, fl1, fl2, fl3]
  refine sl_run rfl (u) w4 (by kernel_rfl) ?_
  simp only [Act.put, fl1, fl2, fl3]
  refine sg_call (by kernel_rfl) 18 #[.int .i64 cut, .slice A l.length c, u] (by kernel_rfl) (R := fun v w' => v = .int .i64 (V : Int) ∧ Below w4.heap.size w4 w') (((hVH.out.symm ▸ Verify_calls cut l hokH.out A l.length c rfl (by omega) q hqH.out (by omega) u w4 hyw4.out huw4.out)).mono fun e w' h => ⟨_, h.1, rfl, h.2⟩) ?_
  rintro _ w5 ⟨rfl, hb⟩
  simp only [Act.put, fl1, fl2, fl3]
  have hBw5 : Hid (Below w.heap.size w w5) := hBw4.out.trans ((hb).mono (hBw4.out).size)
  have hyw5 : Hid (Rw 35 encE w5 (.slice A l.length c) l) := (hyw4.out).below hb
  have huw5 : Hid (Bytes w5 u q) := (huw4.out).below hb
  have hkw5 : Hid (Rw 35 encE w5 (.slice Ahk l.length chk) l) := (hkw4.out).below hb
  have hu1w5 : Hid (Bytes w5 u1 lr) := (hu1w4.out).below hb
  have hu2w5 : Hid (Bytes w5 u2 lr) := (hu2w4.out).below hb
  clear hBw4 hyw4 huw4 hkw4 hu1w4 hu2w4
  clear hb
  refine sl_run rfl (.int .i64 cut) w5 (by kernel_rfl) ?_
  simp only [Act.put, fl1, fl2, fl3]
  refine sl_run rfl (.slice A l.length c) w5 (by kernel_rfl) ?_
  simp only [Act.put, fl1, fl2, fl3]
  refine sl_run rfl (u) w5 (by kernel_rfl) ?_
  simp only [Act.put, fl1, fl2, fl3]
  refine sg_call (by kernel_rfl) 19 #[.int .i64 cut, .slice A l.length c, u] (by kernel_rfl) (R := fun v w' => v = .int .i64 (V : Int) ∧ Below w5.heap.size w5 w') (((hVH.out.symm ▸ rVerify_calls cut l hokH.out A l.length c rfl (by omega) q hqH.out u w5 hyw5.out huw5.out)).mono fun e w' h => ⟨_, h.1, rfl, h.2⟩) ?_
  rintro _ w6 ⟨rfl, hb⟩
  simp only [Act.put, fl1, fl2, fl3]
  have hBw6 : Hid (Below w.heap.size w w6) := hBw5.out.trans ((hb).mono (hBw5.out).size)
  have hyw6 : Hid (Rw 35 encE w6 (.slice A l.length c) l) := (hyw5.out).below hb
  have huw6 : Hid (Bytes w6 u q) := (huw5.out).below hb
  have hkw6 : Hid (Rw 35 encE w6 (.slice Ahk l.length chk) l) := (hkw5.out).below hb
  have hu1w6 : Hid (Bytes w6 u1 lr) := (hu1w5.out).below hb
  have hu2w6 : Hid (Bytes w6 u2 lr) := (hu2w5.out).below hb
  clear hBw5 hyw5 huw5 hkw5 hu1w5 hu2w5
  clear hb
  refine sl_run rfl (.bool true) w6 (exec_eqI 3 _ _ rfl (V : Int) (V : Int) (by kernel_rfl) (by kernel_rfl) true (by simp)) ?_
  simp only [Act.put, fl1, fl2, fl3]
  refine sl_run rfl (.bool true) w6 (by kernel_rfl) ?_
  simp only [Act.put, fl1, fl2, fl3]
  refine sg_run (by kernel_rfl) (.int .i64 cut) w6 (by kernel_rfl) ?_
  simp only [Act.put, fl1, fl2, fl3]
  refine sg_run (by kernel_rfl) (.slice A l.length c) w6 (by kernel_rfl) ?_
  simp only [Act.put, fl1, fl2, fl3]
  refine sg_run (by kernel_rfl) (u2) w6 (by kernel_rfl) ?_
  simp only [Act.put, fl1, fl2, fl3]
  refine sg_call (by kernel_rfl) 18 #[.int .i64 cut, .slice A l.length c, u2] (by kernel_rfl) (R := fun v w' => v = .int .i64 (er : Int) ∧ Below w6.heap.size w6 w') (((hselfH.out ▸ Verify_calls cut l hokH.out A l.length c rfl (by omega) lr hlt.out (by omega) u2 w6 hyw6.out hu2w6.out)).mono fun e w' h => ⟨_, h.1, rfl, h.2⟩) ?_
  rintro _ w7 ⟨rfl, hb⟩
  simp only [Act.put, fl1, fl2, fl3]
  have hBw7 : Hid (Below w.heap.size w w7) := hBw6.out.trans ((hb).mono (hBw6.out).size)
  have hyw7 : Hid (Rw 35 encE w7 (.slice A l.length c) l) := (hyw6.out).below hb
  have huw7 : Hid (Bytes w7 u q) := (huw6.out).below hb
  have hkw7 : Hid (Rw 35 encE w7 (.slice Ahk l.length chk) l) := (hkw6.out).below hb
  have hu1w7 : Hid (Bytes w7 u1 lr) := (hu1w6.out).below hb
  have hu2w7 : Hid (Bytes w7 u2 lr) := (hu2w6.out).below hb
  clear hBw6 hyw6 huw6 hkw6 hu1w6 hu2w6
  clear hb
  refine sg_run (by kernel_rfl) (.int .i64 (er : Int)) w7 (by kernel_rfl) ?_
  simp only [Act.put, fl1, fl2, fl3]
  refine sg_run (by kernel_rfl) (.bool true) w7 (exec_eqI 3 _ _ rfl (er : Int) (er : Int) (by kernel_rfl) (by kernel_rfl) true (by simp)) ?_
  simp only [Act.put, fl1, fl2, fl3]
  refine sl_run rfl (.bool true) w7 (by kernel_rfl) ?_
  simp only [Act.put, fl1, fl2, fl3]
  refine sl_run rfl (.bool true) w7 (by kernel_rfl) ?_
  simp only [Act.put, fl1, fl2, fl3]
  refine wpList_nil ?_
  have hF := hBw7
  clear hBw7 hyw7 huw7 hu1w7 hu2w7 hkw7
  go_wp2_with fail
  go_ret
  exact ⟨rfl, hF.out⟩
end Go.Proofs.YtadopkifpfmhcaaDoor
namespace Go.Proofs.YtadopkifpfmhcaaDoor.chainHeads
open Go.ChangeShapes Go.WideShapes Go.ChangeAt Go.RowKit

theorem own : ownKnob Tryd.prog.godebug = none := by kernel_rfl
theorem laidOut : laidOutB Tryd.prog = true := by kernel_rfl
set_option maxRecDepth 100000 in
theorem lifted (os : Os) (started : os.Started) (H : Type) (enc : TypeId × Value → H) :
    ReturnsInHanded {} Tryd.checked os 4 .any (fun w args => (Rows.chainHeadsSpec.pre enc Tryd.prog Tryd.f4 Rows.chainHeadsRow.domain false w args ∧ laidMet Tryd.prog [("math/bits.deBruijn64tab", Rows.laid_math_bits_deBruijn64tab)] w) ∧ sizedMet enc Tryd.prog Tryd.f4 (OpenSpec.ofChange Rows.chainHeadsSpec) false w args)
      (Rows.chainHeadsSpec.post enc Tryd.prog Tryd.f4 false true false false) := by
  refine returnsInHanded_of_change_and (C := Tryd.checked) (X := fun w _ => laidMet Tryd.prog [("math/bits.deBruijn64tab", Rows.laid_math_bits_deBruijn64tab)] w) (fun _ _ _ hh h => h.of_heap hh) own started (by kernel_rfl) Tryd.func4
    (ChangeSpec.witness_at (enc := enc) (C := Tryd.checked) (os := os) (X := fun w _ => laidMet Tryd.prog [("math/bits.deBruijn64tab", Rows.laid_math_bits_deBruijn64tab)] w) false (laidWorld os) #[.int .i64 0, .slice none 0 0, .slice none 0 0] 8 rfl (by kernel_rfl) (by kernel_rfl) (by kernel_rfl) (by kernel_rfl) (by kernel_rfl) (laidWorld_met os _)) ?_
  intro W base args ds gs before hval0 hW hcnd hsz hL _
  have hval : ∀ (j : Nat) t v, Tryd.f4.params[j]? = some t → args[j]? = some v → Value.okWide Tryd.prog W .any base t v := hval0
  have htab := tab_of_laid hL
  have hW' := hW
  obtain ⟨p, q, hA0, hV, rfl, hfz, hnd⟩ := hW
  have hA : DataW.TrodAll enc Tryd.prog W 0 (fun _ => true) true Tryd.f4.params.toList args.toList ds p := hA0
  have hsz2 : (DataW.weightsEach Tryd.prog ([3, 34, 25] ++ Rows.chainHeadsSpec.plain.varTypes Tryd.prog) (ds ++ gs)).all (· ≤ reachBytes) = true := by
    have := hsz; rw [Tryd.params4] at this; exact this
  rw [Tryd.params4] at hA hval
  obtain ⟨v0, vs0, d0, ds0, p0, q0, hargs, rfl, rfl, h0, r0⟩ := trodAll_cons hA
  obtain ⟨v1, vs1, d1, ds1, p1, q1, rfl, rfl, rfl, h1, r1⟩ := trodAll_cons r0
  obtain ⟨v2, vs2, d2, ds2, p2, q2, rfl, rfl, rfl, h2, r2⟩ := trodAll_cons r1
  obtain ⟨rfl, rfl, rfl⟩ := trodAll_nil r2
  obtain rfl : args = #[v0, v1, v2] := by cases args; simp_all
  obtain ⟨rfl, rfl⟩ := trodVars_none hV
  have k0 := h0
  have lt0 : ∀ x ∈ p0, x.block < W.heap.size := by obtain ⟨m, hm⟩ := k0; exact DataW.trod_lt m _ _ _ hm
  obtain ⟨n0, rfl, rfl, rfl, wf0⟩ := open_int Tryd.underlying3 (hval 0 3 v0 rfl rfl) h0
  have b0 := int_wf wf0
  have k1 := h1
  have lt1 : ∀ x ∈ p1, x.block < W.heap.size := by obtain ⟨m, hm⟩ := k1; exact DataW.trod_lt m _ _ _ hm
  obtain ⟨a1, n1, c1, l1, rfl, e1, y1, g1, z1⟩ := arg_ens (hval 1 34 v1 rfl rfl) h1
  have m1 : n1 * 72 ≤ 140737488351232 := arg_room hsz2 (j := 1) (t := 34) (e := 24) rfl rfl Tryd.underlying34 (by kernel_rfl) (by decide) z1
  have k2 := h2
  have lt2 : ∀ x ∈ p2, x.block < W.heap.size := by obtain ⟨m, hm⟩ := k2; exact DataW.trod_lt m _ _ _ hm
  obtain ⟨a2, n2, c2, l2, rfl, e2, y2, g2, z2⟩ := arg_bytes (hval 2 25 v2 rfl rfl) h2
  have m2 : n2 * 1 ≤ 140737488351232 := arg_room hsz2 (j := 2) (t := 25) (e := 5) rfl rfl Tryd.underlying25 (by kernel_rfl) (by decide) z2
  clear hA0 hval0
  refine (lheads_calls n0 l1 g1 a1 n1 c1 e1 l2 g2 _ (by rw [← e2]; omega) W htab y1 (e2 ▸ y2)).mono fun e W' ⟨he, bel⟩ => ?_
  subst he
  exact ⟨_, rfl, _, _, _, [], _, [], hW', trodAll_mk1 (shut_bool Tryd.underlying4 _), (trodAll_cons_mk (Below.trod laidOut (by kernel_rfl) (of_decide_eq_true (by kernel_rfl)) k0 bel lt0) (trodAll_cons_mk (Below.trod laidOut (by kernel_rfl) (of_decide_eq_true (by kernel_rfl)) k1 bel lt1) (trodAll_cons_mk (Below.trod laidOut (by kernel_rfl) (of_decide_eq_true (by kernel_rfl)) k2 bel lt2) trodAll_mk0))), rfl, bel.frame _, fun h => by cases h⟩
theorem over : Rows.ChainHeadsSaid :=
  OpenClaim.holds_of_wide 4 Tryd.f4 rfl rfl rfl rfl rfl rfl rfl ⟨rfl, rfl, rfl, rfl, rfl⟩ rfl rfl rfl rfl rfl (by kernel_rfl) Tryd.func4 (by kernel_rfl)
    (of_decide_eq_true (by kernel_rfl)) (by unfold Func.isWrapper; first | (rw [if_pos (by decide +kernel)]; kernel_rfl) | (rw [if_neg (by decide +kernel)]; exact ⟨rfl, rfl⟩))
    (fun os started H enc _ => lifted os started H enc)
theorem card : Rows.ChainHeadsCardSaid :=
  Claim7.holds_tied_plain_at .later [] [.data] true (true, "eaf48906fbdc0550d943cf212d39e566490c253f0718d60b671d22ae1cd4fb08") false
    over (fun _ h => by cases h) (by kernel_rfl) (fun _ h => by cases h) chainHeads_row_tie rfl ⟨rfl, rfl⟩ (by kernel_rfl) rfl
    (fun f fn hf hfn => by
      obtain rfl : f = 4 := Option.some.inj ((show Tryd.prog.funcNamed "mandate/mandatelaw18.ChainHeads" = some 4 by kernel_rfl).symm.trans hf) |>.symm
      obtain rfl : fn = Tryd.f4 := (Option.some.inj (Tryd.func4.symm.trans hfn)).symm
      exact ⟨by kernel_rfl, fun j t ht => by
        rw [Tryd.params4] at ht
        have h3 : t = 3 ∨ t = 25 ∨ t = 34 := by
          rcases j with _ | j
          · simp at ht; subst ht; simp
          rcases j with _ | j
          · simp at ht; subst ht; simp
          rcases j with _ | j
          · simp at ht; subst ht; simp
          · simp at ht
        rcases h3 with rfl | rfl | rfl
        all_goals exact (show Tryd.prog.wantsStandIn _ = false by kernel_rfl)⟩)
    (by kernel_rfl)
end Go.Proofs.YtadopkifpfmhcaaDoor.chainHeads
namespace Go.Proofs.YtadopkifpfmhcaaDoor
/-- The statement. -/
theorem chainHeads_holds : Rows.ChainHeadsCardSaid := chainHeads.card
#print axioms chainHeads_holds
end Go.Proofs.YtadopkifpfmhcaaDoor
