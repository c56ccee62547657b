/-
  The law ChainBegins holds: for every input it answers true, and what came in reads as it did; its card.
-/
import Derived.Test.YtadopkifpfmhcaaDoorMgC
import Derived.Test.YtadopkifpfmhcaaDoorRows
import Derived.Test.YtadopkifpfmhcaaDoorCards
import Derived.Test.YtadopkifpfmhcaaDoorTie
import Derived.WalkKit
import Derived.ProofKit
import Derived.OpenShut
import Derived.ShutString
import Derived.ChangeOld
import Derived.Below
import Derived.SevenTiedAt
import Derived.LaidHandle
set_option linter.unusedVariables false
set_option linter.unusedSimpArgs false
namespace Go.Proofs.YtadopkifpfmhcaaDoor
open Go.RowKit
open Sha (vals Bytes Lies bytesC sumB)
section
variable {ty : TypeId} {k : Nat} {o : Oper} {a : Act}
theorem exec_takeS (hu : Tryd.prog.underlying ty = some (.slice (Tryd.prog.elem ty))) (hsz : ∀ w, (sizeOf (Tryd.prog.elem ty)).run Tryd.prog w = .ok k w) (x hi : Operand) (ho : o.op = .slice ty x none (some hi) none) (A : Option Addr) (n c q : Nat) (hx : a.eval x = .slice A n c)
    (hh : a.eval hi = .int .i64 (q : Int)) (hc : q ≤ c) (w : World) : (execOp a.eval o).run Tryd.prog w = .ok (.value (.slice (if c = 0 then A else A.map (·.add 0)) q c)) w := by
  unfold execOp
  simp only [ho, Option.map_some, Option.map_none, hx, hh, Sem.run_bind, run_sliceAt_slice w ty _ _ _ _ hu, run_slice_h w ty _ n c hu .i64 (q : Int) (by omega) (by omega), hsz, Result.andThen_ok, Sem.run_pure, sliced, Int.toNat_natCast, Nat.zero_mul, Nat.sub_zero]
theorem exec_fromS (hu : Tryd.prog.underlying ty = some (.slice (Tryd.prog.elem ty))) (hsz : ∀ w, (sizeOf (Tryd.prog.elem ty)).run Tryd.prog w = .ok k w) (x lo : Operand) (ho : o.op = .slice ty x (some lo) none none) (A : Option Addr) (n c q : Nat) (hx : a.eval x = .slice A n c)
    (hh : a.eval lo = .int .i64 (q : Int)) (hc : q ≤ n) (w : World) : (execOp a.eval o).run Tryd.prog w = .ok (.value (.slice (if c = q then A else A.map (·.add (q * k))) (n - q) (c - q))) w := by
  unfold execOp
  simp only [ho, Option.map_some, Option.map_none, hx, hh, Sem.run_bind, run_sliceAt_slice w ty _ _ _ _ hu, run_slice_l w ty _ n c hu .i64 (q : Int) (by omega) (by omega), hsz, Result.andThen_ok, Sem.run_pure, sliced, Int.toNat_natCast]
end
theorem rw_drop {α : Type} [Inhabited α] {k : Nat} {enc : α → Array Value} {w : World} {l : List α} {A : Option Addr} {n c : Nat} (hn : n = l.length) (hy : Rw k enc w (.slice A n c) l) (q : Nat) (hq : q ≤ n) :
    Rw k enc w (.slice (if c = q then A else A.map (·.add (q * k))) (n - q) (c - q)) (l.drop q) := by
  rcases hy with ⟨A', c', h, rfl, h2⟩ | ⟨g, o, c', h, h2, h3, h4⟩
  · injection h with h5 h6 h7
    subst h5 h6
    have hq0 : q = 0 := by omega
    subst hq0
    subst h7
    refine .inl ⟨if c = 0 then A else A.map (·.add (0 * k)), c - 0, rfl, by simp, fun h => ?_⟩
    rw [Nat.sub_zero]
    by_cases hc : c = 0
    · rw [if_pos hc] at h; exact h2 h
    · rw [if_neg hc] at h
      cases A with
      | none => exact h2 rfl
      | some ad => simp at h
  · injection h with h5 h6 h7
    subst h5 h7
    by_cases hql : q = l.length
    · have : l.drop q = [] := by rw [hql]; simp
      rw [this]
      refine .inl ⟨_, c - q, by congr 1; omega, rfl, fun h => ?_⟩
      split at h
      · cases h
      · simp at h
    · refine .inr ⟨g, o + q * k, c - q, ?_, by rw [List.length_drop]; omega, h3, fun i hi => ?_⟩
      · rw [if_neg (by omega), Option.map_some, Addr.add_mid, List.length_drop, hn]
      · rw [List.length_drop] at hi
        have h5 := h4 (q + i) (by omega)
        have e1 : (l.drop q).getD i default = l.getD (q + i) default := by simp [List.getD_eq_getElem?_getD]
        have e2 : o + q * k + i * k = o + (q + i) * k := by rw [Nat.add_mul]; omega
        rw [e1, e2]; exact h5
theorem subI {o : Oper} {a : Act} (x : Operand) (ho : o.op = .binOp .sub 3 x (.const (.int .i64 1)) 3) (n : Nat) (hx : a.eval x = .int .i64 (n : Int)) (h1 : 1 ≤ n) (h2 : n ≤ 9223372036854775807) (w : World) : (execOp a.eval o).run Tryd.prog w = .ok (.value (.int .i64 ((n - 1 : Nat) : Int))) w := by
  unfold execOp
  have hw : IntKind.i64.wrap ((n : Int) - 1) = ((n - 1 : Nat) : Int) := by rw [IntKind.wrap_i64]; omega
  have hc : a.eval (.const (.int .i64 1)) = .int .i64 1 := rfl
  simp [ho, hx, hc, eqGuard, binOp_sub, Op.intArith, hw]
end Go.Proofs.YtadopkifpfmhcaaDoor
namespace Go.Proofs.YtadopkifpfmhcaaDoor
open Go.RowKit
open Sha (vals Bytes Lies bytesC sumB)
open Go.Proofs.YtadopkifpfmhcaaDoorW.PrintWords Go.Proofs.YtadopkifpfmhcaaDoorW.PrintLast Go.Proofs.YtadopkifpfmhcaaDoorW.PrintMore
theorem rightS_pre {cut : Int} {p : List En} {x : En} (h : rightS cut (p ++ [x]) = true) : rightS cut p = true ∧ goodE x = true := by
  simp only [rightS, badsB, Bool.and_eq_true, decide_eq_true_eq, Bool.not_eq_true', List.any_append, Bool.or_eq_false_iff] at h ⊢
  obtain ⟨h1, h2, h3, h4⟩ := h
  refine ⟨⟨h1, h2, h3⟩, ?_⟩
  simpa using h4
theorem headP_snoc {m : Nat} (p : List En) (x : En) : headP m (p ++ [x]) (p.length + 1) = (sumB (headP m p p.length ++ (bytesS (p.length : Int) x).1)).take m := by
  rw [headP, headP_app _ _ _ (Nat.le_refl _)]
  simp
set_option maxRecDepth 100000 in
set_option maxHeartbeats 16000000 in
theorem lbegins_calls (cut : Int) (l : List En) (hok : ∀ x ∈ l, x.ok) (A : Option Addr) (n c : Nat) (hn : n = l.length) (w : World) (ht : Tab w) (hy : Rw 35 encE w (.slice A n c) l) :
    Calls Tryd.prog 6 #[.int .i64 cut, .slice A n c] w fun z w' => z = .returned (.bool true) ∧ Below w.heap.size w w' := by
  have htH : Hid (Tab w) := ht
  have hn' : Hid (n = l.length) := hn
  have hyw : Hid (Rw 35 encE w (.slice A n c) l) := hy
  have hBw : Hid (Below w.heap.size w w) := Below.refl _ _
  have hokH : Hid (∀ x ∈ l, x.ok) := hok
  clear hn hy hok ht
  go_enter Tryd.func6, Tryd.ntmps6
  go_upto_region 1 with fail
  refine wp_region_lit ?_
  refine sg_call (by kernel_rfl) 13 #[] (by kernel_rfl) (R := fun v w' => v = .bool true ∧ Below w.heap.size w w') ((fixed_calls w htH.out.1 htH.out).mono fun e w' h => ⟨_, h.1, rfl, h.2⟩) ?_
  rintro _ w1 ⟨rfl, hb⟩
  simp only [Act.put, fl1, fl2, fl3]
  have hBw1 : Hid (Below w.heap.size w w1) := hBw.out.trans ((hb).mono (hBw.out).size)
  have hyw1 : Hid (Rw 35 encE w1 (.slice A n c) l) := (hyw.out).below hb
  clear hBw hyw
  clear hb
  refine sl_run rfl (.bool false) w1 (by kernel_rfl) ?_
  simp only [Act.put, fl1, fl2, fl3]
  refine wpList_nil ?_
  by_cases h20 : 20 < n
  · have hI : (n : Int) > 20 := by omega
    have hF := hBw1
    clear hBw1 hyw1
    go_wp2_with fail
    go_ret
    exact ⟨rfl, hF.out⟩
  have hI : ¬ (n : Int) > 20 := by omega
  by_cases h0 : n = 0
  · subst h0
    have hF := hBw1
    clear hBw1 hyw1 hn' h20 hI
    go_wp2_with fail
    go_ret
    exact ⟨rfl, hF.out⟩
  obtain ⟨p, x, rfl⟩ : ∃ p x, l = p ++ [x] := by
    rcases List.eq_nil_or_concat l with rfl | ⟨p, x, h⟩
    · exact absurd hn'.out h0
    · exact ⟨p, x, by rw [h]; simp⟩
  have hnp : n = p.length + 1 := by have := hn'.out; simpa using this
  have hnH : Hid (n = p.length + 1) := hnp
  have hI2 : ¬ (n : Int) = 0 := by omega
  obtain ⟨gb, ob, rfl, hcn, hgb, hel⟩ := hyw1.out.elem p.length (by simp)
  have hxe : (p ++ [x]).getD p.length default = x := by simp
  rw [hxe] at hel
  have hokx : Hid x.ok := hokH.out x (by simp)
  have hokp : Hid (∀ y ∈ p, y.ok) := fun y hy => hokH.out y (by simp [hy])
  obtain ⟨lr, er, hR⟩ : ∃ lr er, headS cut (p ++ [x]) = (lr, er) := ⟨_, _, rfl⟩
  have hRH : Hid (headS cut (p ++ [x]) = (lr, er)) := hR
  obtain ⟨gr, eg, hG⟩ : ∃ lr er, headS cut p = (lr, er) := ⟨_, _, rfl⟩
  have hGH : Hid (headS cut p = (gr, eg)) := hG
  obtain ⟨br, eb, hbr⟩ : ∃ lr er, bytesS (p.length : Int) x = (lr, er) := ⟨_, _, rfl⟩
  have hbH : Hid (bytesS (p.length : Int) x = (br, eb)) := hbr
  have helH : Hid (w1.rangeAt gb (ob + p.length * 35) (encE x).toList) := hel
  have hgbH : Hid (gb < w1.heap.size) := hgb
  have hr20 : p.length < 20 := by omega
  have htk := rw_take (k := 35) (enc := encE) hn'.out hyw1.out p.length (by omega)
  have htk2 : Rw 35 encE w1 (.slice (some ⟨gb, ob, none⟩) p.length c) p := by
    have := htk.2
    rw [if_neg (by omega), Option.map_some, Addr.add_mid, Nat.add_zero, List.take_left] at this
    exact this
  have hpw1 : Hid (Rw 35 encE w1 (.slice (some ⟨gb, ob, none⟩) p.length c) p) := htk2
  clear hn' h20 h0 hxe hel hokH hR hG hbr htk htk2 hgb hnp
  go_upto_region 5 with fail
  refine wp_region_lit ?_
  refine sl_run rfl (.int .i64 cut) w1 (by kernel_rfl) ?_
  simp only [Act.put, fl1, fl2, fl3]
  refine sl_run rfl (.slice (some ⟨gb, ob, none⟩) n c) w1 (by kernel_rfl) ?_
  simp only [Act.put, fl1, fl2, fl3]
  refine sg_call (by kernel_rfl) 16 #[.int .i64 cut, .slice (some ⟨gb, ob, none⟩) n c] (by kernel_rfl) (R := fun v w' => ∃ u, v = .tuple #[u, .int .i64 (er : Int)] ∧ Bytes w' u lr ∧ Below w1.heap.size w1 w') ((Head_calls cut (p ++ [x]) (fun y hy => (List.mem_append.1 hy).elim (hokp.out y) (fun h => by rw [List.mem_singleton.1 h]; exact hokx.out)) (some ⟨gb, ob, none⟩) n c (by have := hnH.out; simp; try omega) (by have := hnH.out; omega) w1 hyw1.out).mono fun e w' h => by
    obtain ⟨v, h1, h2, h3⟩ := h
    rw [hRH.out] at h1 h2
    exact ⟨_, h1, v, rfl, h2, h3⟩) ?_
  rintro _ w2 ⟨u1, rfl, hby, hb⟩
  simp only [Act.put, fl1, fl2, fl3]
  have hBw2 : Hid (Below w.heap.size w w2) := hBw1.out.trans ((hb).mono (hBw1.out).size)
  have hyw2 : Hid (Rw 35 encE w2 (.slice (some ⟨gb, ob, none⟩) n c) (p ++ [x])) := (hyw1.out).below hb
  have hpw2 : Hid (Rw 35 encE w2 (.slice (some ⟨gb, ob, none⟩) p.length c) p) := (hpw1.out).below hb
  clear hBw1 hyw1 hpw1
  have hu1w2 : Hid (Bytes w2 u1 lr) := hby
  clear hb hby
  refine sl_run rfl (.tuple #[u1, .int .i64 (er : Int)]) w2 (by kernel_rfl) ?_
  simp only [Act.put, fl1, fl2, fl3]
  refine sl_run rfl (u1) w2 (by kernel_rfl) ?_
  simp only [Act.put, fl1, fl2, fl3]
  refine sl_run rfl (.int .i64 (er : Int)) w2 (by kernel_rfl) ?_
  simp only [Act.put, fl1, fl2, fl3]
  refine sl_run rfl (u1) w2 (by kernel_rfl) ?_
  simp only [Act.put, fl1, fl2, fl3]
  refine sl_run rfl (.int .i64 (er : Int)) w2 (by kernel_rfl) ?_
  simp only [Act.put, fl1, fl2, fl3]
  refine wpList_nil ?_
  go_upto_region 6 with fail
  refine wp_region_lit ?_
  refine sl_run rfl (.int .i64 cut) w2 (by kernel_rfl) ?_
  simp only [Act.put, fl1, fl2, fl3]
  refine sl_run rfl (.slice (some ⟨gb, ob, none⟩) n c) w2 (by kernel_rfl) ?_
  simp only [Act.put, fl1, fl2, fl3]
  refine sl_run rfl (.slice (some ⟨gb, ob, none⟩) n c) w2 (by kernel_rfl) ?_
  simp only [Act.put, fl1, fl2, fl3]
  refine sl_run rfl (.int .i64 (n : Int)) w2 (by kernel_rfl) ?_
  simp only [Act.put, fl1, fl2, fl3]
  refine sl_run rfl (.int .i64 (p.length : Int)) w2 ((subI _ rfl n (by kernel_rfl) (by have := hnH.out; omega) (by have := hnH.out; omega) _).trans (by rw [hnH.out]; simp)) ?_
  simp only [Act.put, fl1, fl2, fl3]
  refine sl_run rfl (.slice (some ⟨gb, ob, none⟩) p.length c) w2 ((exec_takeS un34 sz34 _ _ rfl (some ⟨gb, ob, none⟩) n c p.length (by kernel_rfl) (by kernel_rfl) (by have := hnH.out; omega) _).trans (by rw [if_neg (by have := hnH.out; omega), Option.map_some, Addr.add_mid, Nat.add_zero])) ?_
  simp only [Act.put, fl1, fl2, fl3]
  refine sg_call (by kernel_rfl) 16 #[.int .i64 cut, .slice (some ⟨gb, ob, none⟩) p.length c] (by kernel_rfl) (R := fun v w' => ∃ u, v = .tuple #[u, .int .i64 (eg : Int)] ∧ Bytes w' u gr ∧ Below w2.heap.size w2 w') ((Head_calls cut p hokp.out (some ⟨gb, ob, none⟩) p.length c (by have := hnH.out; simp; try omega) (by have := hnH.out; omega) w2 hpw2.out).mono fun e w' h => by
    obtain ⟨v, h1, h2, h3⟩ := h
    rw [hGH.out] at h1 h2
    exact ⟨_, h1, v, rfl, h2, h3⟩) ?_
  rintro _ w3 ⟨u2, rfl, hby, hb⟩
  simp only [Act.put, fl1, fl2, fl3]
  have hBw3 : Hid (Below w.heap.size w w3) := hBw2.out.trans ((hb).mono (hBw2.out).size)
  have hyw3 : Hid (Rw 35 encE w3 (.slice (some ⟨gb, ob, none⟩) n c) (p ++ [x])) := (hyw2.out).below hb
  have hpw3 : Hid (Rw 35 encE w3 (.slice (some ⟨gb, ob, none⟩) p.length c) p) := (hpw2.out).below hb
  have hu1w3 : Hid (Bytes w3 u1 lr) := (hu1w2.out).below hb
  clear hBw2 hyw2 hpw2 hu1w2
  have hu2w3 : Hid (Bytes w3 u2 gr) := hby
  clear hb hby
  refine sl_run rfl (.tuple #[u2, .int .i64 (eg : Int)]) w3 (by kernel_rfl) ?_
  simp only [Act.put, fl1, fl2, fl3]
  refine sl_run rfl (u2) w3 (by kernel_rfl) ?_
  simp only [Act.put, fl1, fl2, fl3]
  refine sl_run rfl (.int .i64 (eg : Int)) w3 (by kernel_rfl) ?_
  simp only [Act.put, fl1, fl2, fl3]
  refine sl_run rfl (u2) w3 (by kernel_rfl) ?_
  simp only [Act.put, fl1, fl2, fl3]
  refine sl_run rfl (.int .i64 (eg : Int)) w3 (by kernel_rfl) ?_
  simp only [Act.put, fl1, fl2, fl3]
  refine wpList_nil ?_
  have helw3 : Hid (w3.rangeAt gb (ob + p.length * 35) (encE x).toList) := by
    have := run_elem hyw3.out p.length (by simp)
    have hxe : (p ++ [x]).getD p.length default = x := by simp
    rw [hxe] at this; exact this
  clear helH
  go_upto_region 7 with fail
  refine wp_region_lit ?_
  refine sl_run rfl (.slice (some ⟨gb, ob, none⟩) n c) w3 (by kernel_rfl) ?_
  simp only [Act.put, fl1, fl2, fl3]
  refine sl_run rfl (.int .i64 (n : Int)) w3 (by kernel_rfl) ?_
  simp only [Act.put, fl1, fl2, fl3]
  refine sl_run rfl (.int .i64 (p.length : Int)) w3 ((subI _ rfl n (by kernel_rfl) (by have := hnH.out; omega) (by have := hnH.out; omega) _).trans (by rw [hnH.out]; simp)) ?_
  simp only [Act.put, fl1, fl2, fl3]
  refine sl_run rfl (.slice (some ⟨gb, ob, none⟩) n c) w3 (by kernel_rfl) ?_
  simp only [Act.put, fl1, fl2, fl3]
  refine sl_run rfl (.slice (some ⟨gb, ob, none⟩) n c) w3 (by kernel_rfl) ?_
  simp only [Act.put, fl1, fl2, fl3]
  refine sl_run rfl (.int .i64 (n : Int)) w3 (by kernel_rfl) ?_
  simp only [Act.put, fl1, fl2, fl3]
  refine sl_run rfl (.int .i64 (p.length : Int)) w3 ((subI _ rfl n (by kernel_rfl) (by have := hnH.out; omega) (by have := hnH.out; omega) _).trans (by rw [hnH.out]; simp)) ?_
  simp only [Act.put, fl1, fl2, fl3]
  refine sl_run rfl (.pointer (some ⟨gb, ob + p.length * 35, none⟩)) w3 (exec_index un34 sz34 _ _ rfl gb ob n c p.length (by kernel_rfl) (by kernel_rfl) (by have := hnH.out; omega) _) ?_
  simp only [Act.put, fl1, fl2, fl3]
  refine sl_run rfl (.agg (encE x)) w3 (load_en _ _ rfl gb (ob + p.length * 35) (by kernel_rfl) x helw3.out) ?_
  simp only [Act.put, fl1, fl2, fl3]
  refine sg_call (by kernel_rfl) 11 #[.int .i64 (p.length : Int), .agg (encE x)] (by kernel_rfl) (R := fun v w' => ∃ u, v = .tuple #[u, .int .i64 (eb : Int)] ∧ Bytes w' u br ∧ Below w3.heap.size w3 w') ((chbytes_calls (p.length : Int) (by omega) x hokx.out w3).mono fun e w' h => by
    obtain ⟨v, h1, h2, h3⟩ := h
    rw [hbH.out] at h1 h2
    exact ⟨_, h1, v, rfl, h2, h3⟩) ?_
  rintro _ w4 ⟨u3, rfl, hby, hb⟩
  simp only [Act.put, fl1, fl2, fl3]
  have hBw4 : Hid (Below w.heap.size w w4) := hBw3.out.trans ((hb).mono (hBw3.out).size)
  have hyw4 : Hid (Rw 35 encE w4 (.slice (some ⟨gb, ob, none⟩) n c) (p ++ [x])) := (hyw3.out).below hb
  have hpw4 : Hid (Rw 35 encE w4 (.slice (some ⟨gb, ob, none⟩) p.length c) p) := (hpw3.out).below hb
  have hu1w4 : Hid (Bytes w4 u1 lr) := (hu1w3.out).below hb
  have hu2w4 : Hid (Bytes w4 u2 gr) := (hu2w3.out).below hb
  clear hBw3 hyw3 hpw3 hu1w3 hu2w3
  have hu3w4 : Hid (Bytes w4 u3 br) := hby
  clear hb hby helw3
  refine sl_run rfl (.tuple #[u3, .int .i64 (eb : Int)]) w4 (by kernel_rfl) ?_
  simp only [Act.put, fl1, fl2, fl3]
  refine sl_run rfl (u3) w4 (by kernel_rfl) ?_
  simp only [Act.put, fl1, fl2, fl3]
  refine sl_run rfl (.int .i64 (eb : Int)) w4 (by kernel_rfl) ?_
  simp only [Act.put, fl1, fl2, fl3]
  refine sl_run rfl (u3) w4 (by kernel_rfl) ?_
  simp only [Act.put, fl1, fl2, fl3]
  refine sl_run rfl (.int .i64 (eb : Int)) w4 (by kernel_rfl) ?_
  simp only [Act.put, fl1, fl2, fl3]
  refine wpList_nil ?_
  by_cases her : er = 0
  case neg =>
    have hlr : lr = [] := by
      have h := hRH.out
      unfold headS at h
      split at h
      · injection h with h1 h2; exact absurd h2.symm her
      · injection h with h1 h2; exact h1.symm
    subst hlr
    obtain ⟨A1, c1, rfl⟩ := hu1w4.out.form
    have heI : ((er : Int) != 0) = true := by rw [bne_iff_ne]; omega
    have hF := hBw4
    clear hBw4 hyw4 hpw4 hu1w4 hu2w4 hu3w4 hRH hGH hbH her
    go_wp2_with fail
    go_ret
    exact ⟨rfl, hF.out⟩
  case pos =>
    subst her
    have hright : rightS cut (p ++ [x]) = true := by
      have h := hRH.out
      unfold headS at h
      split at h
      · assumption
      · injection h with h1 h2; exact absurd h2 (by decide)
    obtain ⟨hc1, hc2⟩ := right_cut hright
    obtain ⟨m, rfl⟩ : ∃ m : Nat, cut = (m : Int) := ⟨cut.toNat, by omega⟩
    have hm32 : m ≤ 32 := by omega
    have hg0 : gr = headP m p p.length ∧ eg = 0 := by
      have h := hGH.out
      unfold headS at h
      rw [if_pos (rightS_pre hright).1, Int.toNat_natCast] at h
      injection h with h1 h2
      exact ⟨h1.symm, h2.symm⟩
    obtain ⟨hgr, rfl⟩ := hg0
    have hlr : lr = (sumB (gr ++ br)).take m := by
      have h := hRH.out
      unfold headS at h
      rw [if_pos hright, Int.toNat_natCast] at h
      injection h with h1 h2
      rw [← h1, List.length_append, List.length_singleton, headP_snoc, ← hgr, hbH.out]
    have hgl : gr.length = m := by rw [hgr]; exact headP_len hm32 _ _
    have hglt : ∀ y ∈ gr, y < 256 := by rw [hgr]; exact headP_lt _ _ _
    have hbl : br.length ≤ 1000000 := by have := @bytesS_len x (p.length : Int); rw [hbH.out] at this; exact Nat.le_trans this (by decide)
    have hblt : ∀ y ∈ br, y < 256 := by have := bytesS_lt hokx.out (p.length : Int); rw [hbH.out] at this; exact this
    obtain ⟨S, hS⟩ : ∃ S, S = sumB (gr ++ br) := ⟨_, rfl⟩
    have hSH : Hid (S = sumB (gr ++ br)) := hS
    have hSl : S.length = 32 := by rw [hS, Sha.sumB_length]
    have hlrH : Hid (lr = S.take m) := by show _ = _; rw [hlr, hS]
    have hglH : Hid (gr.length = m) := hgl
    have hgltH : Hid (∀ y ∈ gr, y < 256) := hglt
    have hbltH : Hid (∀ y ∈ br, y < 256) := hblt
    have hSlH : Hid (S.length = 32) := hSl
    obtain ⟨A2, c2, rfl⟩ := hu2w4.out.form
    obtain ⟨A3, c3, rfl⟩ := hu3w4.out.form
    clear hRH hGH hbH hright hgr hlr hgl hglt hblt hS hSl hc1 hc2 hyw4 hpw4
    go_upto_region 10 with fail
    refine wp_region_lit ?_
    refine sl_run rfl (.slice A2 gr.length c2) w4 (by kernel_rfl) ?_
    simp only [Act.put, fl1, fl2, fl3]
    refine sl_run rfl (.slice A3 br.length c3) w4 (by kernel_rfl) ?_
    simp only [Act.put, fl1, fl2, fl3]
    refine sg_run (by kernel_rfl) (.slice (some ⟨w4.heap.size, 0, none⟩) 2 2) (w4.alloc (.cells #[.slice A2 gr.length c2, .slice A3 br.length c3] 25)) (by kernel_rfl) ?_
    simp only [Act.put, fl1, fl2, fl3]
    have hn : (w4.alloc (.cells #[.slice A2 gr.length c2, .slice A3 br.length c3] 25)).heap[w4.heap.size]? = some (.cells #[.slice A2 gr.length c2, .slice A3 br.length c3] 25 (0, 0)) := heap_alloc_new _ _
    have hb : Below w4.heap.size w4 (w4.alloc (.cells #[.slice A2 gr.length c2, .slice A3 br.length c3] 25)) := (Below.refl _ _).alloc (Nat.le_refl _) _
    obtain ⟨B5, hB5⟩ : ∃ b, b = w4.heap.size := ⟨_, rfl⟩
    rw [← hB5] at hn ⊢
    generalize w4.alloc _ = w5 at hn hb ⊢
    have hBw5 : Hid (Below w.heap.size w w5) := hBw4.out.trans ((hb).mono (hBw4.out).size)
    have hu1w5 : Hid (Bytes w5 u1 lr) := (hu1w4.out).below hb
    have hu2w5 : Hid (Bytes w5 (.slice A2 gr.length c2) gr) := (hu2w4.out).below hb
    have hu3w5 : Hid (Bytes w5 (.slice A3 br.length c3) br) := (hu3w4.out).below hb
    clear hBw4 hu1w4 hu2w4 hu3w4
    have hLi : Hid (Sha.Lists w5 (.slice (some ⟨B5, 0, none⟩) [gr, br].length 2) [gr, br]) := .inr ⟨B5, 0, 2, rfl, Nat.le_refl _, (Array.getElem?_eq_some_iff.1 hn).1, fun i hi => by
      have hi2 : i = 0 ∨ i = 1 := by simp at hi; omega
      rcases hi2 with rfl | rfl
      · exact ⟨_, by rw [cell_of_row _ _ _ _ _ _ hn]; rfl, hu2w5.out⟩
      · exact ⟨_, by rw [cell_of_row _ _ _ _ _ _ hn]; rfl, hu3w5.out⟩⟩
    clear hn hb hB5
    have hflat : [gr, br].flatten = gr ++ br := by simp
    refine sg_call (by kernel_rfl) 26 #[.slice (some ⟨B5, 0, none⟩) 2 2] (by kernel_rfl) (R := fun v w' => v = .agg (bytesC S) ∧ Below w5.heap.size w5 w') ((Sha.parts_calls [gr, br] (fun y hy => by
        rcases List.mem_cons.1 hy with rfl | hy
        · exact getD_of hgltH.out
        · rw [List.mem_singleton.1 hy]; exact getD_of hbltH.out) (by rw [hflat, List.length_append, hglH.out]; omega) (by simp) _ 2 w5 hLi.out).mono fun e w' h => ⟨_, h.1, by rw [hSH.out, hflat], h.2⟩) ?_
    rintro _ w6 ⟨rfl, hb⟩
    simp only [Act.put, fl1, fl2, fl3]
    have hBw6 : Hid (Below w.heap.size w w6) := hBw5.out.trans ((hb).mono (hBw5.out).size)
    have hu1w6 : Hid (Bytes w6 u1 lr) := (hu1w5.out).below hb
    have hu2w6 : Hid (Bytes w6 (.slice A2 gr.length c2) gr) := (hu2w5.out).below hb
    have hu3w6 : Hid (Bytes w6 (.slice A3 br.length c3) br) := (hu3w5.out).below hb
    clear hBw5 hu1w5 hu2w5 hu3w5
    clear hb hLi hflat
    refine sg_run (by kernel_rfl) (.pointer (some ⟨w6.heap.size, 0, none⟩)) (w6.alloc (.cells (bytesC (Sha.zeros 32)) 22)) (by kernel_rfl) ?_
    simp only [Act.put, fl1, fl2, fl3]
    refine wpList_store_row rfl 22 _ _ rfl w6.heap.size (bytesC S) (by kernel_rfl) (by kernel_rfl) 22 _ (heap_alloc_new _ _) (by rw [Sha.bytesC_size, hSlH.out]; kernel_rfl) (by rw [Sha.bytesC_size, Sha.bytesC_size, hSlH.out]; rfl) (Sha.bytesC_one _) ?_
    simp only [Act.put, fl1, fl2, fl3]
    refine wpList_nil ?_
    have hD0 : ((w6.alloc (.cells (bytesC (Sha.zeros 32)) 22)).setRow w6.heap.size (bytesC S)).heap[w6.heap.size]? = some (.cells (bytesC S) 22 (0, 0)) := setRow_heap _ _ _ (bytesC S) _ _ (heap_alloc_new _ _)
    have hb : Below w6.heap.size w6 ((w6.alloc (.cells (bytesC (Sha.zeros 32)) 22)).setRow w6.heap.size (bytesC S)) := below_setRow ((Below.refl _ _).alloc (Nat.le_refl _) _) (Nat.le_refl _) _
    obtain ⟨D, hDd⟩ : ∃ D, D = w6.heap.size := ⟨_, rfl⟩
    have hb2 : Below w6.heap.size w6 ((w6.alloc (.cells (bytesC (Sha.zeros 32)) 22)).setRow D (bytesC S)) := by rw [hDd]; exact hb
    rw [← hDd] at hD0 ⊢
    clear hDd hb
    generalize World.setRow _ _ _ = w7 at hD0 hb2 ⊢
    have hBw7 : Hid (Below w.heap.size w w7) := hBw6.out.trans ((hb2).mono (hBw6.out).size)
    have hu1w7 : Hid (Bytes w7 u1 lr) := (hu1w6.out).below hb2
    have hu2w7 : Hid (Bytes w7 (.slice A2 gr.length c2) gr) := (hu2w6.out).below hb2
    have hu3w7 : Hid (Bytes w7 (.slice A3 br.length c3) br) := (hu3w6.out).below hb2
    clear hBw6 hu1w6 hu2w6 hu3w6
    have hDw7 : Hid (Bytes w7 (.slice (some ⟨D, 0, none⟩) m 32) (S.take m)) := .inr ⟨D, 0, 32, by rw [List.length_take, hSlH.out, Nat.min_eq_left hm32], by rw [List.length_take]; omega, (Array.getElem?_eq_some_iff.1 hD0).1, fun j hj => by
      rw [List.length_take] at hj
      have := hSlH.out
      rw [cell_of_row _ _ _ _ _ _ hD0, Nat.zero_add, Sha.bytesC_get S j (by omega)]
      simp [List.getD_eq_getElem?_getD, List.getElem?_take, show j < m by omega]⟩
    clear hD0 hb2
    go_upto_region 11 with fail
    refine wp_normalG ?_
    refine wp_region_held_drew (S := fun w' => Below w7.heap.size w7 w') (by kernel_rfl) (Below.refl _ _).drew (fun hS => ?_)
    change wpAnyH _ _ _ _ _ 17 (Array.replicate 17 false) _ _
    generalize hx : w7.drew = y at hS ⊢
    clear hx
    refine held_take 0 rfl (by kernel_rfl) (by kernel_rfl) (by kernel_rfl) (.int .i64 0) (fun _ _ _ h => nomatch h.1) (by kernel_rfl) (fun w' h => (by kernel_rfl)) hS ?_
    simp only [Act.put, fl1, fl2, fl3, fl4, fl5, fl6]
    refine held_take 1 rfl (by kernel_rfl) (by kernel_rfl) (by kernel_rfl) (.bool true) (fun _ _ _ h => nomatch h.1) (by kernel_rfl) (fun w' h => exec_eqI 26 _ _ rfl 0 0 (by kernel_rfl) (by kernel_rfl) true rfl) hS ?_
    simp only [Act.put, fl1, fl2, fl3, fl4, fl5, fl6]
    refine held_take 2 rfl (by kernel_rfl) (by kernel_rfl) (by kernel_rfl) (.bool true) (fun _ _ _ h => nomatch h.1) (by kernel_rfl) (fun w' h => (by kernel_rfl)) hS ?_
    simp only [Act.put, fl1, fl2, fl3, fl4, fl5, fl6]
    refine held_take 3 rfl (by kernel_rfl) (by kernel_rfl) (by kernel_rfl) (.slice A2 gr.length c2) (fun _ _ _ h => nomatch h.1) (by kernel_rfl) (fun w' h => (by kernel_rfl)) hS ?_
    simp only [Act.put, fl1, fl2, fl3, fl4, fl5, fl6]
    refine held_take 4 rfl (by kernel_rfl) (by kernel_rfl) (by kernel_rfl) (.int .i64 (gr.length : Int)) (fun _ _ _ h => nomatch h.1) (by kernel_rfl) (fun w' h => (by kernel_rfl)) hS ?_
    simp only [Act.put, fl1, fl2, fl3, fl4, fl5, fl6]
    refine held_take 5 rfl (by kernel_rfl) (by kernel_rfl) (by kernel_rfl) (.int .i64 (m : Int)) (fun _ _ _ h => nomatch h.1) (by kernel_rfl) (fun w' h => (by kernel_rfl)) hS ?_
    simp only [Act.put, fl1, fl2, fl3, fl4, fl5, fl6]
    refine held_take 6 rfl (by kernel_rfl) (by kernel_rfl) (by kernel_rfl) (.bool true) (fun _ _ _ h => nomatch h.1) (by kernel_rfl) (fun w' h => exec_eqI 3 _ _ rfl (gr.length : Int) (m : Int) (by kernel_rfl) (by kernel_rfl) true (by rw [hglH.out]; simp)) hS ?_
    simp only [Act.put, fl1, fl2, fl3, fl4, fl5, fl6]
    refine held_take 7 rfl (by kernel_rfl) (by kernel_rfl) (by kernel_rfl) (.bool true) (fun _ _ _ h => nomatch h.1) (by kernel_rfl) (fun w' h => (by kernel_rfl)) hS ?_
    simp only [Act.put, fl1, fl2, fl3, fl4, fl5, fl6]
    refine held_take 8 rfl (by kernel_rfl) (by kernel_rfl) (by kernel_rfl) (.bool true) (fun _ _ _ h => nomatch h.1) (by kernel_rfl) (fun w' h => (by kernel_rfl)) hS ?_
    simp only [Act.put, fl1, fl2, fl3, fl4, fl5, fl6]
    refine held_take 9 rfl (by kernel_rfl) (by kernel_rfl) (by kernel_rfl) (u1) (fun _ _ _ h => nomatch h.1) (by kernel_rfl) (fun w' h => (by kernel_rfl)) hS ?_
    simp only [Act.put, fl1, fl2, fl3, fl4, fl5, fl6]
    refine held_take 10 rfl (by kernel_rfl) (by kernel_rfl) (by kernel_rfl) (.string (strB (S.take m))) (fun _ _ _ h => nomatch h.1) (by kernel_rfl) (fun w' h => (exec_convB _ rfl u1 lr (by kernel_rfl) (hu1w7.out.below h)).trans (by rw [hlrH.out])) hS ?_
    simp only [Act.put, fl1, fl2, fl3, fl4, fl5, fl6]
    refine held_take 11 rfl (by kernel_rfl) (by kernel_rfl) (by kernel_rfl) (.int .i64 (m : Int)) (fun _ _ _ h => nomatch h.1) (by kernel_rfl) (fun w' h => (by kernel_rfl)) hS ?_
    simp only [Act.put, fl1, fl2, fl3, fl4, fl5, fl6]
    refine held_take 12 rfl (by kernel_rfl) (by kernel_rfl) (by kernel_rfl) (.slice (some ⟨D, 0, none⟩) m 32) (fun _ _ _ h => nomatch h.1) (by kernel_rfl) (fun w' h => exec_slice22h w' _ _ rfl D m (by kernel_rfl) (by kernel_rfl) hm32) hS ?_
    simp only [Act.put, fl1, fl2, fl3, fl4, fl5, fl6]
    refine held_take 13 rfl (by kernel_rfl) (by kernel_rfl) (by kernel_rfl) (.string (strB (S.take m))) (fun _ _ _ h => nomatch h.1) (by kernel_rfl) (fun w' h => exec_convB _ rfl _ (S.take m) (by kernel_rfl) (hDw7.out.below h)) hS ?_
    simp only [Act.put, fl1, fl2, fl3, fl4, fl5, fl6]
    refine held_take 14 rfl (by kernel_rfl) (by kernel_rfl) (by kernel_rfl) (.bool true) (fun _ _ _ h => nomatch h.1) (by kernel_rfl) (fun w' h => exec_eqS 9 _ _ rfl (strB (S.take m)) (strB (S.take m)) (by kernel_rfl) (by kernel_rfl) true (by simp)) hS ?_
    simp only [Act.put, fl1, fl2, fl3, fl4, fl5, fl6]
    refine held_take 15 rfl (by kernel_rfl) (by kernel_rfl) (by kernel_rfl) (.bool true) (fun _ _ _ h => nomatch h.1) (by kernel_rfl) (fun w' h => (by kernel_rfl)) hS ?_
    simp only [Act.put, fl1, fl2, fl3, fl4, fl5, fl6]
    refine held_take 16 rfl (by kernel_rfl) (by kernel_rfl) (by kernel_rfl) (.bool true) (fun _ _ _ h => nomatch h.1) (by kernel_rfl) (fun w' h => (by kernel_rfl)) hS ?_
    simp only [Act.put, fl1, fl2, fl3, fl4, fl5, fl6]
    have hF : Hid (Below w.heap.size w y) := hBw7.out.trans (hS.mono hBw7.out.size)
    clear hS hBw7 hu1w7 hu2w7 hu3w7 hDw7
    refine wpAnyH_done (by kernel_rfl) ?_ _
    refine ⟨rfl, ?_⟩
    rename_i hK
    refine hK _ _ ?_
    clear hK
    go_wp2_with fail
    go_ret
    exact ⟨rfl, hF.out⟩
end Go.Proofs.YtadopkifpfmhcaaDoor
namespace Go.Proofs.YtadopkifpfmhcaaDoor.chainBegins
open Go.ChangeShapes Go.WideShapes Go.ChangeAt Go.RowKit

theorem own : ownKnob Tryd.prog.godebug = none := by kernel_rfl
theorem laidOut : laidOutB Tryd.prog = true := by kernel_rfl
set_option maxRecDepth 100000 in
theorem lifted (os : Os) (started : os.Started) (H : Type) (enc : TypeId × Value → H) :
    ReturnsInHanded {} Tryd.checked os 6 .any (fun w args => (Rows.chainBeginsSpec.pre enc Tryd.prog Tryd.f6 Rows.chainBeginsRow.domain false w args ∧ laidMet Tryd.prog [("math/bits.deBruijn64tab", Rows.laid_math_bits_deBruijn64tab)] w) ∧ sizedMet enc Tryd.prog Tryd.f6 (OpenSpec.ofChange Rows.chainBeginsSpec) false w args)
      (Rows.chainBeginsSpec.post enc Tryd.prog Tryd.f6 false true false false) := by
  refine returnsInHanded_of_change_and (C := Tryd.checked) (X := fun w _ => laidMet Tryd.prog [("math/bits.deBruijn64tab", Rows.laid_math_bits_deBruijn64tab)] w) (fun _ _ _ hh h => h.of_heap hh) own started (by kernel_rfl) Tryd.func6
    (ChangeSpec.witness_at (enc := enc) (C := Tryd.checked) (os := os) (X := fun w _ => laidMet Tryd.prog [("math/bits.deBruijn64tab", Rows.laid_math_bits_deBruijn64tab)] w) false (laidWorld os) #[.int .i64 0, .slice none 0 0] 8 rfl (by kernel_rfl) (by kernel_rfl) (by kernel_rfl) (by kernel_rfl) (by kernel_rfl) (laidWorld_met os _)) ?_
  intro W base args ds gs before hval0 hW hcnd hsz hL _
  have hval : ∀ (j : Nat) t v, Tryd.f6.params[j]? = some t → args[j]? = some v → Value.okWide Tryd.prog W .any base t v := hval0
  have htab := tab_of_laid hL
  have hW' := hW
  obtain ⟨p, q, hA0, hV, rfl, hfz, hnd⟩ := hW
  have hA : DataW.TrodAll enc Tryd.prog W 0 (fun _ => true) true Tryd.f6.params.toList args.toList ds p := hA0
  have hsz2 : (DataW.weightsEach Tryd.prog ([3, 34] ++ Rows.chainBeginsSpec.plain.varTypes Tryd.prog) (ds ++ gs)).all (· ≤ reachBytes) = true := by
    have := hsz; rw [Tryd.params6] at this; exact this
  rw [Tryd.params6] at hA hval
  obtain ⟨v0, vs0, d0, ds0, p0, q0, hargs, rfl, rfl, h0, r0⟩ := trodAll_cons hA
  obtain ⟨v1, vs1, d1, ds1, p1, q1, rfl, rfl, rfl, h1, r1⟩ := trodAll_cons r0
  obtain ⟨rfl, rfl, rfl⟩ := trodAll_nil r1
  obtain rfl : args = #[v0, v1] := by cases args; simp_all
  obtain ⟨rfl, rfl⟩ := trodVars_none hV
  have k0 := h0
  have lt0 : ∀ x ∈ p0, x.block < W.heap.size := by obtain ⟨m, hm⟩ := k0; exact DataW.trod_lt m _ _ _ hm
  obtain ⟨n0, rfl, rfl, rfl, wf0⟩ := open_int Tryd.underlying3 (hval 0 3 v0 rfl rfl) h0
  have b0 := int_wf wf0
  have k1 := h1
  have lt1 : ∀ x ∈ p1, x.block < W.heap.size := by obtain ⟨m, hm⟩ := k1; exact DataW.trod_lt m _ _ _ hm
  obtain ⟨a1, n1, c1, l1, rfl, e1, y1, g1, z1⟩ := arg_ens (hval 1 34 v1 rfl rfl) h1
  have m1 : n1 * 72 ≤ 140737488351232 := arg_room hsz2 (j := 1) (t := 34) (e := 24) rfl rfl Tryd.underlying34 (by kernel_rfl) (by decide) z1
  clear hA0 hval0
  refine (lbegins_calls n0 l1 g1 a1 n1 c1 e1 W htab y1).mono fun e W' ⟨he, bel⟩ => ?_
  subst he
  exact ⟨_, rfl, _, _, _, [], _, [], hW', trodAll_mk1 (shut_bool Tryd.underlying4 _), (trodAll_cons_mk (Below.trod laidOut (by kernel_rfl) (of_decide_eq_true (by kernel_rfl)) k0 bel lt0) (trodAll_cons_mk (Below.trod laidOut (by kernel_rfl) (of_decide_eq_true (by kernel_rfl)) k1 bel lt1) trodAll_mk0)), rfl, bel.frame _, fun h => by cases h⟩
theorem over : Rows.ChainBeginsSaid :=
  OpenClaim.holds_of_wide 6 Tryd.f6 rfl rfl rfl rfl rfl rfl rfl ⟨rfl, rfl, rfl, rfl, rfl⟩ rfl rfl rfl rfl rfl (by kernel_rfl) Tryd.func6 (by kernel_rfl)
    (of_decide_eq_true (by kernel_rfl)) (by unfold Func.isWrapper; first | (rw [if_pos (by decide +kernel)]; kernel_rfl) | (rw [if_neg (by decide +kernel)]; exact ⟨rfl, rfl⟩))
    (fun os started H enc _ => lifted os started H enc)
theorem card : Rows.ChainBeginsCardSaid :=
  Claim7.holds_tied_plain_at .later [] [.data] true (true, "eaf48906fbdc0550d943cf212d39e566490c253f0718d60b671d22ae1cd4fb08") false
    over (fun _ h => by cases h) (by kernel_rfl) (fun _ h => by cases h) chainBegins_row_tie rfl ⟨rfl, rfl⟩ (by kernel_rfl) rfl
    (fun f fn hf hfn => by
      obtain rfl : f = 6 := Option.some.inj ((show Tryd.prog.funcNamed "mandate/mandatelaw18.ChainBegins" = some 6 by kernel_rfl).symm.trans hf) |>.symm
      obtain rfl : fn = Tryd.f6 := (Option.some.inj (Tryd.func6.symm.trans hfn)).symm
      exact ⟨by kernel_rfl, fun j t ht => by
        rw [Tryd.params6] at ht
        have h3 : t = 3 ∨ t = 34 := by
          rcases j with _ | j
          · simp at ht; subst ht; simp
          rcases j with _ | j
          · simp at ht; subst ht; simp
          · simp at ht
        rcases h3 with rfl | rfl
        all_goals exact (show Tryd.prog.wantsStandIn _ = false by kernel_rfl)⟩)
    (by kernel_rfl)
end Go.Proofs.YtadopkifpfmhcaaDoor.chainBegins
namespace Go.Proofs.YtadopkifpfmhcaaDoor
/-- The statement. -/
theorem chainBegins_holds : Rows.ChainBeginsCardSaid := chainBegins.card
#print axioms chainBegins_holds
end Go.Proofs.YtadopkifpfmhcaaDoor
