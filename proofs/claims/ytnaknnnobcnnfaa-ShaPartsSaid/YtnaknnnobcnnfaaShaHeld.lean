/-
  Steps in a region that draws its order: what reads is taken first; what makes memory comes up alone.
-/
import Derived.Test.YtnaknnnobcnnfaaShaFixed
import Derived.Deep.RegionHeld
import Derived.OpenShut
namespace Go
section
variable {P : Program} {ops : Array Oper} {Q : Exit → Act → World → Prop} {md : Region.Mode} {S : World → Prop} {fuel : Nat} {listed : Array Bool} {a : Act} {w : World}
theorem held_take (i : Nat) {oi : Oper} (hi : ops[i]? = some oi) (hs : Region.noSelect ops = true) (hf : Region.free md ops listed i = true) (hr : (Region.ready md ops listed).contains i = true)
    (v : Value) (hQ : ∀ c a w, Q (.panic c) (a.put oi.dst v) w → Q (.panic c) a w) (hw : Region.wanted oi (yielded ops a.tmps) = true) (he : ∀ w, S w → (execOp a.eval oi).run P w = .ok (.value v) w) (hS : S w)
    (h : wpAnyH P md ops Q S fuel (listed.setIfInBounds i true) (a.put oi.dst v) w) : wpAnyH P md ops Q S (fuel + 1) listed a w :=
  wpAnyH_take hi hs hf hr hQ (.inl ⟨hw, he⟩) hS h
theorem held_one (i : Nat) {oi : Oper} (hi : ops[i]? = some oi) (hr : Region.ready md ops listed = [i]) (hw : Region.wanted oi (yielded ops a.tmps) = true)
    (h : ∀ K : Act → World → Prop, (∀ a w, S w → wpAnyH P md ops Q S fuel (listed.setIfInBounds i true) a w → K a w) → oi.wp P a w K Q) : wpAnyH P md ops Q S (fuel + 1) listed a w :=
  wpAnyH_all hr (by simp) fun j hj => by
    rw [List.mem_singleton.1 hj]
    exact wpOp_step hi fun K' hK => by
      rw [if_pos hw]
      exact h K' fun a w h1 h2 => hK a w ⟨h1, h2⟩
theorem held_run (i : Nat) {oi : Oper} (hi : ops[i]? = some oi) (hr : Region.ready md ops listed = [i]) (hw : Region.wanted oi (yielded ops a.tmps) = true) (v : Value) (w' : World)
    (he : (execOp a.eval oi).run P w = .ok (.value v) w') (hS : S w') (h : wpAnyH P md ops Q S fuel (listed.setIfInBounds i true) (a.put oi.dst v) w') : wpAnyH P md ops Q S (fuel + 1) listed a w :=
  held_one i hi hr hw fun K hK => by unfold Oper.wp; rw [he]; exact hK _ _ hS h
theorem held_new (i : Nat) {oi : Oper} (hi : ops[i]? = some oi) (hr : Region.ready md ops listed = [i]) (hw : Region.wanted oi (yielded ops a.tmps) = true) (v : Value) (w0 : World)
    (he : (execOp a.eval oi).run P w = .ok (.value v) w0) (R : World → Prop) (hR : R w0) (h : ∀ w', R w' → S w' ∧ wpAnyH P md ops Q S fuel (listed.setIfInBounds i true) (a.put oi.dst v) w') : wpAnyH P md ops Q S (fuel + 1) listed a w :=
  held_run i hi hr hw v w0 he (h w0 hR).1 (h w0 hR).2
theorem held_call (i : Nat) {oi : Oper} (hi : ops[i]? = some oi) (hr : Region.ready md ops listed = [i]) (hw : Region.wanted oi (yielded ops a.tmps) = true) (f : FuncId) (args : Array Value)
    (he : (execOp a.eval oi).run P w = .ok (.enter f args) w) {R : Value → World → Prop} (hc : Calls P f args w fun e w' => ∃ v, e = .returned v ∧ R v w')
    (h : ∀ v w', R v w' → S w' ∧ wpAnyH P md ops Q S fuel (listed.setIfInBounds i true) (a.put oi.dst v) w') : wpAnyH P md ops Q S (fuel + 1) listed a w :=
  held_one i hi hr hw fun K hK => by
    unfold Oper.wp; rw [he, Oper.upon_enter]
    exact hc.mono fun e w' hh => by obtain ⟨v, rfl, hR⟩ := hh; obtain ⟨h1, h2⟩ := h v w' hR; exact hK _ _ h1 h2
end
end Go
namespace Go.Proofs.Ytnaknnnobcnnfaa.Sha
open Go.RowKit
set_option linter.unusedVariables false
theorem exec_append22 {w : World} {o : Oper} {a : Act} (s x : Operand)
    (ho : o.op = .call { callee := .builtin .append, args := #[s, x], argTypes := #[22, 22] })
    (base : Nat) (v : Value) (l0 l : List Nat) (hs : a.eval s = v) (hown : w.ownsRow base 5 1 v l0.length (vals l0))
    (y : Value) (hx : a.eval x = y) (hy : Bytes w y l) (hlen : l0.length + l.length ≤ 1000000000000) (hbase : base ≤ w.heap.size) :
    ∃ v' w', (execOp a.eval o).run Try.prog w = .ok (.value v') w' ∧ w'.ownsRow base 5 1 v' (l0 ++ l).length (vals (l0 ++ l)) ∧ w.grownBy w' v.ownBlock := by
  obtain ⟨i5, hi5, hz0, hz1, hz2⟩ := info5'
  rcases hy with ⟨A, c, rfl, rfl, hA⟩ | ⟨g, off, c, rfl, hc, hg, hl⟩
  · cases A with
    | none =>
      have hA := hA rfl
      subst hA
      refine ⟨v, w, ?_, by simpa using hown, grownBy_refl _ _⟩
      have hrun := run_append_owned_none (P := Try.prog) (w := w) base 22 o.type 5 i5 1 Try.underlying22 hi5 v l0.length (vals l0) hown
      simp [execOp, ho, resolve, invoke, builtin, hs, hx, hrun, Result.andThen]
    | some ad =>
      obtain ⟨v', w', h1, h2, h3, h4⟩ := run_append_own (P := Try.prog) w base 22 o.type 5 i5 (.int .u8 0) 1 1 Try.underlying22 hi5 hz0 hz1 hz2 rfl (by decide) v l0.length (vals l0) hown ad 0 c [] rfl (fun j u hu => by simp at hu) (fun u hu => by simp at hu) (by unfold maxLen; omega) (by omega) hbase
      refine ⟨v', w', ?_, by simpa using h2, h3⟩
      simp [execOp, ho, resolve, invoke, builtin, hs, hx, h1, Result.andThen]
  · obtain ⟨v', w', h1, h2, h3, h4⟩ := run_append_own (P := Try.prog) w base 22 o.type 5 i5 (.int .u8 0) 1 1 Try.underlying22 hi5 hz0 hz1 hz2 rfl (by decide) v l0.length (vals l0) hown ⟨g, off, none⟩ l.length c (vals l) (by rw [vals_length, Nat.mul_one]) hl.vals (vals_one _) (by unfold maxLen; omega) (by omega) hbase
    refine ⟨v', w', ?_, by rw [List.length_append, vals_append]; exact h2, h3⟩
    simp [execOp, ho, resolve, invoke, builtin, hs, hx, h1, Result.andThen]
theorem held_append22 {ops : Array Oper} {Q : Exit → Act → World → Prop} {md : Region.Mode} {S : World → Prop} {fuel : Nat} {listed : Array Bool} {a : Act} {w : World} (i : Nat) {oi : Oper} (hi : ops[i]? = some oi) (hr : Region.ready md ops listed = [i]) (hw : Region.wanted oi (yielded ops a.tmps) = true) (s x : Operand)
    (ho : oi.op = .call { callee := .builtin .append, args := #[s, x], argTypes := #[22, 22] })
    (base : Nat) (v : Value) (l0 l : List Nat) (hs : a.eval s = v) (hown : w.ownsRow base 5 1 v l0.length (vals l0))
    (y : Value) (hx : a.eval x = y) (hy : Bytes w y l) (hlen : l0.length + l.length ≤ 1000000000000) (hbase : base ≤ w.heap.size)
    (h : ∀ v' w', w'.ownsRow base 5 1 v' (l0 ++ l).length (vals (l0 ++ l)) → w.grownBy w' v.ownBlock → S w' ∧ wpAnyH Try.prog md ops Q S fuel (listed.setIfInBounds i true) (a.put oi.dst v') w') : wpAnyH Try.prog md ops Q S (fuel + 1) listed a w := by
  obtain ⟨v', w', h1, h2, h3⟩ := exec_append22 s x ho base v l0 l hs hown y hx hy hlen hbase
  obtain ⟨h4, h5⟩ := h v' w' h2 h3
  exact held_run i hi hr hw v' w' h1 h4 h5
/-- A slice of bytes as a law's row hands it in. -/
theorem row_bytes {w : World} {a : Option Addr} {len cap : Nat} {zs : List Int} (h : (a = none ∧ len = 0 ∧ cap = 0 ∧ zs = []) ∨
    ∃ x, a = some x ∧ len ≤ cap ∧ cap ≤ maxLen ∧ zs.length = cap ∧ (∀ i, i < zs.length → w.cell? (x.add i) = some (.int .u8 (zs.getD i 0))) ∧ ∀ n ∈ zs, (Lit.int .u8 n).wf = true) :
    ∃ l : List Nat, len = l.length ∧ (∀ j, l.getD j 0 < 256) ∧ Bytes w (.slice a len cap) l := by
  rcases h with ⟨rfl, rfl, rfl, rfl⟩ | ⟨x, rfl, hl, hm, hz, hcell, hwz⟩
  · exact ⟨[], rfl, by simp, Bytes.nil w⟩
  · have hb : ∀ n ∈ zs, 0 ≤ n ∧ n < 256 := fun n hn => by
      have := bounds_u8 (hwz n hn)
      omega
    refine ⟨(zs.take len).map Int.toNat, by rw [List.length_map, List.length_take]; omega, getD_lt (by decide) (fun y hy => ?_), ?_⟩
    · obtain ⟨n, hn, rfl⟩ := List.mem_map.1 hy
      have := hb n (List.mem_of_mem_take hn)
      omega
    · by_cases h0 : len = 0
      · subst h0
        exact .inl ⟨some x, cap, rfl, by simp, fun h => by cases h⟩
      · have hlen : ((zs.take len).map Int.toNat).length = len := by rw [List.length_map, List.length_take]; omega
        obtain ⟨b, off, spot⟩ := x
        have hc := hcell 0 (by omega)
        have hspot : spot = none := by simpa [Addr.add] using World.cell?_spot hc
        subst hspot
        refine .inr ⟨b, off, cap, by rw [hlen], by rw [hlen]; exact hl, ?_, fun j hj => ?_⟩
        · have := World.block_lt_of_cell? w _ hc
          exact this
        · rw [hlen] at hj
          have h1 := hcell j (by omega)
          rw [Addr.add_mid] at h1
          rw [h1]
          congr 2
          have hz1 : zs.getD j 0 ∈ zs := by
            rw [List.getD_eq_getElem?_getD, List.getElem?_eq_getElem (by omega)]; exact List.getElem_mem _
          have h2 := hb _ hz1
          have e : ((zs.take len).map Int.toNat).getD j 0 = (zs.getD j 0).toNat := by
            rw [List.getD_eq_getElem?_getD, List.getElem?_map, List.getElem?_take_of_lt hj, List.getD_eq_getElem?_getD, List.getElem?_eq_getElem (by omega)]
            rfl
          rw [e]
          omega
end Go.Proofs.Ytnaknnnobcnnfaa.Sha
