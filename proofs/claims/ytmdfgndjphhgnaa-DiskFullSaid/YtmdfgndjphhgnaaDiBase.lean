/-
  Steps and small library functions at this seat.
-/
import Derived.Test.YtmdfgndjphhgnaaDiInv
import Derived.Laws.OwnMore
import Derived.WalkKit
import Derived.WalkLawsBesides
import Derived.StillTail
import Derived.Deep.Quiet
import Derived.Deep.WholeRow
import Derived.Deep.MidRow
import Derived.Deep.RegionHeld
import Derived.BigFrame
import Derived.OwnWalk
import Derived.Outline
import Derived.KernelRfl
import Derived.Deep.Draws
import Derived.Deep.QuietTactic
import Derived.BigQuiet
import Derived.Deep.DeepCutAuto
import Derived.StillTailTactics
import Derived.Deep.Cut
import Derived.Deep.RegionHeld3
import Derived.Deep.AppendLies
import Derived.BigCall
import Derived.Maps.AppendAt
import Derived.Laws.BytesString
namespace Go.Proofs.Ytmdfgndjphhgnaa
open Go.RowKit
set_option linter.unusedVariables false
set_option linter.unusedSimpArgs false
theorem exec_geq {o : Oper} {a : Act} {w : World} (t : TypeId) (x y : Operand) (ho : o.op = .binOp .geq t x y t) (u v : Int) (hx : a.eval x = .int .i64 u) (hy : a.eval y = .int .i64 v) (b : Bool) (hb : decide (v ≤ u) = b) : (execOp a.eval o).run Try.prog w = .ok (.value (.bool b)) w := by
  subst hb; unfold execOp
  simp [ho, hx, hy, eqGuard, binOp_geq]
theorem exec_leq {o : Oper} {a : Act} {w : World} (t : TypeId) (x y : Operand) (ho : o.op = .binOp .leq t x y t) (u v : Int) (hx : a.eval x = .int .i64 u) (hy : a.eval y = .int .i64 v) (b : Bool) (hb : decide (u ≤ v) = b) : (execOp a.eval o).run Try.prog w = .ok (.value (.bool b)) w := by
  subst hb; unfold execOp
  simp [ho, hx, hy, eqGuard, binOp_leq]
theorem exec_lss {o : Oper} {a : Act} {w : World} (t : TypeId) (x y : Operand) (ho : o.op = .binOp .lss t x y t) (u v : Int) (hx : a.eval x = .int .i64 u) (hy : a.eval y = .int .i64 v) (b : Bool) (hb : decide (u < v) = b) : (execOp a.eval o).run Try.prog w = .ok (.value (.bool b)) w := by
  subst hb; unfold execOp
  simp [ho, hx, hy, eqGuard, binOp_lss]
theorem exec_gtr {o : Oper} {a : Act} {w : World} (t : TypeId) (x y : Operand) (ho : o.op = .binOp .gtr t x y t) (u v : Int) (hx : a.eval x = .int .i64 u) (hy : a.eval y = .int .i64 v) (b : Bool) (hb : decide (v < u) = b) : (execOp a.eval o).run Try.prog w = .ok (.value (.bool b)) w := by
  subst hb; unfold execOp
  simp [ho, hx, hy, eqGuard, binOp_gtr]
theorem exec_eqI {o : Oper} {a : Act} {w : World} (t : TypeId) (x y : Operand) (ho : o.op = .binOp .eql t x y t) (u v : Int) (hx : a.eval x = .int .i64 u) (hy : a.eval y = .int .i64 v) (b : Bool) (hb : (u == v) = b) : (execOp a.eval o).run Try.prog w = .ok (.value (.bool b)) w := by
  subst hb; unfold execOp
  simp [ho, hx, hy, eqGuard, binOp_eql]
theorem exec_neI {o : Oper} {a : Act} {w : World} (t : TypeId) (x y : Operand) (ho : o.op = .binOp .neq t x y t) (u v : Int) (hx : a.eval x = .int .i64 u) (hy : a.eval y = .int .i64 v) (b : Bool) (hb : (u != v) = b) : (execOp a.eval o).run Try.prog w = .ok (.value (.bool b)) w := by
  subst hb; unfold execOp
  simp [ho, hx, hy, eqGuard, binOp_neq]
theorem exec_add2 {o : Oper} {a : Act} (x y : Operand) (ho : o.op = .binOp .add 3 x y 3) (u v : Int) (hx : a.eval x = .int .i64 u) (hy : a.eval y = .int .i64 v) (h0 : 0 ≤ u + v) (h1 : u + v ≤ 9223372036854775807) (w : World) : (execOp a.eval o).run Try.prog w = .ok (.value (.int .i64 (u + v))) w := by
  unfold execOp
  have hw : IntKind.i64.wrap (u + v) = u + v := by rw [IntKind.wrap_i64]; omega
  simp [ho, hx, hy, eqGuard, binOp_add, Op.intArith, hw]
theorem exec_clip {ty : TypeId} {k : Nat} {o : Oper} {a : Act} (hu : Try.prog.underlying ty = some (.slice (Try.prog.elem ty))) (hsz : ∀ w, (sizeOf (Try.prog.elem ty)).run Try.prog w = .ok k w) (x hi mx : Operand) (ho : o.op = .slice ty x none (some hi) (some mx)) (A : Option Addr) (n c : Nat) (hx : a.eval x = .slice A n c)
    (hh : a.eval hi = .int .i64 (n : Int)) (hm : a.eval mx = .int .i64 (n : Int)) (hc : n ≤ c) (w : World) : (execOp a.eval o).run Try.prog w = .ok (.value (.slice (if n = 0 then A else A.map (·.add 0)) n n)) w := by
  unfold execOp
  simp only [ho, Option.map_some, Option.map_none, hx, hh, hm, Sem.run_bind, run_sliceAt_slice w ty _ _ _ _ hu, run_slice_hm w ty _ n c hu .i64 .i64 (n : Int) (n : Int) (by omega) (by omega) (by omega), hsz, Result.andThen_ok, Sem.run_pure, sliced, Int.toNat_natCast, Nat.zero_mul, Nat.sub_zero]
theorem clip_rw {α : Type} [Inhabited α] {k : Nat} {enc : α → Array Value} {w : World} {l : List α} {A : Option Addr} {n c : Nat} (hn : n = l.length) (hy : Rw k enc w (.slice A n c) l) : n ≤ c ∧ Rw k enc w (.slice (if n = 0 then A else A.map (·.add 0)) n n) l := by
  rcases hy with ⟨A', c', h, rfl, h2⟩ | ⟨g, o, c', h, h2, h3, h4⟩
  · injection h with h5 h6 h7
    subst h5 h6
    exact ⟨Nat.zero_le _, .inl ⟨_, 0, rfl, rfl, fun _ => rfl⟩⟩
  · injection h with h5 h6 h7
    subst h5 h7
    refine ⟨by omega, .inr ⟨g, o, n, ?_, by omega, h3, h4⟩⟩
    rw [hn]
    split
    · rfl
    · rw [Option.map_some, Addr.add_mid, Nat.add_zero]
section
variable {o : Oper} {a : Act} {w : World}
theorem exec_store_cell (ty : TypeId) (x y : Operand) (ho : o.op = .store ty x y) (b k : Nat) (hx : a.eval x = .pointer (some ⟨b, k, none⟩)) (v : Value) (hy : a.eval y = v) (u : Value) (hu : w.cell? ⟨b, k, none⟩ = some u) (hf : w.frozen? ⟨b, k, none⟩ = false)
    (hs : ∀ w, (sizeOf ty).run Try.prog w = .ok 1 w) (hv : v.cells = #[v]) (h1 : v.oneCell' = true) : (execOp a.eval o).run Try.prog w = .ok .skip (w.setCell ⟨b, k, none⟩ v) := by
  unfold execOp
  simp only [ho, hx, hy, Instr.storeAt, Instr.sureAddr, Sem.run_bind, Sem.run_pure, Result.andThen_ok, storeVar, hs, hv]
  simp only [storeCells, List.size_toArray, List.length_cons, List.length_nil, Nat.zero_add, ne_eq, not_true_eq_false, if_false, Sem.run_bind, Sem.run_pure, Sem.run_ite, run_store _ _ _ _ _ h1, Addr.add_mid, Nat.add_zero, hu, hf, Bool.false_eq_true, Result.andThen_ok]
end
section
variable {P : Program} {ops : Array Oper} {rest : List Oper} {o : Oper} {a : Act} {w : World} {Q : Exit → Act → World → Prop}
theorem sl_skipped (hw : Region.wanted o (yielded ops a.tmps) = true) (w' : World) (he : (execOp a.eval o).run P w = .ok .skip w')
    (k : wpList P ops Q rest (a.put o.dst undef) w') : wpList P ops Q (o :: rest) a w := by
  rw [wpList, if_pos hw]
  unfold Oper.wp
  rw [he]
  exact .inl k
end
section
variable {P : Program} {ops : Array Oper} {Q : Exit → Act → World → Prop} {md : Region.Mode} {S : World → Prop} {fuel : Nat} {listed : Array Bool} {a : Act} {w : World}
theorem held_got (i : Nat) {oi : Oper} (hi : ops[i]? = some oi) (hr : Region.ready md ops listed = [i]) (hw : Region.wanted oi (yielded ops a.tmps) = true) {R : Value → World → Prop}
    (he : ∃ v w', (execOp a.eval oi).run P w = .ok (.value v) w' ∧ R v w') (h : ∀ v w', R v w' → S w' ∧ wpAnyH P md ops Q S fuel (listed.setIfInBounds i true) (a.put oi.dst v) w') : wpAnyH P md ops Q S (fuel + 1) listed a w := by
  obtain ⟨v, w', he, hR⟩ := he
  exact held_run i hi hr hw v w' he (h v w' hR).1 (h v w' hR).2
theorem wp_got {o : Oper} {K : Act → World → Prop} {R : Value → World → Prop} (he : ∃ v w', (execOp a.eval o).run P w = .ok (.value v) w' ∧ R v w') (h : ∀ v w', R v w' → K (a.put o.dst v) w') : o.wp P a w K Q := by
  obtain ⟨v, w', he, hR⟩ := he
  unfold Oper.wp; rw [he]; exact h v w' hR
end
section
variable {P : Program} {ops : Array Oper} {Q : Exit → Act → World → Prop} {md : Region.Mode} {S : World → Prop}
theorem held_mono {S' : World → Prop} (hSS : ∀ w, S' w → S w) : ∀ (fuel : Nat) (listed : Array Bool) (a : Act) (w : World), wpAnyH P md ops Q S' fuel listed a w → wpAnyH P md ops Q S fuel listed a w
  | 0, _, _, _, h => h
  | fuel + 1, listed, a, w, h => ⟨h.1, fun i hi => wpOp_mono (fun a' w' h' => ⟨hSS _ h'.1, held_mono hSS fuel _ a' w' h'.2⟩) (h.2 i hi)⟩
theorem held_skip {fuel : Nat} {listed : Array Bool} {a : Act} {w : World} (i : Nat) {oi : Oper} (hi : ops[i]? = some oi) (hs : Region.noSelect ops = true) (hf : Region.free md ops listed i = true) (hr : (Region.ready md ops listed).contains i = true)
    (hQ : ∀ c a w, Q (.panic c) (a.put oi.dst undef) w → Q (.panic c) a w) (hw : Region.wanted oi (yielded ops a.tmps) = false) (hS : S w)
    (h : wpAnyH P md ops Q S fuel (listed.setIfInBounds i true) (a.put oi.dst undef) w) : wpAnyH P md ops Q S (fuel + 1) listed a w :=
  wpAnyH_take hi hs hf hr hQ (.inr ⟨hw, rfl⟩) hS h
theorem wp_normalG {c : Code} {a : Act} {w : World} (h : c.wp P (fun ex a' w' => ex = .normal ∧ Q .normal a' w') a w) : c.wp P Q a w := by
  refine wp_mono h ?_
  rintro e a' w' ⟨rfl, hk⟩
  exact hk
end
theorem held_did {P : Program} {ops : Array Oper} {Q : Exit → Act → World → Prop} {md : Region.Mode} {S : World → Prop} {fuel : Nat} {listed : Array Bool} {a : Act} {w : World} (i : Nat) {oi : Oper} (hi : ops[i]? = some oi) (hr : Region.ready md ops listed = [i]) (hw : Region.wanted oi (yielded ops a.tmps) = true) (w' : World)
    (he : (execOp a.eval oi).run P w = .ok .skip w') (hS : S w') (h : wpAnyH P md ops Q S fuel (listed.setIfInBounds i true) (a.put oi.dst undef) w') : wpAnyH P md ops Q S (fuel + 1) listed a w :=
  held_one i hi hr hw fun K hK => by
    unfold Oper.wp; rw [he]; exact hK _ _ hS h
theorem results_cell_tmp {P : Program} {fn : Func} {p q : Tmp} {ty : TypeId} (h : fn.results = #[.cell p ty, .tmp q]) (tmps : Array Value) (w : World) (g : Nat) (t : TypeId) (cs : Array Value) (fr : Nat × Nat) (d : TypeDesc) (u : Value)
    (hp : tmps.getD p undef = .pointer (some ⟨g, 0, none⟩)) (hq : tmps.getD q undef = u) (hg : w.heap[g]? = some (.cells cs t fr))
    (hu : P.underlying ty = some d) (hd : (match d with | .struct _ | .array _ _ => true | _ => false) = true) (hi : (P.info? ty).map (·.size) = some cs.size) :
    (results fn tmps).run P w = .ok (.tuple #[.agg cs, u]) w := by
  have hp' : tmps[p]?.getD undef = .pointer (some ⟨g, 0, none⟩) := by simpa using hp
  have hq' : tmps[q]?.getD undef = u := by simpa using hq
  simp [results, h, hp', hq', asAddr, run_loadVar_row w g t ty cs fr d hg hu hd hi]
theorem un30 : Try.prog.underlying 30 = some (.slice (Try.prog.elem 30)) := by kernel_rfl
theorem un30' : Try.prog.underlying 30 = some (.slice 5) := by kernel_rfl
theorem sz30 (w : World) : (sizeOf (Try.prog.elem 30)).run Try.prog w = .ok 1 w := by kernel_rfl
theorem inf5 : (Try.prog.info? 5).map (fun i => (i.zero, i.size, i.bytes)) = some (some (.int .u8 0), 1, 1) := by kernel_rfl
theorem un61 : Try.prog.underlying 61 = some (.map 9 65) := by kernel_rfl
theorem un9 : Try.prog.underlying 9 = some .string := by kernel_rfl
theorem zero65 (w : World) : (zeroValue 65).run Try.prog w = .ok (.agg #[.slice none 0 0, .int .i64 0]) w := by kernel_rfl
theorem clip_calls (l : List Nat) (v : Value) (w : World) (hn9 : l.length ≤ 1000000000) (hy : Rw 1 encB w v l) :
    Calls Try.prog 35 #[v] w fun e w' => ∃ v, e = .returned v ∧ Rw 1 encB w' v l ∧ Below w.heap.size w w' := by
  obtain ⟨A, c, rfl⟩ := hy.form
  obtain ⟨n, hn⟩ : ∃ n, n = l.length := ⟨_, rfl⟩
  rw [← hn] at hy ⊢
  obtain ⟨hc, hy2⟩ := clip_rw hn hy
  go_enter Try.func35, Try.ntmps35
  go_upto_region 1 with fail
  refine wp_region_lit ?_
  refine sl_run rfl (.slice A n c) w (by kernel_rfl) ?_
  simp only [Act.put, List.setIfInBounds_toArray, List.set_cons_zero, List.set_cons_succ]
  refine sl_run rfl (.slice A n c) w (by kernel_rfl) ?_
  simp only [Act.put, List.setIfInBounds_toArray, List.set_cons_zero, List.set_cons_succ]
  refine sl_run rfl (.int .i64 n) w (by kernel_rfl) ?_
  simp only [Act.put, List.setIfInBounds_toArray, List.set_cons_zero, List.set_cons_succ]
  refine sl_run rfl (.slice A n c) w (by kernel_rfl) ?_
  simp only [Act.put, List.setIfInBounds_toArray, List.set_cons_zero, List.set_cons_succ]
  refine sl_run rfl (.int .i64 n) w (by kernel_rfl) ?_
  simp only [Act.put, List.setIfInBounds_toArray, List.set_cons_zero, List.set_cons_succ]
  refine sl_run rfl _ w (exec_clip un30 sz30 _ _ _ rfl A n c (by kernel_rfl) (by kernel_rfl) (by kernel_rfl) hc w) ?_
  generalize (if n = 0 then A else A.map (·.add 0)) = A2 at hy2 ⊢
  simp only [Act.put, List.setIfInBounds_toArray, List.set_cons_zero, List.set_cons_succ]
  refine sl_run rfl (.slice A2 n n) w (by kernel_rfl) ?_
  simp only [Act.put, List.setIfInBounds_toArray, List.set_cons_zero, List.set_cons_succ]
  refine wpList_nil ?_
  go_wp2_with fail
  go_ret
  exact ⟨_, rfl, hy2, Below.refl _ _⟩
theorem clone_calls (l : List Nat) (A : Option Addr) (n c : Nat) (w : World) (hn : n = l.length) (hn9 : n ≤ 1000000000) (hy : Rw 1 encB w (.slice A n c) l) :
    Calls Try.prog 49 #[.slice A n c] w fun e w' => ∃ v, e = .returned v ∧ w'.ownsRow w.heap.size 5 1 v l.length (flat encB l) ∧ Below w.heap.size w w' := by
  obtain ⟨i5, hi5, hz0, hz1, hz2⟩ := info_parts inf5
  cases A with
  | none =>
    have hl : l = [] ∧ n = 0 ∧ c = 0 := by
      rcases hy with ⟨A, c', h, h2, h3⟩ | ⟨g, o, c', h, _⟩
      · injection h with h4 h5 h6
        exact ⟨h2, h5, by rw [h6]; exact h3 h4.symm⟩
      · simp at h
    obtain ⟨rfl, rfl, rfl⟩ := hl
    have hq : ∀ w, (binOp .eql 30 (.slice none 0 0) (.slice none 0 0)).run Try.prog w = .ok (.bool true) w := fun w => by kernel_rfl
    clear hy hn hn9
    go_enter Try.func49, Try.ntmps49
    go_wp2_with fail
    go_ret
    exact ⟨_, rfl, World.ownsRow_nil _ _ _ _, Below.refl _ _⟩
  | some ad =>
    have hq : ∀ w, (binOp .eql 30 (.slice (some ad) n c) (.slice none 0 0)).run Try.prog w = .ok (.bool false) w := fun w => by kernel_rfl
    have hn' : Hid (n = l.length) := hn
    clear hn
    go_enter Try.func49, Try.ntmps49
    go_upto_region 3 with fail
    refine wp_region_lit ?_
    refine sl_run rfl (.slice (some ⟨w.heap.size, 0, none⟩) 0 0) (w.alloc (.cells #[] 5)) (by kernel_rfl) ?_
    simp only [Act.put, List.setIfInBounds_toArray, List.set_cons_zero, List.set_cons_succ]
    refine sl_run rfl (.slice (some ad) n c) (w.alloc (.cells #[] 5)) (by kernel_rfl) ?_
    simp only [Act.put, List.setIfInBounds_toArray, List.set_cons_zero, List.set_cons_succ]
    have hown0 : (w.alloc (.cells #[] 5)).ownsRow w.heap.size 5 1 (.slice (some ⟨w.heap.size, 0, none⟩) 0 0) ([] : List Nat).length (flat encB []) := World.ownsRow_made _ _ 0 (Nat.le_refl _) (by decide) rfl
    have hB0 : Below w.heap.size w (w.alloc (.cells #[] 5)) := (Below.refl _ _).alloc (Nat.le_refl _) _
    refine appendRw 30 5 1 i5 (.int .u8 0) Try.underlying30 hi5 hz0 hz1 hz2 rfl (by decide) encB_size encB_one rfl _ _ rfl w.heap.size _ [] l (by kernel_rfl) hown0 _ (by kernel_rfl) (hy.below hB0) (by have := hn'.out; simp; omega) (by have := hn'.out; simp; omega) hB0.size ?_
    intro v5 w5 hown5 hgr5
    simp only [Act.put, List.setIfInBounds_toArray, List.set_cons_zero, List.set_cons_succ]
    refine sl_run rfl v5 w5 (by kernel_rfl) ?_
    simp only [Act.put, List.setIfInBounds_toArray, List.set_cons_zero, List.set_cons_succ]
    refine wpList_nil ?_
    have hB5 : Below w.heap.size w w5 := Below.grown hB0 hgr5 hB0.size (fun q hq => (hown0.lt q hq).1)
    rw [List.nil_append] at hown5
    go_wp2_with fail
    go_ret
    exact ⟨_, rfl, hown5, hB5⟩
end Go.Proofs.Ytmdfgndjphhgnaa
