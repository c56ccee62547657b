/-
  A range over the disk's map in whose rounds the entry at hand is written: what stays, what turns.
-/
import Derived.Test.YtmdfgndjphhgnaaDi8
namespace Go
open Go.MapKept (Stamped IsKey stamped_modify findNow_spec run_checkKey run_findKey run_keyThatStays heap_set)
set_option linter.unusedVariables false
set_option linter.unusedSimpArgs false
theorem born_modify (es : Array MapEntry) (j : Nat) (f : MapEntry → MapEntry) (hf : ∀ e, (f e).born = e.born) : (es.modify j f).toList.map (·.born) = es.toList.map (·.born) := by
  apply List.ext_getElem?
  intro i
  simp only [List.getElem?_map, Array.getElem?_toList, Array.getElem?_modify]
  by_cases h : j = i
  · subst h; cases es[j]? <;> simp [hf]
  · simp [h]
/-- A store at a name that is there. -/
theorem run_putE {P : Program} {w : World} {mb clock : Nat} {es : Array MapEntry} {L : List (ByteArray × Value)} (h : DE w mb es clock L) {t k e : TypeId} (ht : P.underlying t = some (.map k e)) (hk : P.underlying k = some .string) (s : ByteArray) (v u : Value) (hl : lk L s = some u) :
    ∃ es' w', (Instr.mapUpdate t (.map (some mb)) (.string s) v).run P w = .ok () w' ∧ DE w' mb es' clock (pt L s v) ∧ es'.toList.map (·.born) = es.toList.map (·.born) ∧ Only mb w w' := by
  rcases h.find s with ⟨h1, h2, h3⟩ | ⟨j, x, u', h1, hj, hx, hu, hL, h2⟩
  · rw [h2] at hl; cases hl
  · have hkey : ∀ e', es[j]? = some e' → ({ e' with key := .string s, val := v } : MapEntry).key = e'.key := fun e' he' => by rw [hj] at he'; cases he'; exact hx.symm
    refine ⟨es.modify j fun e => { e with key := .string s, val := v }, { w with heap := w.heap.setIfInBounds mb (.map (es.modify j fun e => { e with key := .string s, val := v }) clock) }, ?_, ⟨(heap_set h.heap).1, stamped_modify h.st _ _ (fun _ _ => rfl) (fun e' _ he' => hkey e' he'), ?_⟩, born_modify _ _ _ (fun _ => rfl), only_set _ _ _⟩
    · simp [Instr.mapUpdate, run_underlying ht, MapKept.run_getObj_map h.heap, run_checkKey (d := .string) hk (k := .string s) trivial, run_findKey hk h1, hj, hx, run_keyThatStays (d := .string) (k := .string s) trivial, MapKept.run_setObj_map _ h.heap, Result.andThen]
    · have hp : pt L s v = L.map (fun p => if p.1 = s then (s, v) else p) := by simp [pt, h2]
      rw [hp]
      apply List.ext_getElem?
      intro i
      simp only [List.getElem?_map, Array.getElem?_toList, Array.getElem?_modify]
      have hg := h.get i
      rw [Array.getElem?_toList] at hg
      by_cases e : j = i
      · subst e
        rw [hj, hL]; simp
      · rw [if_neg e]
        cases hL2 : L[i]? with
        | none => rw [hL2] at hg; simpa using hg
        | some p =>
          have hne : ¬ p.1 = s := fun e2 => by
            have hn := h.nodup
            have a1 : (L.map (·.1))[j]? = some s := by simp [hL]
            have a2 : (L.map (·.1))[i]? = some s := by simp [hL2, e2]
            exact e ((List.getElem?_inj (List.getElem?_eq_some_iff.1 a1).1 hn).1 (a1.trans a2.symm))
          rw [hL2] at hg
          simp only [Option.map_some, if_neg hne]
          simpa using hg
end Go
namespace Go.Proofs.Ytmdfgndjphhgnaa
open Go.RowKit
set_option linter.unusedVariables false
set_option linter.unusedSimpArgs false
/-- The map and its files' bytes, at whatever entries. -/
structure MI (w : World) (D mb since : Nat) (left : Int) (off : Bool) (es : Array MapEntry) (L : List (FE × Value)) : Prop where
  row : w.heap[D]? = some (.cells #[.map (some mb), .int .i64 left, .bool off] 63 (0, 0))
  de : DE w mb es since (L.map vv)
  rw : ∀ p ∈ L, Rw 1 encB w p.2 p.1.bs
theorem MI.below {w w' : World} {D mb since : Nat} {left : Int} {off : Bool} {es : Array MapEntry} {L : List (FE × Value)} (h : MI w D mb since left off es L) (hb : Below w.heap.size w w') : MI w' D mb since left off es L :=
  ⟨heap_kept h.row hb, ⟨heap_kept h.de.heap hb, h.de.st, h.de.prs⟩, fun p hp => (h.rw p hp).below hb⟩
theorem rw_kpO {w w' : World} {R : Nat} {m : Option Nat} {s c : Nat} {seen : Array Nat} (hR : w.heap[R]? = some (.mapIter m s seen c)) (hk : KpS (fun q => q = R) w w') {v : Value} {l : List Nat} (hr : Rw 1 encB w v l) : Rw 1 encB w' v l := by
  refine hr.kept hk.size (fun hl q hq => hk.block q (hr.lt hl q hq) (fun e => ?_))
  obtain ⟨A', c', rfl⟩ := hr.form
  obtain ⟨g, o, rfl, _, _, hel⟩ := hr.elem 0 (List.length_pos_iff.2 hl)
  have hg : g = q := by
    simp [Value.ownBlock] at hq; exact hq
  subst hg
  have hc := hel 0 (.int .u8 ((l.getD 0 default : Nat) : Int)) rfl
  subst e
  simp [World.cell?, hR] at hc
theorem MI.kR {w w' : World} {D mb since : Nat} {left : Int} {off : Bool} {es : Array MapEntry} {L : List (FE × Value)} (h : MI w D mb since left off es L) {R : Nat} {m : Option Nat} {s c : Nat} {seen : Array Nat} (hR : w.heap[R]? = some (.mapIter m s seen c)) (hk : KpS (fun q => q = R) w w') : MI w' D mb since left off es L :=
  ⟨hk.heap h.row (fun e => by have := h.row; rw [e, hR] at this; cases this), ⟨hk.heap h.de.heap (fun e => by have := h.de.heap; rw [e, hR] at this; cases this), h.de.st, h.de.prs⟩, fun p hp => rw_kpO hR hk (h.rw p hp)⟩
theorem kp_setBlock {w w1 : World} (h1 : w1 = w ∨ w1 = w.drew) (R : Nat) (o : Obj) (hR : R < w.heap.size) : KpS (fun q => q = R) w (Go.ChangeMaps.setBlock w1 R o) ∧ (Go.ChangeMaps.setBlock w1 R o).heap[R]? = some o := by
  have h : ∀ w : World, R < w.heap.size → KpS (fun q => q = R) w (Go.ChangeMaps.setBlock w R o) ∧ (Go.ChangeMaps.setBlock w R o).heap[R]? = some o := fun w hR =>
    ⟨⟨rfl, rfl, rfl, by simp [Go.ChangeMaps.setBlock], fun k hk hn => by simp [Go.ChangeMaps.setBlock, Array.getElem?_setIfInBounds, show ¬ R = k from fun e => hn e.symm]⟩, by simp [Go.ChangeMaps.setBlock, Array.getElem?_setIfInBounds, hR]⟩
  rcases h1 with rfl | rfl
  · exact h _ hR
  · obtain ⟨a, b⟩ := h w.drew hR
    exact ⟨(KpS.of (Below.refl w.heap.size w).drew).trans a, b⟩
/-- How far the crash is. -/
structure CrI (w0 : World) (D mb R since : Nat) (keep : Int) (F0 : List FE) (Bn : List Nat) (seen : Array Nat) (w : World) : Prop where
  ex : ∃ es L, MI w D mb since (-1) false es L ∧ es.toList.map (·.born) = Bn ∧ L.map (·.1) = (Bn.zip F0).map fun p => if seen.contains p.1 then DS.crash1 keep p.2 else p.2
  it : w.heap[R]? = some (.mapIter (some mb) since seen since)
  kp : KpS (TD D mb) w0 w
/-- One that is left, by its place. -/
theorem CrI.at {w0 w : World} {D mb R since : Nat} {keep : Int} {F0 : List FE} {Bn : List Nat} {seen : Array Nat} {es : Array MapEntry} {L : List (FE × Value)} (hm : MI w D mb since (-1) false es L) (hb : es.toList.map (·.born) = Bn) (hL : L.map (·.1) = (Bn.zip F0).map fun p => if seen.contains p.1 then DS.crash1 keep p.2 else p.2) (hlen : Bn.length = F0.length)
    {e : MapEntry} (he : e ∈ (leftOf es seen).toList) : ∃ (i : Nat) (f : FE) (v : Value), es.toList[i]? = some e ∧ seen.contains e.born = false ∧ Bn[i]? = some e.born ∧ F0[i]? = some f ∧ L[i]? = some (f, v) ∧ e.key = .string f.nm ∧ e.val = .agg #[v, .int .i64 (f.sure : Int)] := by
  obtain ⟨hm1, hs⟩ := mem_left he
  obtain ⟨i, hi, hie⟩ := List.getElem_of_mem hm1
  have h1 : es.toList[i]? = some e := by rw [List.getElem?_eq_getElem hi, hie]
  have h2 : Bn[i]? = some e.born := by rw [← hb, List.getElem?_map, h1]; rfl
  have hiB : i < Bn.length := (List.getElem?_eq_some_iff.1 h2).1
  have hiF : i < F0.length := by omega
  have h3 : F0[i]? = some F0[i] := List.getElem?_eq_getElem hiF
  have hz : (L.map (·.1))[i]? = some F0[i] := by
    rw [hL, List.getElem?_map, (List.getElem?_zip_eq_some (z := (e.born, F0[i]))).2 ⟨h2, h3⟩]
    simp only [Option.map_some, hs, Bool.false_eq_true, if_false]
  rw [List.getElem?_map] at hz
  cases hLi : L[i]? with
  | none => rw [hLi] at hz; cases hz
  | some p =>
    rw [hLi] at hz
    have hp : p.1 = F0[i] := by simpa using hz
    have hg := hm.de.get i
    rw [h1, List.getElem?_map, hLi] at hg
    simp only [Option.map_some, Option.some.injEq, Prod.mk.injEq] at hg
    refine ⟨i, F0[i], p.2, h1, hs, h2, h3, by rw [← hp]; exact hLi, by rw [hg.1, ← hp]; rfl, by rw [hg.2, ← hp]; rfl⟩
/-- The files behind a round. -/
theorem zip_push {keep : Int} {F0 : List FE} {Bn : List Nat} {seen : Array Nat} (hnB : Bn.Nodup) {i b : Nat} {f : FE} (hB : Bn[i]? = some b) (hF : F0[i]? = some f) :
    ((Bn.zip F0).map fun p => if (seen.push b).contains p.1 then DS.crash1 keep p.2 else p.2) = ((Bn.zip F0).map fun p => if seen.contains p.1 then DS.crash1 keep p.2 else p.2).set i (DS.crash1 keep f) := by
  apply List.ext_getElem?
  intro j
  rw [List.getElem?_set]
  have hz : (Bn.zip F0)[i]? = some (b, f) := List.getElem?_zip_eq_some.2 ⟨hB, hF⟩
  by_cases e : i = j
  · subst e
    rw [if_pos rfl, if_pos (by rw [List.length_map]; exact (List.getElem?_eq_some_iff.1 hz).1), List.getElem?_map, hz]
    simp
  · rw [if_neg e, List.getElem?_map, List.getElem?_map]
    cases hj : (Bn.zip F0)[j]? with
    | none => rfl
    | some p =>
      have hBj := (List.getElem?_zip_eq_some.1 (show (Bn.zip F0)[j]? = some (p.1, p.2) from hj)).1
      have hne : p.1 ≠ b := fun e2 => e ((List.getElem?_inj (List.getElem?_eq_some_iff.1 hB).1 hnB).1 (by rw [hB, hBj, e2]))
      simp only [Option.map_some, contains_push]
      rw [show (p.1 == b) = false from by simpa using hne, Bool.or_false]
theorem put_set {L : List FE} (hn : (L.map (·.nm)).Nodup) {i : Nat} {f g : FE} (hL : L[i]? = some f) (hg : g.nm = f.nm) : DS.putL L g = L.set i g := by
  unfold DS.putL
  have hf : (L.find? fun x => decide (x.nm = g.nm)).isSome := by
    rw [List.find?_isSome]
    exact ⟨f, List.mem_of_getElem? hL, by simp [hg]⟩
  rw [if_pos hf]
  apply List.ext_getElem?
  intro j
  rw [List.getElem?_map, List.getElem?_set]
  by_cases e : i = j
  · subst e
    rw [if_pos rfl, if_pos (List.getElem?_eq_some_iff.1 hL).1, hL]
    simp [hg]
  · rw [if_neg e]
    cases hj : L[j]? with
    | none => rfl
    | some x =>
      have hne : ¬ x.nm = g.nm := fun e2 => by
        have a1 : (L.map (·.nm))[i]? = some f.nm := by rw [List.getElem?_map, hL]; rfl
        have a2 : (L.map (·.nm))[j]? = some f.nm := by rw [List.getElem?_map, hj, ← hg, ← e2]; rfl
        exact e ((List.getElem?_inj (List.getElem?_eq_some_iff.1 a1).1 hn).1 (a1.trans a2.symm))
      simp [hne]
/-- Behind the store of a round. -/
theorem CrI.step {w0 w w' : World} {D mb R since : Nat} {keep : Int} {F0 : List FE} {Bn : List Nat} {seen : Array Nat} {es es' : Array MapEntry} {L : List (FE × Value)} (hm : MI w D mb since (-1) false es L) (hb : es.toList.map (·.born) = Bn) (hL : L.map (·.1) = (Bn.zip F0).map fun p => if seen.contains p.1 then DS.crash1 keep p.2 else p.2)
    {i b : Nat} {f : FE} {v v' : Value} (hB : Bn[i]? = some b) (hF : F0[i]? = some f) (hLi : L[i]? = some (f, v)) (hv : Rw 1 encB w' v' (DS.crash1 keep f).bs) (hde : DE w' mb es' since (pt (L.map vv) f.nm (vv (DS.crash1 keep f, v')).2)) (hb' : es'.toList.map (·.born) = es.toList.map (·.born)) (ho : KpS (TD D mb) w w') (hrow : w'.heap[D]? = w.heap[D]?)
    (hit : w'.heap[R]? = some (.mapIter (some mb) since (seen.push b) since)) (hk : KpS (TD D mb) w0 w) (hrw : ∀ p ∈ L, Rw 1 encB w' p.2 p.1.bs) : CrI w0 D mb R since keep F0 Bn (seen.push b) w' := by
  have hnB : Bn.Nodup := by rw [← hb]; exact hm.de.st.2.1
  have hnm : (DS.crash1 keep f).nm = f.nm := rfl
  have hnL : ((L.map (·.1)).map (·.nm)).Nodup := by
    have h8 := hm.de.nodup
    rw [List.map_map] at h8 ⊢
    exact h8
  rw [← hnm, show (DS.crash1 keep f).nm = ((DS.crash1 keep f, v') : FE × Value).1.nm from rfl, pt_vv] at hde
  refine ⟨⟨es', put2 L (DS.crash1 keep f, v'), ⟨hrow.trans hm.row, hde, fun p hp => ?_⟩, hb'.trans hb, ?_⟩, hit, hk.trans ho⟩
  · rcases mem_put2 hp with hp | rfl
    · exact hrw p hp
    · exact hv
  · rw [put2_fst, put_set hnL (i := i) (f := f) (by rw [List.getElem?_map, hLi]; rfl) hnm, hL, zip_push hnB hB hF]
theorem CrI.done {w0 w : World} {D mb R since : Nat} {keep : Int} {F0 : List FE} {Bn : List Nat} {seen : Array Nat} (h : CrI w0 D mb R since keep F0 Bn seen w) (hlen : Bn.length = F0.length) (hfine : ∀ f ∈ F0, f.sure ≤ f.bs.length ∧ f.bs.length ≤ 1048576) (hall : ∀ b ∈ Bn, seen.contains b = true) : DiskI w D mb ⟨F0.map (DS.crash1 keep), -1, false⟩ := by
  obtain ⟨es, L, hm, hb, hL⟩ := h.ex
  have hz : (Bn.zip F0).map (fun p => if seen.contains p.1 then DS.crash1 keep p.2 else p.2) = F0.map (DS.crash1 keep) := by
    have : (Bn.zip F0).map (fun p => if seen.contains p.1 then DS.crash1 keep p.2 else p.2) = (Bn.zip F0).map (fun p => DS.crash1 keep p.2) := List.map_congr_left fun p hp => by rw [if_pos (hall p.1 (List.of_mem_zip hp).1)]
    rw [this, show (fun p : Nat × FE => DS.crash1 keep p.2) = DS.crash1 keep ∘ Prod.snd from rfl, ← List.map_map, List.map_snd_zip (by omega)]
  refine ⟨hm.row, ⟨L, ⟨es, since, hm.de⟩, by rw [hL, hz], hm.rw⟩, fun g hg => ?_, Int.le_refl _, by show (-1 : Int) < _; decide⟩
  obtain ⟨f, hf, rfl⟩ := List.mem_map.1 hg
  have h8 := hfine f hf
  unfold DS.crash1
  simp only [List.length_take]
  omega
end Go.Proofs.Ytmdfgndjphhgnaa
