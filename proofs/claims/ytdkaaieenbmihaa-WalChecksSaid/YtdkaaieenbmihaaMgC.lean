/-
  Contracts of functions that the laws of this chapter reach, joined.
-/
import Derived.MapKept
import Derived.Maps.RangeRun
import Derived.Below
import Derived.Test.YtdkaaieenbmihaaMgA
import Derived.Laws.AppendOwnNone
import Derived.Laws.MakeOwn
import Derived.Laws.OwnMore
import Derived.WalkKit
import Derived.WalkLawsBesides
import Derived.StillTail
import Derived.Deep.Quiet
import Derived.Deep.WholeRow
import Derived.Deep.MidRow
import Derived.Deep.RegionHeld
import Derived.BigFrame
import Derived.OwnWalk
import Derived.Outline
import Derived.KernelRfl
import Derived.Deep.Draws
import Derived.Deep.QuietTactic
import Derived.BigQuiet
import Derived.Deep.DeepCutAuto
import Derived.StillTailTactics
import Derived.Deep.Cut
import Derived.Deep.RegionHeld3
import Derived.Deep.AppendLies
import Derived.BigCall
import Derived.Maps.AppendAt
import Derived.Laws.BytesString
set_option linter.unusedVariables false
set_option linter.unusedSimpArgs false
namespace Go
open Go.MapKept (Stamped IsKey stamped_empty stamped_push stamped_modify stamped_erase findNow_spec run_checkKey run_findKey run_keyThatStays heap_set)
/-- A map's pairs, in its own order. -/
structure DE (w : World) (mb : Nat) (es : Array MapEntry) (clock : Nat) (L : List (ByteArray × Value)) : Prop where
  heap : w.heap[mb]? = some (.map es clock)
  st : Stamped es clock
  prs : es.toList.map (fun e => (e.key, e.val)) = L.map fun p => (Value.string p.1, p.2)
def DM (w : World) (mb : Nat) (L : List (ByteArray × Value)) : Prop := ∃ es clock, DE w mb es clock L
/-- The value at a name. -/
def lk (L : List (ByteArray × Value)) (s : ByteArray) : Option Value := (L.find? fun p => decide (p.1 = s)).map (·.2)
def pt (L : List (ByteArray × Value)) (s : ByteArray) (v : Value) : List (ByteArray × Value) := if (lk L s).isSome then L.map (fun p => if p.1 = s then (s, v) else p) else L ++ [(s, v)]
def dl (L : List (ByteArray × Value)) (s : ByteArray) : List (ByteArray × Value) := L.filter fun p => !decide (p.1 = s)
theorem DE.keys {w : World} {mb clock : Nat} {es : Array MapEntry} {L : List (ByteArray × Value)} (h : DE w mb es clock L) : es.toList.map (·.key) = L.map fun p => Value.string p.1 := by
  have := congrArg (List.map Prod.fst) h.prs
  simpa [List.map_map, Function.comp_def] using this
theorem DE.nodup {w : World} {mb clock : Nat} {es : Array MapEntry} {L : List (ByteArray × Value)} (h : DE w mb es clock L) : (L.map (·.1)).Nodup := by
  have h3 := h.st.2.2
  rw [h.keys] at h3
  have h4 : ((L.map (·.1)).map Value.string).Nodup := by rw [List.map_map]; exact h3
  exact (List.pairwise_map.1 h4).imp fun hne e => hne (by rw [e])
theorem DE.isKey {w : World} {mb clock : Nat} {es : Array MapEntry} {L : List (ByteArray × Value)} (h : DE w mb es clock L) : ∀ x ∈ es.toList, IsKey .string x.key := fun x hx => by
  have : x.key ∈ es.toList.map (·.key) := List.mem_map.2 ⟨x, hx, rfl⟩
  rw [h.keys] at this
  obtain ⟨p, _, e⟩ := List.mem_map.1 this
  rw [← e]; trivial
theorem DE.get {w : World} {mb clock : Nat} {es : Array MapEntry} {L : List (ByteArray × Value)} (h : DE w mb es clock L) (j : Nat) : (es.toList[j]?).map (fun e => (e.key, e.val)) = (L[j]?).map fun p => (Value.string p.1, p.2) := by
  rw [← List.getElem?_map, ← List.getElem?_map, h.prs]
theorem DE.len {w : World} {mb clock : Nat} {es : Array MapEntry} {L : List (ByteArray × Value)} (h : DE w mb es clock L) : es.size = L.length := by
  have := congrArg List.length h.prs
  simpa using this
theorem lk_at {L : List (ByteArray × Value)} (hn : (L.map (·.1)).Nodup) {j : Nat} {s : ByteArray} {v : Value} (h : L[j]? = some (s, v)) : lk L s = some v := by
  induction L generalizing j with
  | nil => simp at h
  | cons p L ih =>
    have hn2 := List.nodup_cons.1 (show ((p.1) :: L.map (·.1)).Nodup from hn)
    unfold lk
    by_cases e : p.1 = s
    · rw [List.find?_cons_of_pos (by simpa using e)]
      cases j with
      | zero => simp at h; subst h; rfl
      | succ j =>
        exfalso
        simp at h
        exact hn2.1 (by rw [e]; exact List.mem_map.2 ⟨(s, v), List.mem_of_getElem? h, rfl⟩)
    · rw [List.find?_cons_of_neg (by simpa using e)]
      cases j with
      | zero => simp at h; subst h; exact absurd rfl e
      | succ j => simp at h; exact ih hn2.2 h
theorem lk_none {L : List (ByteArray × Value)} {s : ByteArray} (h : ∀ p ∈ L, p.1 ≠ s) : lk L s = none := by
  unfold lk
  rw [List.find?_eq_none.2 (fun p hp => by simpa using h p hp)]
  rfl
section
variable {P : Program}
/-- Where a name stands, or that it doesn't. -/
theorem DE.find {w : World} {mb clock : Nat} {es : Array MapEntry} {L : List (ByteArray × Value)} (h : DE w mb es clock L) (s : ByteArray) :
    (Instr.findNow .string (.string s) es.toList 0 = some none ∧ lk L s = none ∧ ∀ x ∈ es.toList, x.key ≠ .string s) ∨
    ∃ j e v, Instr.findNow .string (.string s) es.toList 0 = some (some (j, v)) ∧ es[j]? = some e ∧ e.key = .string s ∧ e.val = v ∧ L[j]? = some (s, v) ∧ lk L s = some v := by
  rcases findNow_spec (d := .string) (k := .string s) trivial es.toList 0 h.isKey with ⟨h1, h2⟩ | ⟨j, e, h1, h2, h3⟩
  · refine .inl ⟨h1, lk_none fun p hp e => ?_, h2⟩
    have : Value.string p.1 ∈ es.toList.map (·.key) := by rw [h.keys]; exact List.mem_map.2 ⟨p, hp, rfl⟩
    obtain ⟨x, hx, e2⟩ := List.mem_map.1 this
    exact h2 x hx (by rw [e2, e])
  · refine .inr ⟨j, e, e.val, by simpa using h1, by simpa using h2, h3, rfl, ?_⟩
    have hg := h.get j
    rw [h2] at hg
    cases hL : L[j]? with
    | none => rw [hL] at hg; simp at hg
    | some p =>
      rw [hL] at hg
      simp only [Option.map_some, Option.some.injEq, Prod.mk.injEq, h3, Value.string.injEq] at hg
      have hp : p = (s, e.val) := by rw [hg.1, hg.2]
      rw [hp] at hL ⊢
      exact ⟨rfl, lk_at h.nodup hL⟩
theorem run_look {w : World} {mb : Nat} {L : List (ByteArray × Value)} (h : DM w mb L) {t k e : TypeId} (ht : P.underlying t = some (.map k e)) (hk : P.underlying k = some .string) {z : Value} (hz : (zeroValue e).run P w = .ok z w) (s : ByteArray) :
    (Instr.lookup t (.map (some mb)) (.string s) true).run P w = .ok (.tuple #[(lk L s).getD z, .bool (lk L s).isSome]) w := by
  obtain ⟨es, clock, h⟩ := h
  rcases h.find s with ⟨h1, h2, _⟩ | ⟨j, x, v, h1, _, _, _, _, h2⟩
  · simp [Instr.lookup, run_underlying ht, MapKept.run_getObj_map h.heap, run_checkKey (d := .string) hk (k := .string s) trivial, run_findKey hk h1, Result.andThen, h2, hz]
  · simp [Instr.lookup, run_underlying ht, MapKept.run_getObj_map h.heap, run_checkKey (d := .string) hk (k := .string s) trivial, run_findKey hk h1, Result.andThen, h2]
/-- But for one block all is as it was. -/
structure Only (mb : Nat) (w w' : World) : Prop where
  os : w'.os = w.os
  tape : w'.tape = w.tape
  output : w'.output = w.output
  size : w'.heap.size = w.heap.size
  block : ∀ q, q ≠ mb → w'.heap[q]? = w.heap[q]?
theorem only_set (w : World) (mb : Nat) (o : Obj) : Only mb w { w with heap := w.heap.setIfInBounds mb o } :=
  ⟨rfl, rfl, rfl, by simp, fun q hq => by simp [Array.getElem?_setIfInBounds, show ¬ mb = q from fun e => hq e.symm]⟩
theorem run_put {w : World} {mb : Nat} {L : List (ByteArray × Value)} (h : DM w mb L) {t k e : TypeId} (ht : P.underlying t = some (.map k e)) (hk : P.underlying k = some .string) (s : ByteArray) (v : Value) :
    ∃ w', (Instr.mapUpdate t (.map (some mb)) (.string s) v).run P w = .ok () w' ∧ DM w' mb (pt L s v) ∧ Only mb w w' := by
  obtain ⟨es, clock, h⟩ := h
  rcases h.find s with ⟨h1, h2, h3⟩ | ⟨j, x, u, h1, hj, hx, hu, hL, h2⟩
  · refine ⟨{ w with heap := w.heap.setIfInBounds mb (.map (es.push { key := .string s, val := v, born := clock }) (clock + 1)) }, ?_, ⟨_, _, (heap_set h.heap).1, stamped_push h.st h3, ?_⟩, only_set _ _ _⟩
    · simp [Instr.mapUpdate, run_underlying ht, MapKept.run_getObj_map h.heap, run_checkKey (d := .string) hk (k := .string s) trivial, run_findKey hk h1, MapKept.run_setObj_map _ h.heap, Result.andThen]
    · have hp : pt L s v = L ++ [(s, v)] := by simp [pt, h2]
      rw [hp, Array.toList_push, List.map_append, List.map_append, h.prs]
      rfl
  · have hkey : ∀ e', es[j]? = some e' → ({ e' with key := .string s, val := v } : MapEntry).key = e'.key := fun e' he' => by rw [hj] at he'; cases he'; exact hx.symm
    refine ⟨{ w with heap := w.heap.setIfInBounds mb (.map (es.modify j fun e => { e with key := .string s, val := v }) clock) }, ?_, ⟨_, _, (heap_set h.heap).1, stamped_modify h.st _ _ (fun _ _ => rfl) (fun e' _ he' => hkey e' he'), ?_⟩, only_set _ _ _⟩
    · simp [Instr.mapUpdate, run_underlying ht, MapKept.run_getObj_map h.heap, run_checkKey (d := .string) hk (k := .string s) trivial, run_findKey hk h1, hj, hx, run_keyThatStays (d := .string) (k := .string s) trivial, MapKept.run_setObj_map _ h.heap, Result.andThen]
    · have hp : pt L s v = L.map (fun p => if p.1 = s then (s, v) else p) := by simp [pt, h2]
      rw [hp]
      apply List.ext_getElem?
      intro i
      simp only [List.getElem?_map, Array.getElem?_toList, Array.getElem?_modify]
      have hg := h.get i
      rw [Array.getElem?_toList] at hg
      by_cases e : j = i
      · subst e
        rw [hj, hL]; simp
      · rw [if_neg e]
        cases hL2 : L[i]? with
        | none => rw [hL2] at hg; simpa using hg
        | some p =>
          have hne : ¬ p.1 = s := fun e2 => by
            have hn := h.nodup
            have a1 : (L.map (·.1))[j]? = some s := by simp [hL]
            have a2 : (L.map (·.1))[i]? = some s := by simp [hL2, e2]
            exact e ((List.getElem?_inj (List.getElem?_eq_some_iff.1 a1).1 hn).1 (a1.trans a2.symm))
          rw [hL2] at hg
          simp only [Option.map_some, if_neg hne]
          simpa using hg
theorem map_erase {α β : Type} (f : α → β) : ∀ (l : List α) (j : Nat), (l.eraseIdx j).map f = (l.map f).eraseIdx j
  | [], _ => rfl
  | _ :: _, 0 => rfl
  | x :: l, j + 1 => by simp [map_erase f l j]
theorem run_del {w : World} {mb : Nat} {L : List (ByteArray × Value)} (h : DM w mb L) {t k e : TypeId} (ht : P.underlying t = some (.map k e)) (hk : P.underlying k = some .string) (s : ByteArray) (ty u : TypeId) :
    ∃ w', (Builtin.delete_ #[t, u] ty #[.map (some mb), .string s]).run P w = .ok (.tuple #[]) w' ∧ DM w' mb (dl L s) ∧ Only mb w w' := by
  obtain ⟨es, clock, h⟩ := h
  rcases h.find s with ⟨h1, h2, h3⟩ | ⟨j, x, v, h1, hj, hx, hu, hL, h2⟩
  · refine ⟨{ w with heap := w.heap.setIfInBounds mb (.map es clock) }, ?_, ⟨es, clock, (heap_set h.heap).1, h.st, ?_⟩, only_set _ _ _⟩
    · simp [Builtin.delete_, run_underlying ht, MapKept.run_getObj_map h.heap, run_checkKey (d := .string) hk (k := .string s) trivial, run_findKey hk h1, MapKept.run_setObj_map _ h.heap, Result.andThen]
    · have hp : dl L s = L := by
        unfold dl
        refine List.filter_eq_self.2 fun p hp => ?_
        have : Value.string p.1 ∈ es.toList.map (·.key) := by rw [h.keys]; exact List.mem_map.2 ⟨p, hp, rfl⟩
        obtain ⟨x, hx, e2⟩ := List.mem_map.1 this
        have : ¬ p.1 = s := fun e => h3 x hx (by rw [e2, e])
        simpa using this
      rw [hp]; exact h.prs
  · refine ⟨{ w with heap := w.heap.setIfInBounds mb (.map (es.eraseIdxIfInBounds j) clock) }, ?_, ⟨_, _, (heap_set h.heap).1, stamped_erase h.st j, ?_⟩, only_set _ _ _⟩
    · simp [Builtin.delete_, run_underlying ht, MapKept.run_getObj_map h.heap, run_checkKey (d := .string) hk (k := .string s) trivial, run_findKey hk h1, MapKept.run_setObj_map _ h.heap, Result.andThen]
    · have hjl : j < es.size := (Array.getElem?_eq_some_iff.1 hj).1
      have hp : dl L s = L.eraseIdx j := by
        have hn := h.nodup
        clear hj hx hu h1 h2 h hjl
        unfold dl
        induction L generalizing j with
        | nil => simp at hL
        | cons p L ih =>
          have hn2 := List.nodup_cons.1 (show ((p.1) :: L.map (·.1)).Nodup from hn)
          cases j with
          | zero =>
            simp at hL
            subst hL
            rw [List.eraseIdx_cons_zero, List.filter_cons_of_neg (by simp)]
            refine List.filter_eq_self.2 fun q hq => ?_
            have : ¬ q.1 = s := fun e => hn2.1 (by rw [← e]; exact List.mem_map.2 ⟨q, hq, rfl⟩)
            simpa using this
          | succ j =>
            simp at hL
            have hne : ¬ p.1 = s := fun e => hn2.1 (by rw [e]; exact List.mem_map.2 ⟨(s, v), List.mem_of_getElem? hL, rfl⟩)
            rw [List.eraseIdx_cons_succ, List.filter_cons_of_pos (by simpa using hne), ih j hL hn2.2]
      have he : (es.eraseIdxIfInBounds j).toList = es.toList.eraseIdx j := by simp [Array.eraseIdxIfInBounds, hjl]
      rw [hp, he, map_erase, map_erase, h.prs]
theorem run_lenm {w : World} {mb : Nat} {L : List (ByteArray × Value)} (h : DM w mb L) {t k e ty : TypeId} (ht : P.underlying t = some (.map k e)) : (Builtin.len_ #[t] ty #[.map (some mb)]).run P w = .ok (.int .i64 (L.length : Int)) w := by
  obtain ⟨es, clock, h⟩ := h
  simp [Builtin.len_, run_underlying ht, MapKept.run_getObj_map h.heap, Result.andThen, h.len, goInt]
theorem DM.made (w : World) : DM (w.alloc (.map #[] 0)) w.heap.size [] := ⟨#[], 0, heap_alloc_new _ _, stamped_empty 0, rfl⟩
theorem DM.kept {w w' : World} {mb : Nat} {L : List (ByteArray × Value)} (h : DM w mb L) (hb : w'.heap[mb]? = w.heap[mb]?) : DM w' mb L := by
  obtain ⟨es, clock, h⟩ := h
  exact ⟨es, clock, hb.trans h.heap, h.st, h.prs⟩
theorem DM.lt {w : World} {mb : Nat} {L : List (ByteArray × Value)} (h : DM w mb L) : mb < w.heap.size := by
  obtain ⟨es, clock, h⟩ := h
  exact (Array.getElem?_eq_some_iff.1 h.heap).1
theorem DM.nodup {w : World} {mb : Nat} {L : List (ByteArray × Value)} (h : DM w mb L) : (L.map (·.1)).Nodup := by
  obtain ⟨es, clock, h⟩ := h
  exact h.nodup
end
end Go
namespace Go
/-- A file. -/
structure FE where
  nm : ByteArray
  bs : List Nat
  sure : Nat
deriving DecidableEq, Inhabited
/-- A disk: its files in the map's order, its units, whether the power is off. -/
structure DS where
  L : List FE
  left : Int
  off : Bool
deriving DecidableEq, Inhabited
namespace DS
def get (d : DS) (s : ByteArray) : Option FE := d.L.find? fun f => decide (f.nm = s)
def putL (L : List FE) (f : FE) : List FE := if (L.find? fun g => decide (g.nm = f.nm)).isSome then L.map (fun g => if g.nm = f.nm then f else g) else L ++ [f]
def del (L : List FE) (s : ByteArray) : List FE := L.filter fun f => !decide (f.nm = s)
def new : DS := ⟨[], -1, false⟩
/-- Units used: how many there were. -/
def useN (d : DS) (n : Nat) : Nat := if d.left < 0 then n else min n d.left.toNat
def used (d : DS) (n : Nat) : DS := if d.left < 0 then d else { d with left := d.left - (min n d.left.toNat : Nat), off := decide (d.left.toNat < n) }
def useOk (d : DS) (n : Nat) : Bool := decide (d.left < 0 ∨ n ≤ d.left.toNat)
def fuse (d : DS) (n : Int) : DS := if d.off then d else { d with left := max n (-1) }
def leftS (d : DS) : Int := if d.off then 0 else d.left
/-- Append: the disk behind it, the error. -/
def app (name : ByteArray → Bool) (d : DS) (s : ByteArray) (b : List Nat) : DS × Nat :=
  if d.off then (d, 20)
  else if name s = false then (d, 1)
  else if (d.get s).isNone ∧ 8 ≤ d.L.length then (d, 3)
  else if 1048576 < b.length ∨ 1048576 < (((d.get s).map (·.bs)).getD []).length + b.length then (d, 3)
  else
    let f : FE := ⟨s, ((d.get s).map (·.bs)).getD [] ++ b.take (d.useN b.length), ((d.get s).map (·.sure)).getD 0⟩
    ({ d.used b.length with L := putL d.L f }, if d.useOk b.length then 0 else 20)
/-- One unit, then an act on the files. -/
def one (d : DS) (act : List FE → List FE) : DS × Nat := if d.useOk 1 then ({ d.used 1 with L := act d.L }, 0) else (d.used 1, 20)
def sync (d : DS) (s : ByteArray) : DS × Nat :=
  if d.off then (d, 20) else
  match d.get s with
  | none => (d, 4)
  | some f => d.one fun L => putL L ⟨s, f.bs, f.bs.length⟩
def ren (name : ByteArray → Bool) (d : DS) (a b : ByteArray) : DS × Nat :=
  if d.off then (d, 20) else
  match d.get a with
  | none => (d, 4)
  | some f => if name b = false then (d, 1) else d.one fun L => putL (del L a) ⟨b, f.bs, f.sure⟩
def cut (d : DS) (s : ByteArray) (n : Int) : DS × Nat :=
  if d.off then (d, 20) else
  match d.get s with
  | none => (d, 4)
  | some f => if n < 0 ∨ (f.bs.length : Int) < n then (d, 1) else d.one fun L => putL L ⟨s, f.bs.take n.toNat, min f.sure n.toNat⟩
def rem (d : DS) (s : ByteArray) : DS × Nat :=
  if d.off then (d, 20) else
  match d.get s with
  | none => (d, 4)
  | some _ => d.one fun L => del L s
def read (d : DS) (s : ByteArray) : List Nat × Nat :=
  if d.off then ([], 20) else
  match d.get s with
  | none => ([], 4)
  | some f => (f.bs, 0)
def crash1 (keep : Int) (f : FE) : FE := let n := f.sure + min (max keep 0).toNat (f.bs.length - f.sure); ⟨f.nm, f.bs.take n, n⟩
def crash (d : DS) (keep : Int) : DS := ⟨d.L.map (crash1 keep), -1, false⟩
end DS
end Go
namespace Go.Proofs.Ytdkaaieenbmihaa
open Go.RowKit
/-- A list of structs of k cells each: empty, wherever it leads; or in an array. -/
def Rw {α : Type} [Inhabited α] (k : Nat) (enc : α → Array Value) (w : World) (v : Value) (l : List α) : Prop :=
  (∃ A c, v = .slice A 0 c ∧ l = [] ∧ (A = none → c = 0)) ∨ ∃ g o c, v = .slice (some ⟨g, o, none⟩) l.length c ∧ l.length ≤ c ∧ g < w.heap.size ∧ ∀ i, i < l.length → w.rangeAt g (o + i * k) (enc (l.getD i default)).toList
section
variable {α : Type} [Inhabited α] {k : Nat} {enc : α → Array Value} {w w' : World} {v : Value} {l : List α}
theorem Rw.form (h : Rw k enc w v l) : ∃ A c, v = .slice A l.length c := by
  rcases h with ⟨A, c, rfl, rfl, _⟩ | ⟨g, o, c, rfl, _⟩
  · exact ⟨A, c, rfl⟩
  · exact ⟨_, c, rfl⟩
theorem Rw.nil : Rw k enc w (.slice none 0 0) [] := .inl ⟨none, 0, rfl, rfl, fun _ => rfl⟩
theorem Rw.lt (h : Rw k enc w v l) (hl : l ≠ []) : ∀ q, v.ownBlock = some q → q < w.heap.size := by
  rcases h with ⟨A, c, rfl, h0, _⟩ | ⟨g, o, c, rfl, _, h2, _⟩
  · exact absurd h0 hl
  · intro q hq; simp [Value.ownBlock] at hq; omega
theorem Rw.kept (h : Rw k enc w v l) (hs : w.heap.size ≤ w'.heap.size) (hb : l ≠ [] → ∀ q, v.ownBlock = some q → w'.heap[q]? = w.heap[q]?) : Rw k enc w' v l := by
  rcases h with h | ⟨g, o, c, rfl, h1, h2, h3⟩
  · exact .inl h
  · by_cases hl : l = []
    · subst hl; exact .inr ⟨g, o, c, rfl, h1, by omega, fun j hj => by simp at hj⟩
    · exact .inr ⟨g, o, c, rfl, h1, by omega, fun i hi j u hu => by rw [World.cell?_of_block (w := w) (hb hl g rfl)]; exact h3 i hi j u hu⟩
theorem Rw.below (h : Rw k enc w v l) (hb : Below w.heap.size w w') : Rw k enc w' v l :=
  h.kept hb.size fun hl q hq => hb.block q (h.lt hl q hq)
/-- An element, where a loop reads it. -/
theorem Rw.elem {A : Option Addr} {n c : Nat} (h : Rw k enc w (.slice A n c) l) (i : Nat) (hi : i < l.length) : ∃ g o, A = some ⟨g, o, none⟩ ∧ n ≤ c ∧ g < w.heap.size ∧ w.rangeAt g (o + i * k) (enc (l.getD i default)).toList := by
  rcases h with ⟨A', c', h0, rfl, _⟩ | ⟨g, o, c', h0, h1, h2, h3⟩
  · simp at hi
  · injection h0 with h5 h6 h7
    subst h5 h6 h7
    exact ⟨g, o, rfl, h1, h2, h3 i hi⟩
end
theorem range_below {w w' : World} {g o : Nat} {cs : List Value} {B : Nat} (h : w.rangeAt g o cs) (hb : Below B w w') (hg : g < B) : w'.rangeAt g o cs := fun j u hu => by
  rw [hb.cell hg]; exact h j u hu
/-- The address of an element. -/
theorem exec_index {ty : TypeId} {k : Nat} {o : Oper} {a : Act} (hu : Try.prog.underlying ty = some (.slice (Try.prog.elem ty))) (hsz : ∀ w, (sizeOf (Try.prog.elem ty)).run Try.prog w = .ok k w) (x ix : Operand) (ho : o.op = .indexAddr ty x ix) (g off n c i : Nat) (hx : a.eval x = .slice (some ⟨g, off, none⟩) n c)
    (hi : a.eval ix = .int .i64 (i : Int)) (h : i < n) (w : World) : (execOp a.eval o).run Try.prog w = .ok (.value (.pointer (some ⟨g, off + i * k, none⟩))) w := by
  unfold execOp
  simp only [ho, hx, hi, Sem.run_bind, run_indexAt_slice w ty _ n c .i64 (i : Int) hu, hsz, Result.andThen_ok, Sem.run_pure]
  rw [if_pos (by omega)]
  simp [Addr.add_mid]
/-- The cells of a list of structs. -/
def flat {α : Type} (enc : α → Array Value) (l : List α) : List Value := l.flatMap fun x => (enc x).toList
theorem flat_len {α : Type} {k : Nat} {enc : α → Array Value} (he : ∀ x, (enc x).size = k) (l : List α) : (flat enc l).length = l.length * k := by
  induction l with
  | nil => simp [flat]
  | cons x xs ih =>
    have : flat enc (x :: xs) = (enc x).toList ++ flat enc xs := by simp [flat]
    rw [this, List.length_append, ih, Array.length_toList, he, List.length_cons, Nat.succ_mul]; omega
theorem flat_app {α : Type} {enc : α → Array Value} (a b : List α) : flat enc (a ++ b) = flat enc a ++ flat enc b := by simp [flat]
theorem flat_one {α : Type} {enc : α → Array Value} (h1 : ∀ x, ∀ u ∈ (enc x).toList, u.oneCell' = true) (l : List α) : ∀ u ∈ flat enc l, u.oneCell' = true := fun u hu => by
  obtain ⟨x, _, hx⟩ := List.mem_flatMap.1 hu
  exact h1 x u hx
section
variable {α : Type} [Inhabited α] {k : Nat} {enc : α → Array Value}
theorem flat_get (he : ∀ x, (enc x).size = k) : ∀ (l : List α) (i : Nat) (r : Nat), i < l.length → r < k → (flat enc l)[i * k + r]? = (enc (l.getD i default)).toList[r]?
  | [], i, r, h, _ => by simp at h
  | x :: xs, 0, r, h, hr => by
    have : flat enc (x :: xs) = (enc x).toList ++ flat enc xs := by simp [flat]
    rw [this, Nat.zero_mul, Nat.zero_add, List.getElem?_append_left (by rw [Array.length_toList, he]; exact hr)]
    rfl
  | x :: xs, i + 1, r, h, hr => by
    have : flat enc (x :: xs) = (enc x).toList ++ flat enc xs := by simp [flat]
    rw [this, List.getElem?_append_right (by rw [Array.length_toList, he, Nat.succ_mul]; omega), Array.length_toList, he, show (i + 1) * k + r - k = i * k + r by rw [Nat.succ_mul]; omega, flat_get he xs i r (by simpa using h) hr]
    rfl
theorem flat_at (he : ∀ x, (enc x).size = k) (l : List α) (j : Nat) (u : Value) (h : (flat enc l)[j]? = some u) : ∃ i r, i < l.length ∧ r < k ∧ j = i * k + r ∧ (enc (l.getD i default)).toList[r]? = some u := by
  have hj : j < l.length * k := by rw [← flat_len he l]; exact (List.getElem?_eq_some_iff.1 h).1
  have hk : 0 < k := by
    rcases Nat.eq_zero_or_pos k with h0 | h0
    · subst h0; simp at hj
    · exact h0
  have h1 : j / k < l.length := (Nat.div_lt_iff_lt_mul hk).2 hj
  have h2 : j % k < k := Nat.mod_lt _ hk
  have h3 : j = j / k * k + j % k := by rw [Nat.mul_comm]; exact (Nat.div_add_mod j k).symm
  refine ⟨j / k, j % k, h1, h2, h3, ?_⟩
  rw [← flat_get he l _ _ h1 h2, ← h3]; exact h
theorem Rw.cells {w : World} {g o : Nat} {l : List α} (he : ∀ x, (enc x).size = k) (h : ∀ i, i < l.length → w.rangeAt g (o + i * k) (enc (l.getD i default)).toList) : ∀ j u, (flat enc l)[j]? = some u → w.cell? ((⟨g, o, none⟩ : Addr).add j) = some u := fun j u hu => by
  obtain ⟨i, r, h1, h2, rfl, h3⟩ := flat_at he l j u hu
  rw [Addr.add_mid, ← Nat.add_assoc]
  exact h i h1 r u h3
theorem Rw.own {w : World} {base n : Nat} {e : TypeId} {v : Value} {l : List α} (he : ∀ x, (enc x).size = k) (hk : 0 < k) (h : w.ownsRow base e k v n (flat enc l)) : Rw k enc w v l := by
  have hn : n = l.length := by
    have := h.1; rw [flat_len he] at this
    exact (Nat.eq_of_mul_eq_mul_right hk this).symm
  subst hn
  rcases h.2 with ⟨rfl, h0⟩ | ⟨g, cap, cur, rfl, h1, h2, h3, _⟩
  · have hl : l = [] := List.length_eq_zero_iff.1 h0
    subst hl; exact Rw.nil
  · refine .inr ⟨g, 0, cap, rfl, h3, (Array.getElem?_eq_some_iff.1 h2).1, fun i hi r u hu => ?_⟩
    have hr : r < k := by rw [← he (l.getD i default), ← Array.length_toList]; exact (List.getElem?_eq_some_iff.1 hu).1
    have hb : i * k + r < l.length * k := by
      have : (i + 1) * k ≤ l.length * k := Nat.mul_le_mul_right k hi
      rw [Nat.succ_mul] at this; omega
    rw [Nat.zero_add, h.cellAt (i * k + r) hb, flat_get he l i r hi hr]
    exact hu
/-- A list behind a list that is the call's own. -/
theorem appendRw {w : World} {ops : Array Oper} {rest : List Oper} {o : Oper} {a : Act} {Q : Exit → Act → World → Prop} (ty e : TypeId) (bytes : Nat) (i : TypeInfo) (z : Value) (ht : Try.prog.underlying ty = some (.slice e)) (hi : Try.prog.info? e = some i) (hz : i.zero = some z) (hsize : i.size = k) (hby : i.bytes = bytes) (hzs : z.cells.size = k) (hk : 0 < k) (he : ∀ x, (enc x).size = k) (h1 : ∀ x, ∀ u ∈ (enc x).toList, u.oneCell' = true)
    (hgd : o.guard = none) (s x : Operand) (ho : o.op = .call { callee := .builtin .append, args := #[s, x], argTypes := #[ty, ty] })
    (base : Nat) (v : Value) (l0 l : List α) (hs : a.eval s = v) (hown : w.ownsRow base e k v l0.length (flat enc l0))
    (y : Value) (hx : a.eval x = y) (hy : Rw k enc w y l) (hlen : l0.length + l.length ≤ 140737488355327) (hlen2 : (l0.length + l.length) * bytes ≤ 140737488355328) (hbase : base ≤ w.heap.size)
    (h : ∀ v' w', w'.ownsRow base e k v' (l0 ++ l).length (flat enc (l0 ++ l)) → w.grownBy w' v.ownBlock → wpList Try.prog ops Q rest (a.put o.dst v') w') : wpList Try.prog ops Q (o :: rest) a w := by
  rcases hy with ⟨A, c, rfl, rfl, hA⟩ | ⟨g, off, c, rfl, hc, hg, hl⟩
  · cases A with
    | none =>
      have hA := hA rfl
      subst hA
      exact wpList_append_own_none hgd s x ty ho base e i k ht hi v l0.length (flat enc l0) hs hown hx (h v w (by simpa using hown) (grownBy_refl _ _))
    | some ad =>
      refine wpList_append_own w hgd s x ty ho base e i z k bytes ht hi hz hsize hby hzs hk v l0.length (flat enc l0) hs hown ad 0 c [] hx (by simp) (fun j u hu => by simp at hu) (fun u hu => by simp at hu) (by unfold maxLen; omega) (by simpa using hlen2) hbase ?_
      intro v' w' h1 h2 h3
      exact h v' w' (by simpa using h1) h2
  · refine wpList_append_own w hgd s x ty ho base e i z k bytes ht hi hz hsize hby hzs hk v l0.length (flat enc l0) hs hown ⟨g, off, none⟩ l.length c (flat enc l) hx (flat_len he l) (Rw.cells he hl) (flat_one h1 l) (by unfold maxLen; omega) hlen2 hbase ?_
    intro v' w' h1 h2 h3
    exact h v' w' (by rw [List.length_append, flat_app]; exact h1) h2
end
theorem quiet_runG {P : Program} {ops : Array Oper} {C : World → Prop} {rest : List Oper} {o : Oper} {a : Act} {Q : Act → Prop} (hw : Region.wanted o (yielded ops a.tmps) = true) (v : Value) (he : ∀ w, C w → (execOp a.eval o).run P w = .ok (.value v) w)
    (k : wpQuiet P ops C Q rest (a.put o.dst v)) : wpQuiet P ops C Q (o :: rest) a := by
  rw [wpQuiet, if_pos hw]
  exact ⟨v, fun w hw => by unfold Oper.quietAt; rw [he w hw]; exact ⟨rfl, rfl⟩, k⟩
theorem wpList_skip {P : Program} {ops : Array Oper} {rest : List Oper} {o : Oper} {a : Act} {w : World} {Q : Exit → Act → World → Prop} (hw : Region.wanted o (yielded ops a.tmps) = false) (h : wpList P ops Q rest (a.put o.dst undef) w) : wpList P ops Q (o :: rest) a w := by
  rw [wpList, if_neg (by rw [hw]; exact Bool.false_ne_true)]; exact h
theorem drop_cons {α : Type} [Inhabited α] (l : List α) (i : Nat) (h : i < l.length) : l.drop i = l.getD i default :: l.drop (i + 1) := by
  rw [List.drop_eq_getElem_cons h]; simp [h]
theorem own_keep {w w' : World} {base n k : Nat} {e : TypeId} {v : Value} {xs : List Value} (h : w.ownsRow base e k v n xs) (hb : ∀ k, v.ownBlock = some k → w'.heap[k]? = w.heap[k]?) : w'.ownsRow base e k v n xs := by
  refine ⟨h.1, ?_⟩
  rcases h.2 with h2 | ⟨g', cap, cur, rfl, h1, h2, h3⟩
  · exact .inl h2
  · exact .inr ⟨g', cap, cur, rfl, h1, by rw [hb g' rfl]; exact h2, h3⟩
theorem own_form {w : World} {base n k : Nat} {e : TypeId} {v : Value} {xs : List Value} (h : w.ownsRow base e k v n xs) : ∃ A c, v = .slice A n c := by
  rcases h.2 with ⟨rfl, h0⟩ | ⟨g9, cap, cur, rfl, _⟩
  · exact ⟨none, 0, by rw [h0]⟩
  · exact ⟨_, cap, rfl⟩
/-- A new row of one struct. -/
theorem rw_one {α : Type} [Inhabited α] {k : Nat} {enc : α → Array Value} {w : World} {g : Nat} {t : TypeId} {fr : Nat × Nat} (x : α) (h : w.heap[g]? = some (.cells (enc x) t fr)) : Rw k enc w (.slice (some ⟨g, 0, none⟩) 1 1) [x] :=
  .inr ⟨g, 0, 1, rfl, Nat.le_refl _, (Array.getElem?_eq_some_iff.1 h).1, fun i hi j u hu => by
    have : i = 0 := by simp at hi; omega
    subst this
    rw [Nat.zero_mul, Nat.add_zero, Nat.zero_add, cell_of_row _ _ _ _ _ _ h]
    simpa using hu⟩
section
variable {P : Program} {ops : Array Oper} {Q : Exit → Act → World → Prop} {md : Region.Mode} {S : World → Prop} {fuel : Nat} {listed : Array Bool} {a : Act} {w : World}
/-- Either of two may come up. -/
theorem held_two (i j : Nat) {oi oj : Oper} (hi : ops[i]? = some oi) (hj : ops[j]? = some oj) (hr : Region.ready md ops listed = [i, j]) (hwi : Region.wanted oi (yielded ops a.tmps) = true) (hwj : Region.wanted oj (yielded ops a.tmps) = true)
    (vi : Value) (wi : World) (hei : (execOp a.eval oi).run P w = .ok (.value vi) wi) (hSi : S wi) (vj : Value) (wj : World) (hej : (execOp a.eval oj).run P w = .ok (.value vj) wj) (hSj : S wj)
    (h1 : wpAnyH P md ops Q S fuel (listed.setIfInBounds i true) (a.put oi.dst vi) wi) (h2 : wpAnyH P md ops Q S fuel (listed.setIfInBounds j true) (a.put oj.dst vj) wj) : wpAnyH P md ops Q S (fuel + 1) listed a w :=
  wpAnyH_all hr (by simp) fun k hk => by
    rcases List.mem_cons.1 hk with rfl | hk
    · exact wpOp_step hi fun K' hK => by
        rw [if_pos hwi]
        unfold Oper.wp; rw [hei]; exact hK _ _ ⟨hSi, h1⟩
    · rw [List.mem_singleton.1 hk]
      exact wpOp_step hj fun K' hK => by
        rw [if_pos hwj]
        unfold Oper.wp; rw [hej]; exact hK _ _ ⟨hSj, h2⟩
/-- What a region leaves, whatever its order. -/
theorem wp_leaves {c : Code} {α : Type} (F : α → Act → Act) (R : α → World → Prop) (h1 : c.wp P (fun ex a' w' => ex = .normal ∧ ∃ d, a' = F d a ∧ R d w') a w) (h2 : ∀ d w', R d w' → Q .normal (F d a) w') : c.wp P Q a w :=
  Code.wp_mono (fun e a' w' h => by obtain ⟨rfl, d, rfl, hR⟩ := h; exact h2 d w' hR) h1
theorem exec_make {o : Oper} (t : TypeId) (x y : Operand) (ho : o.op = .makeSlice t x y) (e : TypeId) (i : TypeInfo) (z : Value) (ht : P.underlying t = some (.slice e)) (hi : P.info? e = some i) (hz : i.zero = some z) (n : Nat)
    (hx : a.eval x = .int .i64 0) (hy : a.eval y = .int .i64 (n : Int)) (hb : i.bytes * n ≤ 281474976710656) (h63 : n ≤ maxLen) : (execOp a.eval o).run P w = .ok (.value (.slice (some ⟨w.heap.size, 0, none⟩) 0 n)) (w.alloc (.cells (madeCells z.cells (n * i.size)) e)) := by
  have h1 : (n : Int) ≤ 9223372036854775807 := by unfold maxLen at h63; omega
  have h2 : (i.bytes : Int) * (n : Int) ≤ 281474976710656 := by
    have h : ((i.bytes * n : Nat) : Int) ≤ 281474976710656 := by omega
    rwa [Int.natCast_mul] at h
  have hr := run_make (P := P) w t e i z ht hi hz .i64 .i64 0 n (Int.le_refl _) (by omega) h2 h1
  unfold execOp
  simp only [ho, hx, hy, Sem.run_bind, hr, Result.andThen_ok, Sem.run_pure, Int.toNat_natCast]
  rfl
end
theorem own_kind {w : World} {base n k d : Nat} {e t : TypeId} {v : Value} {xs : List Value} {cs : Array Value} {fr : Nat × Nat} (h : w.ownsRow base e k v n xs) (hd : w.heap[d]? = some (.cells cs t fr)) (hne : e ≠ t) : some d ≠ v.ownBlock := by
  rcases h.2 with ⟨rfl, _⟩ | ⟨g', cap, cur, rfl, _, h2, _⟩
  · simp [Value.ownBlock]
  · intro q
    simp [Value.ownBlock] at q
    subst q
    rw [h2] at hd
    simp at hd
    exact hne hd.2.1
theorem own_other {w : World} {base base' n n' k k' : Nat} {e e' : TypeId} {v v' : Value} {xs xs' : List Value} (h : w.ownsRow base e k v n xs) (h' : w.ownsRow base' e' k' v' n' xs') (hne : e ≠ e') : ∀ q, v'.ownBlock = some q → some q ≠ v.ownBlock := fun q hq => by
  rcases h'.2 with ⟨rfl, _⟩ | ⟨g', cap, cur, rfl, _, h2, _⟩
  · simp [Value.ownBlock] at hq
  · simp [Value.ownBlock] at hq
    subst hq
    exact own_kind h h2 hne
theorem own_mono {w : World} {base base' n k : Nat} {e : TypeId} {v : Value} {xs : List Value} (h : w.ownsRow base e k v n xs) (hb : base' ≤ base) : w.ownsRow base' e k v n xs := by
  refine ⟨h.1, ?_⟩
  rcases h.2 with h2 | ⟨g', cap, cur, rfl, h1, h2⟩
  · exact .inl h2
  · exact .inr ⟨g', cap, cur, rfl, by omega, h2⟩
theorem heap_kept {w w' : World} {B : Nat} {o : Obj} (h : w.heap[B]? = some o) (hb : Below w.heap.size w w') : w'.heap[B]? = some o := (hb.block B (Array.getElem?_eq_some_iff.1 h).1).trans h
/-- A new row of structs. -/
theorem rw_new {α : Type} [Inhabited α] {k : Nat} {enc : α → Array Value} (he : ∀ x, (enc x).size = k) {w : World} {g : Nat} {t : TypeId} {fr : Nat × Nat} (l : List α) (h : w.heap[g]? = some (.cells (flat enc l).toArray t fr)) : Rw k enc w (.slice (some ⟨g, 0, none⟩) l.length l.length) l :=
  .inr ⟨g, 0, l.length, rfl, Nat.le_refl _, (Array.getElem?_eq_some_iff.1 h).1, fun i hi r u hu => by
    have hr : r < k := by rw [← he (l.getD i default), ← Array.length_toList]; exact (List.getElem?_eq_some_iff.1 hu).1
    rw [Nat.zero_add, cell_of_row _ _ _ _ _ _ h, List.getElem?_toArray, flat_get he l i r hi hr]
    exact hu⟩
theorem run_elem {α : Type} [Inhabited α] {k : Nat} {enc : α → Array Value} {w : World} {g o n c : Nat} {l : List α} (h : Rw k enc w (.slice (some ⟨g, o, none⟩) n c) l) (i : Nat) (hi : i < l.length) : w.rangeAt g (o + i * k) (enc (l.getD i default)).toList := by
  obtain ⟨g', o', h1, _, _, h2⟩ := h.elem i hi
  injection h1 with h1
  injection h1 with h3 h4
  subst h3 h4
  exact h2
section
variable {α : Type} [Inhabited α] {k : Nat} {enc : α → Array Value}
end
section
variable {P : Program} {ops : Array Oper} {Q : Exit → Act → World → Prop} {md : Region.Mode} {S : World → Prop} {fuel : Nat} {listed : Array Bool} {a : Act} {w : World}
/-- Either of two may come up: each goes on in its own way. -/
theorem held_both (i j : Nat) {oi oj : Oper} (hi : ops[i]? = some oi) (hj : ops[j]? = some oj) (hr : Region.ready md ops listed = [i, j]) (hwi : Region.wanted oi (yielded ops a.tmps) = true) (hwj : Region.wanted oj (yielded ops a.tmps) = true)
    (h1 : ∀ K : Act → World → Prop, (∀ a w, S w → wpAnyH P md ops Q S fuel (listed.setIfInBounds i true) a w → K a w) → oi.wp P a w K Q)
    (h2 : ∀ K : Act → World → Prop, (∀ a w, S w → wpAnyH P md ops Q S fuel (listed.setIfInBounds j true) a w → K a w) → oj.wp P a w K Q) : wpAnyH P md ops Q S (fuel + 1) listed a w :=
  wpAnyH_all hr (by simp) fun k hk => by
    rcases List.mem_cons.1 hk with rfl | hk
    · exact wpOp_step hi fun K' hK => by
        rw [if_pos hwi]
        exact h1 K' fun a w h1 h2 => hK a w ⟨h1, h2⟩
    · rw [List.mem_singleton.1 hk]
      exact wpOp_step hj fun K' hK => by
        rw [if_pos hwj]
        exact h2 K' fun a w h1 h2 => hK a w ⟨h1, h2⟩
theorem wp_enter {o : Oper} {K : Act → World → Prop} (f : FuncId) (args : Array Value) (he : (execOp a.eval o).run P w = .ok (.enter f args) w) {R : Value → World → Prop} (hc : Calls P f args w fun e w' => ∃ v, e = .returned v ∧ R v w')
    (h : ∀ v w', R v w' → K (a.put o.dst v) w') : o.wp P a w K Q := by
  unfold Oper.wp; rw [he, Oper.upon_enter]
  exact hc.mono fun e w' hh => by obtain ⟨v, rfl, hR⟩ := hh; exact h v w' hR
theorem wp_ran {o : Oper} {K : Act → World → Prop} (v : Value) (w' : World) (he : (execOp a.eval o).run P w = .ok (.value v) w') (h : K (a.put o.dst v) w') : o.wp P a w K Q := by
  unfold Oper.wp; rw [he]; exact h
end
theorem own_formq {w : World} {base n k q : Nat} {e : TypeId} {v : Value} {xs : List Value} (h : w.ownsRow base e k v n xs) (hq : q = n) : ∃ A c, v = .slice A q c := by
  subst hq; exact own_form h
theorem rw_take {α : Type} [Inhabited α] {k : Nat} {enc : α → Array Value} {w : World} {l : List α} {A : Option Addr} {n c : Nat} (hn : n = l.length) (hy : Rw k enc w (.slice A n c) l) (q : Nat) (hq : q ≤ n) : q ≤ c ∧ Rw k enc w (.slice (if c = 0 then A else A.map (·.add 0)) q c) (l.take q) := by
  rcases hy with ⟨A', c', h, rfl, h2⟩ | ⟨g, o, c', h, h2, h3, h4⟩
  · injection h with h5 h6 h7
    subst h5 h6 h7
    have : q = 0 := by simpa using hq
    subst this
    refine ⟨Nat.zero_le _, .inl ⟨_, c, rfl, rfl, fun h => ?_⟩⟩
    by_cases hc : c = 0
    · exact hc
    · rw [if_neg hc] at h
      cases A with
      | none => exact h2 rfl
      | some a => cases h
  · injection h with h5 h6 h7
    subst h5 h7
    have hl : (l.take q).length = q := by rw [List.length_take]; omega
    refine ⟨by omega, .inr ⟨g, o, c, ?_, by rw [hl]; omega, h3, fun i hi => ?_⟩⟩
    · rw [hl]
      split
      · rfl
      · rw [Option.map_some, Addr.add_mid, Nat.add_zero]
    · rw [hl] at hi
      have e : (l.take q).getD i default = l.getD i default := by
        rw [List.getD_eq_getElem?_getD, List.getD_eq_getElem?_getD, List.getElem?_take, if_pos hi]
      rw [e]
      exact h4 i (by omega)
end Go.Proofs.Ytdkaaieenbmihaa
namespace Go.Proofs.Ytdkaaieenbmihaa
open Go.RowKit
/-- A byte's cell. -/
def encB (n : Nat) : Array Value := #[.int .u8 (n : Int)]
theorem encB_size (n : Nat) : (encB n).size = 1 := rfl
theorem encB_one (n : Nat) : ∀ u ∈ (encB n).toList, u.oneCell' = true := by simp [encB, Value.oneCell']
/-- A file as the map has it. -/
def vv (p : FE × Value) : ByteArray × Value := (p.1.nm, .agg #[p.2, .int .i64 (p.1.sure : Int)])
def put2 (L : List (FE × Value)) (p : FE × Value) : List (FE × Value) := if (L.find? fun g => decide (g.1.nm = p.1.nm)).isSome then L.map (fun g => if g.1.nm = p.1.nm then p else g) else L ++ [p]
def del2 (L : List (FE × Value)) (s : ByteArray) : List (FE × Value) := L.filter fun p => !decide (p.1.nm = s)
theorem lk_vv (L : List (FE × Value)) (s : ByteArray) : lk (L.map vv) s = (L.find? fun p => decide (p.1.nm = s)).map fun p => (vv p).2 := by
  unfold lk
  rw [List.find?_map, Option.map_map]
  rfl
theorem get_fst (L : List (FE × Value)) (s : ByteArray) : (L.map (·.1)).find? (fun f => decide (f.nm = s)) = (L.find? fun p => decide (p.1.nm = s)).map (·.1) := by
  rw [List.find?_map]; rfl
theorem pt_vv (L : List (FE × Value)) (p : FE × Value) : pt (L.map vv) p.1.nm (vv p).2 = (put2 L p).map vv := by
  unfold pt put2
  rw [lk_vv]
  cases hf : L.find? (fun g => decide (g.1.nm = p.1.nm)) with
  | none => simp; rfl
  | some g =>
    simp only [Option.map_some, Option.isSome_some, if_true, List.map_map]
    refine List.map_congr_left fun x hx => ?_
    simp only [Function.comp]
    by_cases e : x.1.nm = p.1.nm
    · rw [if_pos (show (vv x).1 = p.1.nm from e), if_pos e]; rfl
    · rw [if_neg (show ¬ (vv x).1 = p.1.nm from e), if_neg e]
theorem put2_fst (L : List (FE × Value)) (p : FE × Value) : (put2 L p).map (·.1) = DS.putL (L.map (·.1)) p.1 := by
  unfold DS.putL put2
  rw [get_fst]
  cases hf : L.find? (fun g => decide (g.1.nm = p.1.nm)) with
  | none => simp
  | some g =>
    simp only [Option.map_some, Option.isSome_some, if_true, List.map_map]
    refine List.map_congr_left fun x hx => ?_
    simp only [Function.comp]
    by_cases e : x.1.nm = p.1.nm
    · rw [if_pos e, if_pos e]
    · rw [if_neg e, if_neg e]
theorem mem_put2 {L : List (FE × Value)} {p x : FE × Value} (h : x ∈ put2 L p) : x ∈ L ∨ x = p := by
  unfold put2 at h
  split at h
  · obtain ⟨y, hy, rfl⟩ := List.mem_map.1 h
    split
    · exact .inr rfl
    · exact .inl hy
  · rcases List.mem_append.1 h with h | h
    · exact .inl h
    · exact .inr (List.mem_singleton.1 h)
theorem dl_vv (L : List (FE × Value)) (s : ByteArray) : dl (L.map vv) s = (del2 L s).map vv := by
  unfold dl del2
  rw [List.filter_map]; rfl
theorem del2_fst (L : List (FE × Value)) (s : ByteArray) : (del2 L s).map (·.1) = DS.del (L.map (·.1)) s := by
  unfold DS.del del2
  rw [List.filter_map]; rfl
/-- Blocks outside S are as they were. -/
structure KpS (S : Nat → Prop) (w w' : World) : Prop where
  os : w'.os = w.os
  tape : w'.tape = w.tape
  output : w'.output = w.output
  size : w.heap.size ≤ w'.heap.size
  block : ∀ k, k < w.heap.size → ¬ S k → w'.heap[k]? = w.heap[k]?
theorem KpS.of {S : Nat → Prop} {w w' : World} (h : Below w.heap.size w w') : KpS S w w' := ⟨h.os, h.tape, h.output, h.size, fun k hk _ => h.block k hk⟩
theorem KpS.trans {S : Nat → Prop} {a b c : World} (h : KpS S a b) (k : KpS S b c) : KpS S a c :=
  ⟨k.os.trans h.os, k.tape.trans h.tape, k.output.trans h.output, Nat.le_trans h.size k.size, fun i hi hn => (k.block i (Nat.lt_of_lt_of_le hi h.size) hn).trans (h.block i hi hn)⟩
theorem KpS.only {S : Nat → Prop} {g : Nat} {w w' : World} (h : Only g w w') (hg : S g) : KpS S w w' := ⟨h.os, h.tape, h.output, Nat.le_of_eq h.size.symm, fun k hk hn => h.block k (fun e => hn (e ▸ hg))⟩
theorem KpS.setRow {S : Nat → Prop} {w w' : World} (h : KpS S w w') (g : Nat) (cs : Array Value) (hg : S g ∨ w.heap.size ≤ g) : KpS S w (w'.setRow g cs) :=
  ⟨h.os, h.tape, h.output, by rw [size_setRow]; exact h.size, fun j hj hne => by
    rw [← h.block j hj hne]
    simp only [World.setRow, Array.getElem?_modify]
    rw [if_neg (fun e => by
      subst e
      rcases hg with q | q
      · exact hne q
      · omega)]⟩
theorem KpS.set {S : Nat → Prop} {w w' : World} (h : KpS S w w') (g k : Nat) (v : Value) (hg : S g ∨ w.heap.size ≤ g) : KpS S w (w'.setCell ⟨g, k, none⟩ v) :=
  ⟨h.os, h.tape, h.output, by simpa [World.setCell] using h.size, fun j hj hne => (Below.heap_setCell w' ⟨g, k, none⟩ v j (fun e => by
    rcases hg with q | q
    · exact hne (by rw [e]; exact q)
    · have : j = g := e
      omega)).trans (h.block j hj hne)⟩
theorem KpS.bel {S : Nat → Prop} {B : Nat} {w w' : World} (h : KpS S w w') (hS : ∀ k, S k → B ≤ k) (hB : B ≤ w.heap.size) : Below B w w' :=
  ⟨h.os, h.tape, h.output, h.size, fun k hk => h.block k (by omega) (fun q => by have := hS k q; omega)⟩
theorem KpS.heap {S : Nat → Prop} {w w' : World} {g : Nat} {o : Obj} (h : KpS S w w') (hg : w.heap[g]? = some o) (hn : ¬ S g) : w'.heap[g]? = some o := (h.block g (Array.getElem?_eq_some_iff.1 hg).1 hn).trans hg
/-- What a disk's call may touch. -/
def TD (D mb : Nat) : Nat → Prop := fun q => q = D ∨ q = mb
/-- A disk in memory. -/
structure DiskI (w : World) (D mb : Nat) (d : DS) : Prop where
  row : w.heap[D]? = some (.cells #[.map (some mb), .int .i64 d.left, .bool d.off] 66 (0, 0))
  ex : ∃ L : List (FE × Value), DM w mb (L.map vv) ∧ L.map (·.1) = d.L ∧ ∀ p ∈ L, Rw 1 encB w p.2 p.1.bs
  fine : ∀ f ∈ d.L, f.sure ≤ f.bs.length ∧ f.bs.length ≤ 1048576
  left1 : -1 ≤ d.left
  left2 : d.left < 9223372036854775808
theorem DiskI.apart {w : World} {D mb : Nat} {d : DS} (h : DiskI w D mb d) {v : Value} {l : List Nat} (hr : Rw 1 encB w v l) (hl : l ≠ []) : ∀ q, v.ownBlock = some q → ¬ TD D mb q := fun q hq hs => by
  obtain ⟨A, c, rfl⟩ := hr.form
  have h0 : 0 < l.length := List.length_pos_iff.2 hl
  obtain ⟨g, o, rfl, _, _, hel⟩ := hr.elem 0 h0
  have hg : g = q := by
    simp [Value.ownBlock] at hq; exact hq
  subst hg
  have hc := hel 0 (.int .u8 ((l.getD 0 default : Nat) : Int)) rfl
  rcases hs with rfl | rfl
  · rw [cell_of_row _ _ _ _ _ _ h.row] at hc
    simp only [Nat.zero_mul, Nat.add_zero] at hc
    match o, hc with
    | 0, hc => simp at hc
    | 1, hc => simp at hc
    | 2, hc => simp at hc
    | o + 3, hc => simp at hc
  · obtain ⟨L, ⟨es, clock, hm⟩, _⟩ := h.ex
    simp [World.cell?, hm.heap] at hc
theorem DiskI.below {w w' : World} {D mb : Nat} {d : DS} (h : DiskI w D mb d) (hb : Below w.heap.size w w') : DiskI w' D mb d := by
  obtain ⟨h1, ⟨L, h2, h3, h4⟩, h5, h6, h7⟩ := h
  exact ⟨heap_kept h1 hb, ⟨L, h2.kept (hb.block mb h2.lt), h3, fun p hp => (h4 p hp).below hb⟩, h5, h6, h7⟩
theorem DiskI.ne {w : World} {D mb : Nat} {d : DS} (h : DiskI w D mb d) : D ≠ mb := fun e => by
  obtain ⟨L, ⟨es, clock, hm⟩, _⟩ := h.ex
  have := h.row
  rw [e, hm.heap] at this
  cases this
theorem rw_kpS {w w' : World} {D mb : Nat} {d : DS} (h : DiskI w D mb d) {v : Value} {l : List Nat} (hr : Rw 1 encB w v l) (hk : KpS (TD D mb) w w') : Rw 1 encB w' v l :=
  hr.kept hk.size (fun hl q hq => hk.block q (hr.lt hl q hq) (h.apart hr hl q hq))
/-- A look into the map. -/
theorem DiskI.look {w : World} {D mb : Nat} {d : DS} (h : DiskI w D mb d) (s : ByteArray) :
    (d.get s = none ∧ ∃ L, DM w mb L ∧ lk L s = none) ∨ ∃ f v, d.get s = some f ∧ f.nm = s ∧ f ∈ d.L ∧ Rw 1 encB w v f.bs ∧ ∃ L, DM w mb L ∧ lk L s = some (.agg #[v, .int .i64 (f.sure : Int)]) := by
  obtain ⟨L, h2, h3, h4⟩ := h.ex
  have hg := get_fst L s
  rw [h3] at hg
  have hl := lk_vv L s
  cases hf : L.find? (fun p => decide (p.1.nm = s)) with
  | none =>
    rw [hf] at hg hl
    exact .inl ⟨hg, _, h2, hl⟩
  | some p =>
    rw [hf] at hg hl
    have hm := List.mem_of_find?_eq_some hf
    have hn := List.find?_some hf
    simp at hn
    exact .inr ⟨p.1, p.2, hg, hn, by rw [← h3]; exact List.mem_map.2 ⟨p, hm, rfl⟩, h4 p hm, _, h2, hl⟩
theorem DiskI.len {w : World} {D mb : Nat} {d : DS} (h : DiskI w D mb d) : ∃ L, DM w mb L ∧ L.length = d.L.length := by
  obtain ⟨L, h2, h3, h4⟩ := h.ex
  exact ⟨_, h2, by rw [List.length_map, ← h3, List.length_map]⟩
section
variable {P : Program}
/-- A store into the map. -/
theorem DiskI.put {w : World} {D mb : Nat} {d : DS} (h : DiskI w D mb d) {t k e : TypeId} (ht : P.underlying t = some (.map k e)) (hk : P.underlying k = some .string) (f : FE) (v : Value) (hv : Rw 1 encB w v f.bs) (hf : f.sure ≤ f.bs.length ∧ f.bs.length ≤ 1048576) :
    ∃ w', (Instr.mapUpdate t (.map (some mb)) (.string f.nm) (.agg #[v, .int .i64 (f.sure : Int)])).run P w = .ok () w' ∧ DiskI w' D mb { d with L := DS.putL d.L f } ∧ KpS (TD D mb) w w' := by
  have hne := h.ne
  have hap : ∀ {v' : Value} {l : List Nat}, Rw 1 encB w v' l → ∀ {w'}, KpS (TD D mb) w w' → Rw 1 encB w' v' l := fun hr _ hk => rw_kpS h hr hk
  obtain ⟨h1, ⟨L, h2, h3, h4⟩, h5, h6, h7⟩ := h
  obtain ⟨w', hr, hd, ho⟩ := run_put h2 ht hk f.nm (.agg #[v, .int .i64 (f.sure : Int)])
  have hK : KpS (TD D mb) w w' := KpS.only ho (.inr rfl)
  rw [show (.agg #[v, .int .i64 (f.sure : Int)] : Value) = (vv (f, v)).2 from rfl, show f.nm = (f, v).1.nm from rfl, pt_vv] at hd
  refine ⟨w', hr, ⟨(ho.block D hne).trans h1, ⟨put2 L (f, v), hd, by rw [put2_fst, h3], fun p hp => ?_⟩, fun g hg => ?_, h6, h7⟩, hK⟩
  · rcases mem_put2 hp with hp | rfl
    · exact hap (h4 p hp) hK
    · exact hap hv hK
  · unfold DS.putL at hg
    dsimp only at hg
    split at hg
    · obtain ⟨y, hy, rfl⟩ := List.mem_map.1 hg
      split
      · exact hf
      · exact h5 y hy
    · rcases List.mem_append.1 hg with hg | hg
      · exact h5 g hg
      · rw [List.mem_singleton.1 hg]; exact hf
/-- A deletion. -/
theorem DiskI.del {w : World} {D mb : Nat} {d : DS} (h : DiskI w D mb d) {t k e : TypeId} (ht : P.underlying t = some (.map k e)) (hk : P.underlying k = some .string) (s : ByteArray) (ty u : TypeId) :
    ∃ w', (Builtin.delete_ #[t, u] ty #[.map (some mb), .string s]).run P w = .ok (.tuple #[]) w' ∧ DiskI w' D mb { d with L := DS.del d.L s } ∧ KpS (TD D mb) w w' := by
  have hne := h.ne
  have hap : ∀ {v' : Value} {l : List Nat}, Rw 1 encB w v' l → ∀ {w'}, KpS (TD D mb) w w' → Rw 1 encB w' v' l := fun hr _ hk => rw_kpS h hr hk
  obtain ⟨h1, ⟨L, h2, h3, h4⟩, h5, h6, h7⟩ := h
  obtain ⟨w', hr, hd, ho⟩ := run_del h2 ht hk s ty u
  have hK : KpS (TD D mb) w w' := KpS.only ho (.inr rfl)
  rw [dl_vv] at hd
  refine ⟨w', hr, ⟨(ho.block D hne).trans h1, ⟨del2 L s, hd, by rw [del2_fst, h3], fun p hp => hap (h4 p (List.mem_filter.1 hp).1) hK⟩, fun g hg => h5 g (List.mem_filter.1 hg).1, h6, h7⟩, hK⟩
end
/-- The struct's row written anew. -/
theorem DiskI.row2 {w : World} {D mb : Nat} {d : DS} (h : DiskI w D mb d) (left : Int) (off : Bool) (hl1 : -1 ≤ left) (hl2 : left < 9223372036854775808) : DiskI (w.setRow D #[.map (some mb), .int .i64 left, .bool off]) D mb ⟨d.L, left, off⟩ := by
  have hK : KpS (TD D mb) w (w.setRow D #[.map (some mb), .int .i64 left, .bool off]) := KpS.setRow (KpS.of (Below.refl _ _)) _ _ (.inl (.inl rfl))
  have hap : ∀ {v' : Value} {l : List Nat}, Rw 1 encB w v' l → Rw 1 encB (w.setRow D #[.map (some mb), .int .i64 left, .bool off]) v' l := fun hr => rw_kpS h hr hK
  have hne := h.ne
  obtain ⟨h1, ⟨L, h2, h3, h4⟩, h5, h6, h7⟩ := h
  exact ⟨setRow_heap _ _ _ _ _ _ h1, ⟨L, h2.kept (by simp only [World.setRow, Array.getElem?_modify]; rw [if_neg hne]), h3, fun p hp => hap (h4 p hp)⟩, h5, hl1, hl2⟩
end Go.Proofs.Ytdkaaieenbmihaa
namespace Go.Proofs.Ytdkaaieenbmihaa
open Go.RowKit
theorem exec_geq {o : Oper} {a : Act} {w : World} (t : TypeId) (x y : Operand) (ho : o.op = .binOp .geq t x y t) (u v : Int) (hx : a.eval x = .int .i64 u) (hy : a.eval y = .int .i64 v) (b : Bool) (hb : decide (v ≤ u) = b) : (execOp a.eval o).run Try.prog w = .ok (.value (.bool b)) w := by
  subst hb; unfold execOp
  simp [ho, hx, hy, eqGuard, binOp_geq]
theorem exec_leq {o : Oper} {a : Act} {w : World} (t : TypeId) (x y : Operand) (ho : o.op = .binOp .leq t x y t) (u v : Int) (hx : a.eval x = .int .i64 u) (hy : a.eval y = .int .i64 v) (b : Bool) (hb : decide (u ≤ v) = b) : (execOp a.eval o).run Try.prog w = .ok (.value (.bool b)) w := by
  subst hb; unfold execOp
  simp [ho, hx, hy, eqGuard, binOp_leq]
theorem exec_lss {o : Oper} {a : Act} {w : World} (t : TypeId) (x y : Operand) (ho : o.op = .binOp .lss t x y t) (u v : Int) (hx : a.eval x = .int .i64 u) (hy : a.eval y = .int .i64 v) (b : Bool) (hb : decide (u < v) = b) : (execOp a.eval o).run Try.prog w = .ok (.value (.bool b)) w := by
  subst hb; unfold execOp
  simp [ho, hx, hy, eqGuard, binOp_lss]
theorem exec_gtr {o : Oper} {a : Act} {w : World} (t : TypeId) (x y : Operand) (ho : o.op = .binOp .gtr t x y t) (u v : Int) (hx : a.eval x = .int .i64 u) (hy : a.eval y = .int .i64 v) (b : Bool) (hb : decide (v < u) = b) : (execOp a.eval o).run Try.prog w = .ok (.value (.bool b)) w := by
  subst hb; unfold execOp
  simp [ho, hx, hy, eqGuard, binOp_gtr]
theorem exec_eqI {o : Oper} {a : Act} {w : World} (t : TypeId) (x y : Operand) (ho : o.op = .binOp .eql t x y t) (u v : Int) (hx : a.eval x = .int .i64 u) (hy : a.eval y = .int .i64 v) (b : Bool) (hb : (u == v) = b) : (execOp a.eval o).run Try.prog w = .ok (.value (.bool b)) w := by
  subst hb; unfold execOp
  simp [ho, hx, hy, eqGuard, binOp_eql]
theorem exec_neI {o : Oper} {a : Act} {w : World} (t : TypeId) (x y : Operand) (ho : o.op = .binOp .neq t x y t) (u v : Int) (hx : a.eval x = .int .i64 u) (hy : a.eval y = .int .i64 v) (b : Bool) (hb : (u != v) = b) : (execOp a.eval o).run Try.prog w = .ok (.value (.bool b)) w := by
  subst hb; unfold execOp
  simp [ho, hx, hy, eqGuard, binOp_neq]
theorem exec_add2 {o : Oper} {a : Act} (x y : Operand) (ho : o.op = .binOp .add 3 x y 3) (u v : Int) (hx : a.eval x = .int .i64 u) (hy : a.eval y = .int .i64 v) (h0 : 0 ≤ u + v) (h1 : u + v ≤ 9223372036854775807) (w : World) : (execOp a.eval o).run Try.prog w = .ok (.value (.int .i64 (u + v))) w := by
  unfold execOp
  have hw : IntKind.i64.wrap (u + v) = u + v := by rw [IntKind.wrap_i64]; omega
  simp [ho, hx, hy, eqGuard, binOp_add, Op.intArith, hw]
theorem exec_clip {ty : TypeId} {k : Nat} {o : Oper} {a : Act} (hu : Try.prog.underlying ty = some (.slice (Try.prog.elem ty))) (hsz : ∀ w, (sizeOf (Try.prog.elem ty)).run Try.prog w = .ok k w) (x hi mx : Operand) (ho : o.op = .slice ty x none (some hi) (some mx)) (A : Option Addr) (n c : Nat) (hx : a.eval x = .slice A n c)
    (hh : a.eval hi = .int .i64 (n : Int)) (hm : a.eval mx = .int .i64 (n : Int)) (hc : n ≤ c) (w : World) : (execOp a.eval o).run Try.prog w = .ok (.value (.slice (if n = 0 then A else A.map (·.add 0)) n n)) w := by
  unfold execOp
  simp only [ho, Option.map_some, Option.map_none, hx, hh, hm, Sem.run_bind, run_sliceAt_slice w ty _ _ _ _ hu, run_slice_hm w ty _ n c hu .i64 .i64 (n : Int) (n : Int) (by omega) (by omega) (by omega), hsz, Result.andThen_ok, Sem.run_pure, sliced, Int.toNat_natCast, Nat.zero_mul, Nat.sub_zero]
theorem clip_rw {α : Type} [Inhabited α] {k : Nat} {enc : α → Array Value} {w : World} {l : List α} {A : Option Addr} {n c : Nat} (hn : n = l.length) (hy : Rw k enc w (.slice A n c) l) : n ≤ c ∧ Rw k enc w (.slice (if n = 0 then A else A.map (·.add 0)) n n) l := by
  rcases hy with ⟨A', c', h, rfl, h2⟩ | ⟨g, o, c', h, h2, h3, h4⟩
  · injection h with h5 h6 h7
    subst h5 h6
    exact ⟨Nat.zero_le _, .inl ⟨_, 0, rfl, rfl, fun _ => rfl⟩⟩
  · injection h with h5 h6 h7
    subst h5 h7
    refine ⟨by omega, .inr ⟨g, o, n, ?_, by omega, h3, h4⟩⟩
    rw [hn]
    split
    · rfl
    · rw [Option.map_some, Addr.add_mid, Nat.add_zero]
section
variable {o : Oper} {a : Act} {w : World}
theorem exec_store_cell (ty : TypeId) (x y : Operand) (ho : o.op = .store ty x y) (b k : Nat) (hx : a.eval x = .pointer (some ⟨b, k, none⟩)) (v : Value) (hy : a.eval y = v) (u : Value) (hu : w.cell? ⟨b, k, none⟩ = some u) (hf : w.frozen? ⟨b, k, none⟩ = false)
    (hs : ∀ w, (sizeOf ty).run Try.prog w = .ok 1 w) (hv : v.cells = #[v]) (h1 : v.oneCell' = true) : (execOp a.eval o).run Try.prog w = .ok .skip (w.setCell ⟨b, k, none⟩ v) := by
  unfold execOp
  simp only [ho, hx, hy, Instr.storeAt, Instr.sureAddr, Sem.run_bind, Sem.run_pure, Result.andThen_ok, storeVar, hs, hv]
  simp only [storeCells, List.size_toArray, List.length_cons, List.length_nil, Nat.zero_add, ne_eq, not_true_eq_false, if_false, Sem.run_bind, Sem.run_pure, Sem.run_ite, run_store _ _ _ _ _ h1, Addr.add_mid, Nat.add_zero, hu, hf, Bool.false_eq_true, Result.andThen_ok]
end
section
variable {P : Program} {ops : Array Oper} {rest : List Oper} {o : Oper} {a : Act} {w : World} {Q : Exit → Act → World → Prop}
theorem sl_skipped (hw : Region.wanted o (yielded ops a.tmps) = true) (w' : World) (he : (execOp a.eval o).run P w = .ok .skip w')
    (k : wpList P ops Q rest (a.put o.dst undef) w') : wpList P ops Q (o :: rest) a w := by
  rw [wpList, if_pos hw]
  unfold Oper.wp
  rw [he]
  exact .inl k
end
section
variable {P : Program} {ops : Array Oper} {Q : Exit → Act → World → Prop} {md : Region.Mode} {S : World → Prop} {fuel : Nat} {listed : Array Bool} {a : Act} {w : World}
theorem held_got (i : Nat) {oi : Oper} (hi : ops[i]? = some oi) (hr : Region.ready md ops listed = [i]) (hw : Region.wanted oi (yielded ops a.tmps) = true) {R : Value → World → Prop}
    (he : ∃ v w', (execOp a.eval oi).run P w = .ok (.value v) w' ∧ R v w') (h : ∀ v w', R v w' → S w' ∧ wpAnyH P md ops Q S fuel (listed.setIfInBounds i true) (a.put oi.dst v) w') : wpAnyH P md ops Q S (fuel + 1) listed a w := by
  obtain ⟨v, w', he, hR⟩ := he
  exact held_run i hi hr hw v w' he (h v w' hR).1 (h v w' hR).2
end
section
variable {P : Program} {ops : Array Oper} {Q : Exit → Act → World → Prop} {md : Region.Mode} {S : World → Prop}
theorem held_skip {fuel : Nat} {listed : Array Bool} {a : Act} {w : World} (i : Nat) {oi : Oper} (hi : ops[i]? = some oi) (hs : Region.noSelect ops = true) (hf : Region.free md ops listed i = true) (hr : (Region.ready md ops listed).contains i = true)
    (hQ : ∀ c a w, Q (.panic c) (a.put oi.dst undef) w → Q (.panic c) a w) (hw : Region.wanted oi (yielded ops a.tmps) = false) (hS : S w)
    (h : wpAnyH P md ops Q S fuel (listed.setIfInBounds i true) (a.put oi.dst undef) w) : wpAnyH P md ops Q S (fuel + 1) listed a w :=
  wpAnyH_take hi hs hf hr hQ (.inr ⟨hw, rfl⟩) hS h
theorem wp_normalG {c : Code} {a : Act} {w : World} (h : c.wp P (fun ex a' w' => ex = .normal ∧ Q .normal a' w') a w) : c.wp P Q a w := by
  refine wp_mono h ?_
  rintro e a' w' ⟨rfl, hk⟩
  exact hk
end
theorem held_did {P : Program} {ops : Array Oper} {Q : Exit → Act → World → Prop} {md : Region.Mode} {S : World → Prop} {fuel : Nat} {listed : Array Bool} {a : Act} {w : World} (i : Nat) {oi : Oper} (hi : ops[i]? = some oi) (hr : Region.ready md ops listed = [i]) (hw : Region.wanted oi (yielded ops a.tmps) = true) (w' : World)
    (he : (execOp a.eval oi).run P w = .ok .skip w') (hS : S w') (h : wpAnyH P md ops Q S fuel (listed.setIfInBounds i true) (a.put oi.dst undef) w') : wpAnyH P md ops Q S (fuel + 1) listed a w :=
  held_one i hi hr hw fun K hK => by
    unfold Oper.wp; rw [he]; exact hK _ _ hS h
theorem results_cell_tmp {P : Program} {fn : Func} {p q : Tmp} {ty : TypeId} (h : fn.results = #[.cell p ty, .tmp q]) (tmps : Array Value) (w : World) (g : Nat) (t : TypeId) (cs : Array Value) (fr : Nat × Nat) (d : TypeDesc) (u : Value)
    (hp : tmps.getD p undef = .pointer (some ⟨g, 0, none⟩)) (hq : tmps.getD q undef = u) (hg : w.heap[g]? = some (.cells cs t fr))
    (hu : P.underlying ty = some d) (hd : (match d with | .struct _ | .array _ _ => true | _ => false) = true) (hi : (P.info? ty).map (·.size) = some cs.size) :
    (results fn tmps).run P w = .ok (.tuple #[.agg cs, u]) w := by
  have hp' : tmps[p]?.getD undef = .pointer (some ⟨g, 0, none⟩) := by simpa using hp
  have hq' : tmps[q]?.getD undef = u := by simpa using hq
  simp [results, h, hp', hq', asAddr, run_loadVar_row w g t ty cs fr d hg hu hd hi]
theorem un30 : Try.prog.underlying 22 = some (.slice (Try.prog.elem 22)) := by kernel_rfl
theorem un30' : Try.prog.underlying 22 = some (.slice 5) := by kernel_rfl
theorem sz30 (w : World) : (sizeOf (Try.prog.elem 22)).run Try.prog w = .ok 1 w := by kernel_rfl
theorem inf5 : (Try.prog.info? 5).map (fun i => (i.zero, i.size, i.bytes)) = some (some (.int .u8 0), 1, 1) := by kernel_rfl
theorem un61 : Try.prog.underlying 64 = some (.map 9 77) := by kernel_rfl
theorem un9 : Try.prog.underlying 9 = some .string := by kernel_rfl
theorem zero65 (w : World) : (zeroValue 77).run Try.prog w = .ok (.agg #[.slice none 0 0, .int .i64 0]) w := by kernel_rfl
theorem clip_calls (l : List Nat) (v : Value) (w : World) (hn9 : l.length ≤ 1000000000) (hy : Rw 1 encB w v l) :
    Calls Try.prog 26 #[v] w fun e w' => ∃ v, e = .returned v ∧ Rw 1 encB w' v l ∧ Below w.heap.size w w' := by
  obtain ⟨A, c, rfl⟩ := hy.form
  obtain ⟨n, hn⟩ : ∃ n, n = l.length := ⟨_, rfl⟩
  rw [← hn] at hy ⊢
  obtain ⟨hc, hy2⟩ := clip_rw hn hy
  go_enter Try.func26, Try.ntmps26
  go_upto_region 1 with fail
  refine wp_region_lit ?_
  refine sl_run rfl (.slice A n c) w (by kernel_rfl) ?_
  simp only [Act.put, fl1, fl2, fl3]
  refine sl_run rfl (.slice A n c) w (by kernel_rfl) ?_
  simp only [Act.put, fl1, fl2, fl3]
  refine sl_run rfl (.int .i64 n) w (by kernel_rfl) ?_
  simp only [Act.put, fl1, fl2, fl3]
  refine sl_run rfl (.slice A n c) w (by kernel_rfl) ?_
  simp only [Act.put, fl1, fl2, fl3]
  refine sl_run rfl (.int .i64 n) w (by kernel_rfl) ?_
  simp only [Act.put, fl1, fl2, fl3]
  refine sl_run rfl _ w (exec_clip un30 sz30 _ _ _ rfl A n c (by kernel_rfl) (by kernel_rfl) (by kernel_rfl) hc w) ?_
  generalize (if n = 0 then A else A.map (·.add 0)) = A2 at hy2 ⊢
  simp only [Act.put, fl1, fl2, fl3]
  refine sl_run rfl (.slice A2 n n) w (by kernel_rfl) ?_
  simp only [Act.put, fl1, fl2, fl3]
  refine wpList_nil ?_
  go_wp2_with fail
  go_ret
  exact ⟨_, rfl, hy2, Below.refl _ _⟩
theorem clone_calls (l : List Nat) (A : Option Addr) (n c : Nat) (w : World) (hn : n = l.length) (hn9 : n ≤ 1000000000) (hy : Rw 1 encB w (.slice A n c) l) :
    Calls Try.prog 31 #[.slice A n c] w fun e w' => ∃ v, e = .returned v ∧ w'.ownsRow w.heap.size 5 1 v l.length (flat encB l) ∧ Below w.heap.size w w' := by
  obtain ⟨i5, hi5, hz0, hz1, hz2⟩ := info_parts inf5
  cases A with
  | none =>
    have hl : l = [] ∧ n = 0 ∧ c = 0 := by
      rcases hy with ⟨A, c', h, h2, h3⟩ | ⟨g, o, c', h, _⟩
      · injection h with h4 h5 h6
        exact ⟨h2, h5, by rw [h6]; exact h3 h4.symm⟩
      · simp at h
    obtain ⟨rfl, rfl, rfl⟩ := hl
    have hq : ∀ w, (binOp .eql 22 (.slice none 0 0) (.slice none 0 0)).run Try.prog w = .ok (.bool true) w := fun w => by kernel_rfl
    clear hy hn hn9
    go_enter Try.func31, Try.ntmps31
    go_wp2_with fail
    go_ret
    exact ⟨_, rfl, World.ownsRow_nil _ _ _ _, Below.refl _ _⟩
  | some ad =>
    have hq : ∀ w, (binOp .eql 22 (.slice (some ad) n c) (.slice none 0 0)).run Try.prog w = .ok (.bool false) w := fun w => by kernel_rfl
    have hn' : Hid (n = l.length) := hn
    clear hn
    go_enter Try.func31, Try.ntmps31
    go_upto_region 3 with fail
    refine wp_region_lit ?_
    refine sl_run rfl (.slice (some ⟨w.heap.size, 0, none⟩) 0 0) (w.alloc (.cells #[] 5)) (by kernel_rfl) ?_
    simp only [Act.put, fl1, fl2, fl3]
    refine sl_run rfl (.slice (some ad) n c) (w.alloc (.cells #[] 5)) (by kernel_rfl) ?_
    simp only [Act.put, fl1, fl2, fl3]
    have hown0 : (w.alloc (.cells #[] 5)).ownsRow w.heap.size 5 1 (.slice (some ⟨w.heap.size, 0, none⟩) 0 0) ([] : List Nat).length (flat encB []) := World.ownsRow_made _ _ 0 (Nat.le_refl _) (by decide) rfl
    have hB0 : Below w.heap.size w (w.alloc (.cells #[] 5)) := (Below.refl _ _).alloc (Nat.le_refl _) _
    refine appendRw 22 5 1 i5 (.int .u8 0) Try.underlying22 hi5 hz0 hz1 hz2 rfl (by decide) encB_size encB_one rfl _ _ rfl w.heap.size _ [] l (by kernel_rfl) hown0 _ (by kernel_rfl) (hy.below hB0) (by have := hn'.out; simp; omega) (by have := hn'.out; simp; omega) hB0.size ?_
    intro v5 w5 hown5 hgr5
    simp only [Act.put, fl1, fl2, fl3]
    refine sl_run rfl v5 w5 (by kernel_rfl) ?_
    simp only [Act.put, fl1, fl2, fl3]
    refine wpList_nil ?_
    have hB5 : Below w.heap.size w w5 := Below.grown hB0 hgr5 hB0.size (fun q hq => (hown0.lt q hq).1)
    rw [List.nil_append] at hown5
    go_wp2_with fail
    go_ret
    exact ⟨_, rfl, hown5, hB5⟩
end Go.Proofs.Ytdkaaieenbmihaa
namespace Go.Proofs.Ytdkaaieenbmihaa
open Go.RowKit
theorem DiskI.c0 {w : World} {D mb : Nat} {d : DS} (h : DiskI w D mb d) : w.cell? ⟨D, 0, none⟩ = some (.map (some mb)) := by rw [cell_of_row _ _ _ _ _ _ h.row]; rfl
theorem DiskI.c1 {w : World} {D mb : Nat} {d : DS} (h : DiskI w D mb d) : w.cell? ⟨D, 1, none⟩ = some (.int .i64 d.left) := by rw [cell_of_row _ _ _ _ _ _ h.row]; rfl
theorem DiskI.c2 {w : World} {D mb : Nat} {d : DS} (h : DiskI w D mb d) : w.cell? ⟨D, 2, none⟩ = some (.bool d.off) := by rw [cell_of_row _ _ _ _ _ _ h.row]; rfl
theorem DiskI.fr {w : World} {D mb : Nat} {d : DS} (h : DiskI w D mb d) (j : Nat) : w.frozen? ⟨D, j, none⟩ = false := frozen_of_row _ _ _ _ _ h.row
theorem DiskI.set1 {w : World} {D mb : Nat} {d : DS} (h : DiskI w D mb d) (l : Int) (h1 : -1 ≤ l) (h2 : l < 9223372036854775808) : DiskI (w.setCell ⟨D, 1, none⟩ (.int .i64 l)) D mb ⟨d.L, l, d.off⟩ := by
  rw [setCell_eq_setRow w D 1 _ _ (0, 0) _ h.row]
  exact h.row2 l d.off h1 h2
theorem DiskI.set2 {w : World} {D mb : Nat} {d : DS} (h : DiskI w D mb d) (b : Bool) : DiskI (w.setCell ⟨D, 2, none⟩ (.bool b)) D mb ⟨d.L, d.left, b⟩ := by
  rw [setCell_eq_setRow w D 2 _ _ (0, 0) _ h.row]
  exact h.row2 d.left b h.left1 h.left2
theorem kpD (w : World) (D mb j : Nat) (v : Value) : KpS (TD D mb) w (w.setCell ⟨D, j, none⟩ v) := KpS.set (KpS.of (Below.refl _ _)) _ _ _ (.inl (.inl rfl))
theorem On_nil (w : World) : Calls Try.prog 47 #[.pointer none] w fun e w' => e = .returned (.bool false) ∧ w = w' := by
  go_enter Try.func47, Try.ntmps47
  go_wp2
  go_ret
  exact ⟨rfl, rfl⟩
theorem On_calls {w : World} {D mb : Nat} {d : DS} (h : DiskI w D mb d) : Calls Try.prog 47 #[.pointer (some ⟨D, 0, none⟩)] w fun e w' => e = .returned (.bool (!d.off)) ∧ w = w' := by
  have c2 := h.c2
  obtain ⟨b, hb⟩ : ∃ b, b = d.off := ⟨_, rfl⟩
  rw [← hb] at c2 ⊢
  clear h hb
  go_enter Try.func47, Try.ntmps47
  go_wp2
  go_ret
  exact ⟨rfl, rfl⟩
theorem exec_maxI {o : Oper} {a : Act} (x y : Operand) (ty : TypeId) (ho : o.op = .call { callee := .builtin .max, args := #[x, y], argTypes := #[3, 3] }) (u v : Int) (hx : a.eval x = .int .i64 u) (hy : a.eval y = .int .i64 v) (w : World) : (execOp a.eval o).run Try.prog w = .ok (.value (.int .i64 (max u v))) w := by
  unfold execOp
  simp [ho, hx, hy, resolve, invoke, builtin, Builtin.max_, Builtin.max2, Result.andThen]
  try omega
theorem New_calls (w : World) : Calls Try.prog 15 #[] w fun e w' => ∃ D mb, e = .returned (.pointer (some ⟨D, 0, none⟩)) ∧ DiskI w' D mb DS.new ∧ Below w.heap.size w w' ∧ w.heap.size ≤ D ∧ w.heap.size ≤ mb := by
  go_enter Try.func15, Try.ntmps15
  go_upto_region 1 with fail
  refine wp_region_lit ?_
  refine sg_run (by kernel_rfl) (.map (some w.heap.size)) (w.alloc (.map #[] 0)) (by kernel_rfl) ?_
  simp only [Act.put, fl1, fl2, fl3]
  refine sg_run (by kernel_rfl) (.agg #[.map (some w.heap.size), .int .i64 (-1), .bool false]) (w.alloc (.map #[] 0)) (by kernel_rfl) ?_
  simp only [Act.put, fl1, fl2, fl3]
  refine sg_run (by kernel_rfl) (.pointer (some ⟨(w.alloc (.map #[] 0)).heap.size, 0, none⟩)) ((w.alloc (.map #[] 0)).alloc (.cells #[.map (some w.heap.size), .int .i64 (-1), .bool false] 66)) (by kernel_rfl) ?_
  simp only [Act.put, fl1, fl2, fl3]
  have h1 := DM.made w
  have hb1 : Below w.heap.size w (w.alloc (.map #[] 0)) := (Below.refl _ _).alloc (Nat.le_refl _) _
  generalize (w.alloc (.map #[] 0)) = w1 at h1 hb1 ⊢
  have h2 : DM (w1.alloc (.cells #[.map (some w.heap.size), .int .i64 (-1), .bool false] 66)) w.heap.size [] := h1.kept ((MapKept.heap_alloc w1 _).2 _ h1.lt)
  have h3 : (w1.alloc (.cells #[.map (some w.heap.size), .int .i64 (-1), .bool false] 66)).heap[w1.heap.size]? = some (.cells #[.map (some w.heap.size), .int .i64 (-1), .bool false] 66 (0, 0)) := heap_alloc_new _ _
  have hb2 : Below w.heap.size w (w1.alloc (.cells #[.map (some w.heap.size), .int .i64 (-1), .bool false] 66)) := hb1.alloc hb1.size _
  have hs := hb1.size
  generalize (w1.alloc (.cells #[.map (some w.heap.size), .int .i64 (-1), .bool false] 66)) = w2 at h2 h3 hb2 ⊢
  generalize w1.heap.size = D at h3 hs ⊢
  have hmb : w.heap.size ≤ w.heap.size := Nat.le_refl _
  obtain ⟨mb, hm⟩ : ∃ mb, mb = w.heap.size := ⟨_, rfl⟩
  have hD : DiskI w2 D w.heap.size DS.new := ⟨h3, ⟨[], h2, rfl, fun p hp => (by cases hp)⟩, fun f hf => (by cases hf), by decide, by decide⟩
  have hF : Hid (DiskI w2 D w.heap.size DS.new ∧ Below w.heap.size w w2 ∧ w.heap.size ≤ D ∧ w.heap.size ≤ w.heap.size) := And.intro hD (And.intro hb2 (And.intro hs (Nat.le_refl _)))
  clear h1 hb1 h2 h3 hb2 hs hmb hD
  refine sl_run rfl (.pointer (some ⟨D, 0, none⟩)) w2 (by kernel_rfl) ?_
  simp only [Act.put, fl1, fl2, fl3]
  refine wpList_nil ?_
  go_wp2_with fail
  go_ret
  exact ⟨D, _, rfl, hF.out⟩
end Go.Proofs.Ytdkaaieenbmihaa
namespace Go.Proofs.Ytdkaaieenbmihaa
open Go.RowKit
theorem exec_minI {o : Oper} {a : Act} (x y : Operand) (ho : o.op = .call { callee := .builtin .min, args := #[x, y], argTypes := #[3, 3] }) (u v : Int) (hx : a.eval x = .int .i64 u) (hy : a.eval y = .int .i64 v) (w : World) : (execOp a.eval o).run Try.prog w = .ok (.value (.int .i64 (min u v))) w := by
  unfold execOp
  simp [ho, hx, hy, resolve, invoke, builtin, Builtin.min_, Builtin.min2, Result.andThen]
  try omega
theorem exec_subI {o : Oper} {a : Act} (x y : Operand) (ho : o.op = .binOp .sub 3 x y 3) (u v : Int) (hx : a.eval x = .int .i64 u) (hy : a.eval y = .int .i64 v) (h0 : -9223372036854775808 ≤ u - v) (h1 : u - v ≤ 9223372036854775807) (w : World) : (execOp a.eval o).run Try.prog w = .ok (.value (.int .i64 (u - v))) w := by
  unfold execOp
  have hw : IntKind.i64.wrap (u - v) = u - v := by rw [IntKind.wrap_i64]; omega
  simp [ho, hx, hy, eqGuard, binOp_sub, Op.intArith, hw]
set_option maxRecDepth 100000 in
theorem use_calls {w : World} {D mb : Nat} {d : DS} (h : DiskI w D mb d) (n : Nat) (hn : n ≤ 1000000000) : Calls Try.prog 56 #[.pointer (some ⟨D, 0, none⟩), .int .i64 (n : Int)] w fun e w' => e = .returned (.tuple #[.int .i64 (d.useN n : Int), .bool (d.useOk n)]) ∧ DiskI w' D mb (d.used n) ∧ KpS (TD D mb) w w' := by
  have c1 := h.c1
  have hDw : Hid (DiskI w D mb d) := h
  obtain ⟨N2, hN⟩ : ∃ N2, N2 = d.useN n := ⟨_, rfl⟩
  obtain ⟨B2, hB⟩ : ∃ B2, B2 = d.useOk n := ⟨_, rfl⟩
  obtain ⟨d2, hd⟩ : ∃ d2, d2 = d.used n := ⟨_, rfl⟩
  rw [← hN, ← hB, ← hd]
  by_cases hl : d.left < 0
  case pos =>
    obtain rfl : N2 = n := by rw [hN]; unfold DS.useN; rw [if_pos hl]
    obtain rfl : B2 = true := by rw [hB]; unfold DS.useOk; exact decide_eq_true (.inl hl)
    obtain rfl : d2 = d := by rw [hd]; unfold DS.used; rw [if_pos hl]
    clear hN hB hd h
    go_enter Try.func56, Try.ntmps56
    go_wp2_with fail
    go_ret2
    exact ⟨rfl, hDw.out, KpS.of (Below.refl _ _)⟩
  case neg =>
  obtain ⟨lf, hlf⟩ : ∃ lf : Nat, d.left = (lf : Int) := ⟨d.left.toNat, by omega⟩
  have hlt : lf < 9223372036854775808 := by have := h.left2; omega
  have e1 : d.left.toNat = lf := by omega
  obtain ⟨got, hgot⟩ : ∃ g, g = min n lf := ⟨_, rfl⟩
  have hN' : N2 = got := by rw [hN]; unfold DS.useN; rw [if_neg hl, e1, hgot]
  subst hN'
  obtain ⟨b, hb⟩ : ∃ b : Bool, b = decide (N2 < n) := ⟨_, rfl⟩
  have hBb : B2 = !b := by
    rw [hB, hb]; unfold DS.useOk
    rw [e1, Bool.eq_iff_iff]; simp; omega
  subst hBb
  have hd2 : d2 = ⟨d.L, (lf : Int) - (N2 : Int), b⟩ := by
    rw [hd]; unfold DS.used
    rw [if_neg hl, e1, hlf, ← hgot]
    have e2 : decide (lf < n) = b := by rw [hb, Bool.eq_iff_iff]; simp; omega
    rw [e2]
  have hdH : Hid (d2 = ⟨d.L, (lf : Int) - (N2 : Int), b⟩) := hd2
  have hgH : Hid (N2 = min n lf) := hgot
  have hbH : Hid (b = decide (N2 < n)) := hb
  have hI : ¬ (lf : Int) < 0 := by omega
  rw [hlf] at c1
  have hc1 : Hid (w.cell? ⟨D, 1, none⟩ = some (.int .i64 (lf : Int))) := c1
  clear hN hB hd h hl hd2 hgot hb c1
  go_enter Try.func56, Try.ntmps56
  have c1 := hc1.out
  go_upto_region 3 with fail
  clear c1
  refine wp_region_lit ?_
  refine sl_run rfl (.int .i64 (n : Int)) w (by kernel_rfl) ?_
  simp only [Act.put, fl1, fl2, fl3]
  refine sl_run rfl (.pointer (some ⟨D, 0, none⟩)) w (by kernel_rfl) ?_
  simp only [Act.put, fl1, fl2, fl3]
  refine sl_run rfl (.pointer (some ⟨D, 0, none⟩)) w (by kernel_rfl) ?_
  simp only [Act.put, fl1, fl2, fl3]
  refine sl_run rfl (.pointer (some ⟨D, 1, none⟩)) w (by kernel_rfl) ?_
  simp only [Act.put, fl1, fl2, fl3]
  refine sl_run rfl (.int .i64 (lf : Int)) w (exec_load_cell 3 w _ rfl ⟨D, 1, none⟩ (by kernel_rfl) _ hc1.out (fun _ => by kernel_rfl)) ?_
  simp only [Act.put, fl1, fl2, fl3]
  refine sl_run rfl (.int .i64 (N2 : Int)) w ((exec_minI _ _ rfl (n : Int) (lf : Int) (by kernel_rfl) (by kernel_rfl) w).trans (by rw [show min (n : Int) (lf : Int) = (N2 : Int) by have := hgH.out; omega])) ?_
  simp only [Act.put, fl1, fl2, fl3]
  refine sl_run rfl (.int .i64 (N2 : Int)) w (by kernel_rfl) ?_
  simp only [Act.put, fl1, fl2, fl3]
  refine wpList_nil ?_
  have hNl : N2 ≤ lf := by have := hgH.out; omega
  go_upto_region 4 with fail
  refine wp_region_lit ?_
  refine sl_run rfl (.pointer (some ⟨D, 0, none⟩)) w (by kernel_rfl) ?_
  simp only [Act.put, fl1, fl2, fl3]
  refine sl_run rfl (.pointer (some ⟨D, 0, none⟩)) w (by kernel_rfl) ?_
  simp only [Act.put, fl1, fl2, fl3]
  refine sl_run rfl (.pointer (some ⟨D, 1, none⟩)) w (by kernel_rfl) ?_
  simp only [Act.put, fl1, fl2, fl3]
  refine sl_run rfl (.int .i64 (lf : Int)) w (exec_load_cell 3 w _ rfl ⟨D, 1, none⟩ (by kernel_rfl) _ hc1.out (fun _ => by kernel_rfl)) ?_
  simp only [Act.put, fl1, fl2, fl3]
  refine sl_run rfl (.int .i64 (N2 : Int)) w (by kernel_rfl) ?_
  simp only [Act.put, fl1, fl2, fl3]
  refine sl_run rfl (.int .i64 ((lf : Int) - (N2 : Int))) w (exec_subI _ _ rfl (lf : Int) (N2 : Int) (by kernel_rfl) (by kernel_rfl) (by omega) (by omega) w) ?_
  simp only [Act.put, fl1, fl2, fl3]
  refine sl_run rfl (.pointer (some ⟨D, 0, none⟩)) w (by kernel_rfl) ?_
  simp only [Act.put, fl1, fl2, fl3]
  refine sl_run rfl (.pointer (some ⟨D, 1, none⟩)) w (by kernel_rfl) ?_
  simp only [Act.put, fl1, fl2, fl3]
  refine sl_skipped (by kernel_rfl) (w.setCell ⟨D, 1, none⟩ (.int .i64 ((lf : Int) - (N2 : Int)))) ?he ?_
  case he => exact exec_store_cell 3 _ _ rfl D 1 (by kernel_rfl) (.int .i64 ((lf : Int) - (N2 : Int))) (by kernel_rfl) _ hDw.out.c1 (hDw.out.fr 1) (fun w => by kernel_rfl) rfl rfl
  simp only [Act.put, fl1, fl2, fl3]
  have hDw2 : Hid (DiskI (w.setCell ⟨D, 1, none⟩ (.int .i64 ((lf : Int) - (N2 : Int)))) D mb ⟨d.L, (lf : Int) - (N2 : Int), d.off⟩) := hDw.out.set1 _ (by omega) (by omega)
  have hkw2 : Hid (KpS (TD D mb) w (w.setCell ⟨D, 1, none⟩ (.int .i64 ((lf : Int) - (N2 : Int))))) := kpD _ _ _ _ _
  generalize (w.setCell ⟨D, 1, none⟩ (.int .i64 ((lf : Int) - (N2 : Int)))) = w2 at hDw2 hkw2 ⊢
  clear hDw
  refine wpList_nil ?_
  go_upto_region 5 with fail
  refine wp_region_lit ?_
  refine sl_run rfl (.pointer (some ⟨D, 0, none⟩)) w2 (by kernel_rfl) ?_
  simp only [Act.put, fl1, fl2, fl3]
  refine sl_run rfl (.int .i64 (N2 : Int)) w2 (by kernel_rfl) ?_
  simp only [Act.put, fl1, fl2, fl3]
  refine sl_run rfl (.int .i64 (n : Int)) w2 (by kernel_rfl) ?_
  simp only [Act.put, fl1, fl2, fl3]
  refine sl_run rfl (.bool b) w2 (exec_lss 3 _ _ rfl (N2 : Int) (n : Int) (by kernel_rfl) (by kernel_rfl) b (by rw [hbH.out, Bool.eq_iff_iff]; simp)) ?_
  simp only [Act.put, fl1, fl2, fl3]
  refine sl_run rfl (.pointer (some ⟨D, 0, none⟩)) w2 (by kernel_rfl) ?_
  simp only [Act.put, fl1, fl2, fl3]
  refine sl_run rfl (.pointer (some ⟨D, 2, none⟩)) w2 (by kernel_rfl) ?_
  simp only [Act.put, fl1, fl2, fl3]
  refine sl_skipped (by kernel_rfl) (w2.setCell ⟨D, 2, none⟩ (.bool b)) ?he ?_
  case he => exact exec_store_cell 4 _ _ rfl D 2 (by kernel_rfl) (.bool b) (by kernel_rfl) _ hDw2.out.c2 (hDw2.out.fr 2) (fun w => by kernel_rfl) rfl rfl
  simp only [Act.put, fl1, fl2, fl3]
  have hDw3 : Hid (DiskI (w2.setCell ⟨D, 2, none⟩ (.bool b)) D mb ⟨d.L, (lf : Int) - (N2 : Int), b⟩) := hDw2.out.set2 b
  have hkw3 : Hid (KpS (TD D mb) w (w2.setCell ⟨D, 2, none⟩ (.bool b))) := hkw2.out.trans (kpD _ _ _ _ _)
  generalize (w2.setCell ⟨D, 2, none⟩ (.bool b)) = w3 at hDw3 hkw3 ⊢
  clear hDw2 hkw2
  refine wpList_nil ?_
  go_upto_region 6 with fail
  refine wp_normalG ?_
  refine wp_region_held_drew (S := fun w' => Below w3.heap.size w3 w') (by kernel_rfl) (Below.refl _ _).drew (fun hS => ?_)
  change wpAnyH _ _ _ _ _ 8 (Array.replicate 8 false) _ _
  generalize hx : w3.drew = y at hS ⊢
  clear hx
  refine held_take 0 rfl (by kernel_rfl) (by kernel_rfl) (by kernel_rfl) (.int .i64 (N2 : Int)) (fun _ _ _ h => nomatch h.1) (by kernel_rfl) (fun w' h => (by kernel_rfl)) hS ?_
  simp only [Act.put, fl1, fl2, fl3, fl4, fl5, fl6]
  refine held_take 1 rfl (by kernel_rfl) (by kernel_rfl) (by kernel_rfl) (.pointer (some ⟨D, 0, none⟩)) (fun _ _ _ h => nomatch h.1) (by kernel_rfl) (fun w' h => (by kernel_rfl)) hS ?_
  simp only [Act.put, fl1, fl2, fl3, fl4, fl5, fl6]
  refine held_take 2 rfl (by kernel_rfl) (by kernel_rfl) (by kernel_rfl) (.pointer (some ⟨D, 0, none⟩)) (fun _ _ _ h => nomatch h.1) (by kernel_rfl) (fun w' h => (by kernel_rfl)) hS ?_
  simp only [Act.put, fl1, fl2, fl3, fl4, fl5, fl6]
  refine held_take 3 rfl (by kernel_rfl) (by kernel_rfl) (by kernel_rfl) (.pointer (some ⟨D, 2, none⟩)) (fun _ _ _ h => nomatch h.1) (by kernel_rfl) (fun w' h => (by kernel_rfl)) hS ?_
  simp only [Act.put, fl1, fl2, fl3, fl4, fl5, fl6]
  refine held_take 4 rfl (by kernel_rfl) (by kernel_rfl) (by kernel_rfl) (.bool b) (fun _ _ _ h => nomatch h.1) (by kernel_rfl) (fun w' h => (exec_load_cell 4 w' _ rfl ⟨D, 2, none⟩ (by kernel_rfl) _ ((hDw3.out.below h).c2) (fun _ => by kernel_rfl))) hS ?_
  simp only [Act.put, fl1, fl2, fl3, fl4, fl5, fl6]
  refine held_take 5 rfl (by kernel_rfl) (by kernel_rfl) (by kernel_rfl) (.bool (!b)) (fun _ _ _ h => nomatch h.1) (by kernel_rfl) (fun w' h => by kernel_rfl) hS ?_
  simp only [Act.put, fl1, fl2, fl3, fl4, fl5, fl6]
  refine held_take 6 rfl (by kernel_rfl) (by kernel_rfl) (by kernel_rfl) (.int .i64 (N2 : Int)) (fun _ _ _ h => nomatch h.1) (by kernel_rfl) (fun w' h => (by kernel_rfl)) hS ?_
  simp only [Act.put, fl1, fl2, fl3, fl4, fl5, fl6]
  refine held_take 7 rfl (by kernel_rfl) (by kernel_rfl) (by kernel_rfl) (.bool (!b)) (fun _ _ _ h => nomatch h.1) (by kernel_rfl) (fun w' h => (by kernel_rfl)) hS ?_
  simp only [Act.put, fl1, fl2, fl3, fl4, fl5, fl6]
  have hF : Hid (DiskI y D mb d2 ∧ KpS (TD D mb) w y) := And.intro (by rw [hdH.out]; exact hDw3.out.below hS) (hkw3.out.trans (KpS.of hS))
  clear hS hDw3 hkw3 hdH hgH hbH hc1
  refine wpAnyH_done (by kernel_rfl) ?_ _
  refine ⟨rfl, ?_⟩
  rename_i hK
  refine hK _ _ ?_
  clear hK
  go_wp2_with fail
  go_ret2
  exact ⟨rfl, hF.out.1, hF.out.2⟩
end Go.Proofs.Ytdkaaieenbmihaa
namespace Go.Proofs.Ytdkaaieenbmihaa
open Go.RowKit
/-- What find answers: the bytes, how many are sure, the error. -/
def _root_.Go.DS.findS (d : DS) (s : ByteArray) : List Nat × Nat × Nat := if d.off then ([], 0, 20) else match d.get s with | none => ([], 0, 4) | some f => (f.bs, f.sure, 0)
theorem one2 {v : Value} {n : Int} (hv : v.oneCell' = true) : (#[v, .int .i64 n] : Array Value).all (·.oneCell') = true := by
  rw [← Array.all_toList]
  show (v.oneCell' && ((Value.int .i64 n).oneCell' && true)) = true
  rw [hv]; rfl
theorem exec_store_f {o : Oper} {a : Act} {w : World} (x y : Operand) (ho : o.op = .store 77 x y) (g : Nat) (hx : a.eval x = .pointer (some ⟨g, 0, none⟩)) (v : Value) (n : Int) (hv : v.oneCell' = true) (hy : a.eval y = .agg #[v, .int .i64 n]) (cs : Array Value) (hg : w.heap[g]? = some (.cells cs 77 (0, 0))) (hs : cs.size = 2) :
    (execOp a.eval o).run Try.prog w = .ok .skip (w.setRow g #[v, .int .i64 n]) := by
  unfold execOp
  simp only [ho, hx, hy, Instr.storeAt, Instr.sureAddr, Sem.run_bind, Sem.run_pure, Result.andThen_ok, run_storeVar_row (P := Try.prog) w g 77 77 cs #[v, .int .i64 n] hg (by kernel_rfl) (by rw [hs]; rfl) (one2 hv)]
theorem exec_lookup {o : Oper} {a : Act} {w : World} (x y : Operand) (ho : o.op = .lookup 64 x y true) (mb : Nat) (s : ByteArray) (hx : a.eval x = .map (some mb)) (hy : a.eval y = .string s) {L : List (ByteArray × Value)} (h : DM w mb L) (u : Value) (hu : (lk L s).getD (.agg #[.slice none 0 0, .int .i64 0]) = u) (b : Bool) (hb : (lk L s).isSome = b) :
    (execOp a.eval o).run Try.prog w = .ok (.value (.tuple #[u, .bool b])) w := by
  subst hu hb
  unfold execOp
  simp [ho, hx, hy, run_look h un61 un9 (zero65 w) s, Result.andThen]
theorem find_nil (s : ByteArray) (w : World) : Calls Try.prog 46 #[.pointer none, .string s] w fun e w' => e = .returned (.tuple #[.agg #[.slice none 0 0, .int .i64 0], .int .i64 20]) ∧ Below w.heap.size w w' := by
  go_enter Try.func46, Try.ntmps46
  go_upto_region 1 with fail
  generalize hW : World.alloc _ _ = W
  have hR0 : W.heap[w.heap.size]? = some (.cells (#[.slice none 0 0, .int .i64 0]) 77 (0, 0)) := by rw [← hW]; exact heap_alloc_new _ _
  have hB0 : Below w.heap.size w W := by rw [← hW]; exact (Below.refl _ _).alloc (Nat.le_refl _) _
  clear hW
  obtain ⟨R, hR⟩ : ∃ R, R = w.heap.size := ⟨_, rfl⟩
  rw [← hR] at hR0 ⊢
  have hRW : Hid (W.heap[R]? = some (.cells (#[.slice none 0 0, .int .i64 0]) 77 (0, 0))) := hR0
  have hBW : Hid (Below w.heap.size w W) := hB0
  have hRle : Hid (w.heap.size ≤ R) := Nat.le_of_eq hR.symm
  clear hR0 hB0 hR
  refine wp_region_lit ?_
  refine sl_run rfl (.pointer none) W (by kernel_rfl) ?_
  simp only [Act.put, fl1, fl2, fl3]
  refine sg_call (by kernel_rfl) 47 #[.pointer none] (by kernel_rfl) (R := fun v w' => v = .bool false ∧ W = w') ((On_nil W).mono fun e w' h => ⟨_, h.1, rfl, h.2⟩) ?_
  rintro _ _ ⟨rfl, rfl⟩
  simp only [Act.put, fl1, fl2, fl3]
  refine sl_run rfl (.bool true) W (by kernel_rfl) ?_
  simp only [Act.put, fl1, fl2, fl3]
  refine wpList_nil ?_
  go_upto_region 2 with fail
  refine wp_region_lit ?_
  refine sl_run rfl (.agg #[.slice none 0 0, .int .i64 0]) W (by kernel_rfl) ?_
  simp only [Act.put, fl1, fl2, fl3]
  refine sl_skipped (by kernel_rfl) (W.setRow R #[.slice none 0 0, .int .i64 0]) ?he ?_
  case he => exact exec_store_f _ _ rfl R (by kernel_rfl) (.slice none 0 0) 0 rfl (by kernel_rfl) _ hRW.out rfl
  simp only [Act.put, fl1, fl2, fl3]
  have hRV : Hid ((W.setRow R #[.slice none 0 0, .int .i64 0]).heap[R]? = some (.cells #[.slice none 0 0, .int .i64 0] 77 (0, 0))) := setRow_heap _ _ _ _ _ _ hRW.out
  have hBV : Hid (Below w.heap.size w (W.setRow R #[.slice none 0 0, .int .i64 0])) := below_setRow hBW.out hRle.out _
  generalize (W.setRow R #[.slice none 0 0, .int .i64 0]) = V at hRV hBV ⊢
  clear hRW hBW
  refine sl_run rfl (.int .i64 20) V (by kernel_rfl) ?_
  simp only [Act.put, fl1, fl2, fl3]
  refine wpList_nil ?_
  go_wp2_with fail
  exact bodyPost_ret (results_cell_tmp rfl _ _ R 77 (#[.slice none 0 0, .int .i64 0]) (0, 0) _ (.int .i64 20) (by kernel_rfl) (by kernel_rfl) hRV.out Try.underlying77 rfl (by kernel_rfl)) (by kernel_rfl) ⟨rfl, hBV.out⟩
set_option maxRecDepth 100000 in
theorem find_calls {w : World} {D mb : Nat} {d : DS} (h : DiskI w D mb d) (s : ByteArray) : Calls Try.prog 46 #[.pointer (some ⟨D, 0, none⟩), .string s] w fun e w' => ∃ v, e = .returned (.tuple #[.agg #[v, .int .i64 ((d.findS s).2.1 : Int)], .int .i64 ((d.findS s).2.2 : Int)]) ∧ Rw 1 encB w' v (d.findS s).1 ∧ Below w.heap.size w w' := by
  have hDw : Hid (DiskI w D mb d) := h
  obtain ⟨bs, hbs⟩ : ∃ b, b = (d.findS s).1 := ⟨_, rfl⟩
  obtain ⟨su, hsu⟩ : ∃ b, b = (d.findS s).2.1 := ⟨_, rfl⟩
  obtain ⟨er, her⟩ : ∃ b, b = (d.findS s).2.2 := ⟨_, rfl⟩
  rw [← hbs, ← hsu, ← her]
  have hS : Hid (d.findS s = (bs, su, er)) := by show d.findS s = _; rw [hbs, hsu, her]
  clear h hbs hsu her
  go_enter Try.func46, Try.ntmps46
  go_upto_region 1 with fail
  generalize hW : World.alloc _ _ = W
  have hR0 : W.heap[w.heap.size]? = some (.cells (#[.slice none 0 0, .int .i64 0]) 77 (0, 0)) := by rw [← hW]; exact heap_alloc_new _ _
  have hB0 : Below w.heap.size w W := by rw [← hW]; exact (Below.refl _ _).alloc (Nat.le_refl _) _
  clear hW
  obtain ⟨R, hR⟩ : ∃ R, R = w.heap.size := ⟨_, rfl⟩
  rw [← hR] at hR0 ⊢
  have hRW : Hid (W.heap[R]? = some (.cells (#[.slice none 0 0, .int .i64 0]) 77 (0, 0))) := hR0
  have hBW : Hid (Below w.heap.size w W) := hB0
  have hRle : Hid (w.heap.size ≤ R) := Nat.le_of_eq hR.symm
  clear hR0 hB0 hR
  have hDW : Hid (DiskI W D mb d) := hDw.out.below hBW.out
  refine wp_region_lit ?_
  cases ho : d.off with
  | true =>
    refine sl_run rfl (.pointer (some ⟨D, 0, none⟩)) W (by kernel_rfl) ?_
    simp only [Act.put, fl1, fl2, fl3]
    refine sg_call (by kernel_rfl) 47 #[.pointer (some ⟨D, 0, none⟩)] (by kernel_rfl) (R := fun v w' => v = .bool false ∧ W = w') (((by have h8 := On_calls hDW.out; rw [ho] at h8; exact h8 : Calls Try.prog 47 #[.pointer (some ⟨D, 0, none⟩)] W fun e w' => e = .returned (.bool false) ∧ W = w')).mono fun e w' h => ⟨_, h.1, rfl, h.2⟩) ?_
    rintro _ _ ⟨rfl, rfl⟩
    simp only [Act.put, fl1, fl2, fl3]
    refine sl_run rfl (.bool true) W (by kernel_rfl) ?_
    simp only [Act.put, fl1, fl2, fl3]
    refine wpList_nil ?_
    go_upto_region 2 with fail
    refine wp_region_lit ?_
    refine sl_run rfl (.agg #[.slice none 0 0, .int .i64 0]) W (by kernel_rfl) ?_
    simp only [Act.put, fl1, fl2, fl3]
    refine sl_skipped (by kernel_rfl) (W.setRow R #[.slice none 0 0, .int .i64 0]) ?he ?_
    case he => exact exec_store_f _ _ rfl R (by kernel_rfl) (.slice none 0 0) 0 rfl (by kernel_rfl) _ hRW.out rfl
    simp only [Act.put, fl1, fl2, fl3]
    have hRV : Hid ((W.setRow R #[.slice none 0 0, .int .i64 0]).heap[R]? = some (.cells #[.slice none 0 0, .int .i64 0] 77 (0, 0))) := setRow_heap _ _ _ _ _ _ hRW.out
    have hBV : Hid (Below w.heap.size w (W.setRow R #[.slice none 0 0, .int .i64 0])) := below_setRow hBW.out hRle.out _
    generalize (W.setRow R #[.slice none 0 0, .int .i64 0]) = V at hRV hBV ⊢
    clear hRW hBW
    refine sl_run rfl (.int .i64 20) V (by kernel_rfl) ?_
    simp only [Act.put, fl1, fl2, fl3]
    refine wpList_nil ?_
    have hS2 := hS.out
    unfold DS.findS at hS2
    rw [if_pos ho] at hS2
    injection hS2 with e1 e2
    injection e2 with e2 e3
    subst e1 e2 e3
    clear ho hS hDW hDw
    go_wp2_with fail
    exact bodyPost_ret (results_cell_tmp rfl _ _ R 77 (#[.slice none 0 0, .int .i64 0]) (0, 0) _ (.int .i64 20) (by kernel_rfl) (by kernel_rfl) hRV.out Try.underlying77 rfl (by kernel_rfl)) (by kernel_rfl) ⟨_, rfl, Rw.nil, hBV.out⟩
  | false =>
    refine sl_run rfl (.pointer (some ⟨D, 0, none⟩)) W (by kernel_rfl) ?_
    simp only [Act.put, fl1, fl2, fl3]
    refine sg_call (by kernel_rfl) 47 #[.pointer (some ⟨D, 0, none⟩)] (by kernel_rfl) (R := fun v w' => v = .bool true ∧ W = w') (((by have h8 := On_calls hDW.out; rw [ho] at h8; exact h8 : Calls Try.prog 47 #[.pointer (some ⟨D, 0, none⟩)] W fun e w' => e = .returned (.bool true) ∧ W = w')).mono fun e w' h => ⟨_, h.1, rfl, h.2⟩) ?_
    rintro _ _ ⟨rfl, rfl⟩
    simp only [Act.put, fl1, fl2, fl3]
    refine sl_run rfl (.bool false) W (by kernel_rfl) ?_
    simp only [Act.put, fl1, fl2, fl3]
    refine wpList_nil ?_
    go_upto_region 3 with fail
    refine wp_region_lit ?_
    have hS2 := hS.out
    unfold DS.findS at hS2
    rw [if_neg (by rw [ho]; decide)] at hS2
    clear ho hS
    rcases hDw.out.look s with ⟨hg, L, hm0, hl⟩ | ⟨f, v, hg, hnm, hmem, hr, L, hm0, hl⟩
    case inl =>
      refine sl_run rfl (.pointer (some ⟨D, 0, none⟩)) W (by kernel_rfl) ?_
      simp only [Act.put, fl1, fl2, fl3]
      refine sl_run rfl (.pointer (some ⟨D, 0, none⟩)) W (by kernel_rfl) ?_
      simp only [Act.put, fl1, fl2, fl3]
      refine sl_run rfl (.pointer (some ⟨D, 0, none⟩)) W (by kernel_rfl) ?_
      simp only [Act.put, fl1, fl2, fl3]
      refine sl_run rfl (.map (some mb)) W (exec_load_cell 64 W _ rfl ⟨D, 0, none⟩ (by kernel_rfl) _ hDW.out.c0 (fun _ => by kernel_rfl)) ?_
      simp only [Act.put, fl1, fl2, fl3]
      refine sl_run rfl (.string s) W (by kernel_rfl) ?_
      simp only [Act.put, fl1, fl2, fl3]
      refine sl_run rfl (.tuple #[.agg #[.slice none 0 0, .int .i64 0], .bool false]) W (exec_lookup _ _ rfl mb s (by kernel_rfl) (by kernel_rfl) (hm0.kept (hBW.out.block mb hm0.lt)) _ (by rw [hl]; rfl) false (by rw [hl]; rfl)) ?_
      simp only [Act.put, fl1, fl2, fl3]
      refine sl_run rfl (.tuple #[.agg #[.slice none 0 0, .int .i64 0], .bool false]) W (by kernel_rfl) ?_
      simp only [Act.put, fl1, fl2, fl3]
      refine sl_run rfl (.agg #[.slice none 0 0, .int .i64 0]) W (by kernel_rfl) ?_
      simp only [Act.put, fl1, fl2, fl3]
      refine sl_run rfl (.bool false) W (by kernel_rfl) ?_
      simp only [Act.put, fl1, fl2, fl3]
      refine sg_run (by kernel_rfl) (.pointer (some ⟨W.heap.size, 0, none⟩)) (W.alloc (.cells #[.slice none 0 0, .int .i64 0] 77)) (by kernel_rfl) ?_
      simp only [Act.put, fl1, fl2, fl3]
      have hFW2 : Hid ((W.alloc (.cells #[.slice none 0 0, .int .i64 0] 77)).heap[W.heap.size]? = some (.cells #[.slice none 0 0, .int .i64 0] 77 (0, 0))) := heap_alloc_new _ _
      have hRW2 : Hid ((W.alloc (.cells #[.slice none 0 0, .int .i64 0] 77)).heap[R]? = some (.cells #[.slice none 0 0, .int .i64 0] 77 (0, 0))) := heap_kept hRW.out ((Below.refl _ _).alloc (Nat.le_refl _) _)
      have hBW2 : Hid (Below w.heap.size w (W.alloc (.cells #[.slice none 0 0, .int .i64 0] 77))) := hBW.out.alloc hBW.out.size _
      have hFle : Hid (w.heap.size ≤ W.heap.size) := hBW.out.size
      have hRF : Hid (R ≠ W.heap.size) := by
        have h8 := (Array.getElem?_eq_some_iff.1 hRW.out).1
        show ¬ _
        omega
      generalize (W.alloc (.cells #[.slice none 0 0, .int .i64 0] 77)) = W2 at hFW2 hRW2 hBW2 ⊢
      generalize W.heap.size = F at hFW2 hFle hRF ⊢
      clear hRW hBW
      refine sl_skipped (by kernel_rfl) (W2.setRow F #[.slice none 0 0, .int .i64 0]) ?he ?_
      case he => exact exec_store_f _ _ rfl F (by kernel_rfl) (.slice none 0 0) 0 rfl (by kernel_rfl) _ hFW2.out rfl
      simp only [Act.put, fl1, fl2, fl3]
      have hFW3 : Hid ((W2.setRow F #[.slice none 0 0, .int .i64 0]).heap[F]? = some (.cells #[.slice none 0 0, .int .i64 0] 77 (0, 0))) := setRow_heap _ _ _ _ _ _ hFW2.out
      have hRW3 : Hid ((W2.setRow F #[.slice none 0 0, .int .i64 0]).heap[R]? = some (.cells #[.slice none 0 0, .int .i64 0] 77 (0, 0))) := by
        show _ = _
        rw [← hRW2.out]; simp only [World.setRow, Array.getElem?_modify]; rw [if_neg (fun e9 => hRF.out e9.symm)]
      have hBW3 : Hid (Below w.heap.size w (W2.setRow F #[.slice none 0 0, .int .i64 0])) := below_setRow hBW2.out hFle.out _
      generalize (W2.setRow F #[.slice none 0 0, .int .i64 0]) = W3 at hFW3 hRW3 hBW3 ⊢
      clear hFW2 hRW2 hBW2
      refine sl_run rfl (.bool false) W3 (by kernel_rfl) ?_
      simp only [Act.put, fl1, fl2, fl3]
      refine wpList_nil ?_
      rw [hg] at hS2
      injection hS2 with e1 e2
      injection e2 with e2 e3
      subst e1 e2 e3
      clear hg hm0 hl hDW hDw
      go_upto_region 5 with fail
      refine wp_region_lit ?_
      refine sl_run rfl (.agg #[.slice none 0 0, .int .i64 0]) W3 (by kernel_rfl) ?_
      simp only [Act.put, fl1, fl2, fl3]
      refine sl_skipped (by kernel_rfl) (W3.setRow R #[.slice none 0 0, .int .i64 0]) ?he ?_
      case he => exact exec_store_f _ _ rfl R (by kernel_rfl) (.slice none 0 0) 0 rfl (by kernel_rfl) _ hRW3.out rfl
      simp only [Act.put, fl1, fl2, fl3]
      have hRV : Hid ((W3.setRow R #[.slice none 0 0, .int .i64 0]).heap[R]? = some (.cells #[.slice none 0 0, .int .i64 0] 77 (0, 0))) := setRow_heap _ _ _ _ _ _ hRW3.out
      have hBV : Hid (Below w.heap.size w (W3.setRow R #[.slice none 0 0, .int .i64 0])) := below_setRow hBW3.out hRle.out _
      generalize (W3.setRow R #[.slice none 0 0, .int .i64 0]) = V at hRV hBV ⊢
      clear hRW3 hBW3
      refine sl_run rfl (.int .i64 4) V (by kernel_rfl) ?_
      simp only [Act.put, fl1, fl2, fl3]
      refine wpList_nil ?_
      go_wp2_with fail
      exact bodyPost_ret (results_cell_tmp rfl _ _ R 77 (#[.slice none 0 0, .int .i64 0]) (0, 0) _ (.int .i64 4) (by kernel_rfl) (by kernel_rfl) hRV.out Try.underlying77 rfl (by kernel_rfl)) (by kernel_rfl) ⟨_, rfl, Rw.nil, hBV.out⟩
    case inr =>
      rw [hg] at hS2
      injection hS2 with e1 e2
      injection e2 with e2 e3
      subst e1 e2 e3
      obtain ⟨A, c, rfl⟩ := hr.form
      have hrw : Hid (Rw 1 encB w (.slice A f.bs.length c) f.bs) := hr
      clear hr hnm hmem hg
      refine sl_run rfl (.pointer (some ⟨D, 0, none⟩)) W (by kernel_rfl) ?_
      simp only [Act.put, fl1, fl2, fl3]
      refine sl_run rfl (.pointer (some ⟨D, 0, none⟩)) W (by kernel_rfl) ?_
      simp only [Act.put, fl1, fl2, fl3]
      refine sl_run rfl (.pointer (some ⟨D, 0, none⟩)) W (by kernel_rfl) ?_
      simp only [Act.put, fl1, fl2, fl3]
      refine sl_run rfl (.map (some mb)) W (exec_load_cell 64 W _ rfl ⟨D, 0, none⟩ (by kernel_rfl) _ hDW.out.c0 (fun _ => by kernel_rfl)) ?_
      simp only [Act.put, fl1, fl2, fl3]
      refine sl_run rfl (.string s) W (by kernel_rfl) ?_
      simp only [Act.put, fl1, fl2, fl3]
      refine sl_run rfl (.tuple #[.agg #[.slice A f.bs.length c, .int .i64 (f.sure : Int)], .bool true]) W (exec_lookup _ _ rfl mb s (by kernel_rfl) (by kernel_rfl) (hm0.kept (hBW.out.block mb hm0.lt)) _ (by rw [hl]; rfl) true (by rw [hl]; rfl)) ?_
      simp only [Act.put, fl1, fl2, fl3]
      refine sl_run rfl (.tuple #[.agg #[.slice A f.bs.length c, .int .i64 (f.sure : Int)], .bool true]) W (by kernel_rfl) ?_
      simp only [Act.put, fl1, fl2, fl3]
      refine sl_run rfl (.agg #[.slice A f.bs.length c, .int .i64 (f.sure : Int)]) W (by kernel_rfl) ?_
      simp only [Act.put, fl1, fl2, fl3]
      refine sl_run rfl (.bool true) W (by kernel_rfl) ?_
      simp only [Act.put, fl1, fl2, fl3]
      refine sg_run (by kernel_rfl) (.pointer (some ⟨W.heap.size, 0, none⟩)) (W.alloc (.cells #[.slice none 0 0, .int .i64 0] 77)) (by kernel_rfl) ?_
      simp only [Act.put, fl1, fl2, fl3]
      have hFW2 : Hid ((W.alloc (.cells #[.slice none 0 0, .int .i64 0] 77)).heap[W.heap.size]? = some (.cells #[.slice none 0 0, .int .i64 0] 77 (0, 0))) := heap_alloc_new _ _
      have hRW2 : Hid ((W.alloc (.cells #[.slice none 0 0, .int .i64 0] 77)).heap[R]? = some (.cells #[.slice none 0 0, .int .i64 0] 77 (0, 0))) := heap_kept hRW.out ((Below.refl _ _).alloc (Nat.le_refl _) _)
      have hBW2 : Hid (Below w.heap.size w (W.alloc (.cells #[.slice none 0 0, .int .i64 0] 77))) := hBW.out.alloc hBW.out.size _
      have hFle : Hid (w.heap.size ≤ W.heap.size) := hBW.out.size
      have hRF : Hid (R ≠ W.heap.size) := by
        have h8 := (Array.getElem?_eq_some_iff.1 hRW.out).1
        show ¬ _
        omega
      generalize (W.alloc (.cells #[.slice none 0 0, .int .i64 0] 77)) = W2 at hFW2 hRW2 hBW2 ⊢
      generalize W.heap.size = F at hFW2 hFle hRF ⊢
      clear hRW hBW
      refine sl_skipped (by kernel_rfl) (W2.setRow F #[.slice A f.bs.length c, .int .i64 (f.sure : Int)]) ?he ?_
      case he => exact exec_store_f _ _ rfl F (by kernel_rfl) (.slice A f.bs.length c) (f.sure : Int) rfl (by kernel_rfl) _ hFW2.out rfl
      simp only [Act.put, fl1, fl2, fl3]
      have hFW3 : Hid ((W2.setRow F #[.slice A f.bs.length c, .int .i64 (f.sure : Int)]).heap[F]? = some (.cells #[.slice A f.bs.length c, .int .i64 (f.sure : Int)] 77 (0, 0))) := setRow_heap _ _ _ _ _ _ hFW2.out
      have hRW3 : Hid ((W2.setRow F #[.slice A f.bs.length c, .int .i64 (f.sure : Int)]).heap[R]? = some (.cells #[.slice none 0 0, .int .i64 0] 77 (0, 0))) := by
        show _ = _
        rw [← hRW2.out]; simp only [World.setRow, Array.getElem?_modify]; rw [if_neg (fun e9 => hRF.out e9.symm)]
      have hBW3 : Hid (Below w.heap.size w (W2.setRow F #[.slice A f.bs.length c, .int .i64 (f.sure : Int)])) := below_setRow hBW2.out hFle.out _
      generalize (W2.setRow F #[.slice A f.bs.length c, .int .i64 (f.sure : Int)]) = W3 at hFW3 hRW3 hBW3 ⊢
      clear hFW2 hRW2 hBW2
      refine sl_run rfl (.bool true) W3 (by kernel_rfl) ?_
      simp only [Act.put, fl1, fl2, fl3]
      refine wpList_nil ?_
      clear hm0 hl hDW hDw
      go_upto_region 6 with fail
      refine wp_region_lit ?_
      refine sg_run (by kernel_rfl) (.agg (#[.slice A f.bs.length c, .int .i64 (f.sure : Int)])) W3 (exec_load_row 77 W3 _ rfl F (by kernel_rfl) 77 (#[.slice A f.bs.length c, .int .i64 (f.sure : Int)]) (0, 0) _ hFW3.out Try.underlying77 rfl (by kernel_rfl)) ?_
      simp only [Act.put, fl1, fl2, fl3]
      refine sl_skipped (by kernel_rfl) (W3.setRow R #[.slice A f.bs.length c, .int .i64 (f.sure : Int)]) ?he ?_
      case he => exact exec_store_f _ _ rfl R (by kernel_rfl) (.slice A f.bs.length c) (f.sure : Int) rfl (by kernel_rfl) _ hRW3.out rfl
      simp only [Act.put, fl1, fl2, fl3]
      have hRV : Hid ((W3.setRow R #[.slice A f.bs.length c, .int .i64 (f.sure : Int)]).heap[R]? = some (.cells #[.slice A f.bs.length c, .int .i64 (f.sure : Int)] 77 (0, 0))) := setRow_heap _ _ _ _ _ _ hRW3.out
      have hBV : Hid (Below w.heap.size w (W3.setRow R #[.slice A f.bs.length c, .int .i64 (f.sure : Int)])) := below_setRow hBW3.out hRle.out _
      generalize (W3.setRow R #[.slice A f.bs.length c, .int .i64 (f.sure : Int)]) = V at hRV hBV ⊢
      clear hRW3 hBW3
      refine sl_run rfl (.int .i64 0) V (by kernel_rfl) ?_
      simp only [Act.put, fl1, fl2, fl3]
      refine wpList_nil ?_
      go_wp2_with fail
      exact bodyPost_ret (results_cell_tmp rfl _ _ R 77 (#[.slice A f.bs.length c, .int .i64 (f.sure : Int)]) (0, 0) _ (.int .i64 0) (by kernel_rfl) (by kernel_rfl) hRV.out Try.underlying77 rfl (by kernel_rfl)) (by kernel_rfl) ⟨_, rfl, hrw.out.below hBV.out, hBV.out⟩
end Go.Proofs.Ytdkaaieenbmihaa
namespace Go.Proofs.Ytdkaaieenbmihaa
open Go.RowKit
theorem exec_callfn {o : Oper} {a : Act} {w : World} (x : Operand) (ho : o.op = .call { callee := .value x, args := #[], argTypes := #[] }) (cl : FuncId) (caps : Array Value) (hx : a.eval x = .func (.func cl) #[] caps) (hcf : (callFunc cl caps).run Try.prog w = .ok (.enter cl caps) w) : (execOp a.eval o).run Try.prog w = .ok (.enter cl caps) w := by
  unfold execOp
  simp [ho, hx, resolve, invoke, Deferred.ofValue, Result.andThen, hcf]
theorem used_L (d : DS) (n : Nat) : (d.used n).L = d.L := by unfold DS.used; split <;> rfl
set_option maxRecDepth 100000 in
theorem one_calls {w : World} {D mb : Nat} {d : DS} (h : DiskI w D mb d) (cl : FuncId) (caps : Array Value) (hcf : ∀ w, (callFunc cl caps).run Try.prog w = .ok (.enter cl caps) w) (act : List FE → List FE)
    (hcl : ∀ w', KpS (TD D mb) w w' → DiskI w' D mb (d.used 1) → Calls Try.prog cl caps w' fun e w2 => e = .returned (.tuple #[]) ∧ DiskI w2 D mb { d.used 1 with L := act (d.used 1).L } ∧ KpS (TD D mb) w' w2) :
    Calls Try.prog 51 #[.pointer (some ⟨D, 0, none⟩), .func (.func cl) #[] caps] w fun e w' => e = .returned (.int .i64 ((d.one act).2 : Int)) ∧ DiskI w' D mb (d.one act).1 ∧ KpS (TD D mb) w w' := by
  have hDw : Hid (DiskI w D mb d) := h
  have hcH : Hid (∀ w', KpS (TD D mb) w w' → DiskI w' D mb (d.used 1) → Calls Try.prog cl caps w' fun e w2 => e = .returned (.tuple #[]) ∧ DiskI w2 D mb { d.used 1 with L := act (d.used 1).L } ∧ KpS (TD D mb) w' w2) := hcl
  obtain ⟨d1, er, hd1⟩ : ∃ p q, d.one act = (p, q) := ⟨_, _, rfl⟩
  rw [hd1]
  have hd1H : Hid (d.one act = (d1, er)) := hd1
  clear h hcl hd1
  go_enter Try.func51, Try.ntmps51
  go_upto_region 1 with fail
  refine wp_region_lit ?_
  refine sl_run rfl (.pointer (some ⟨D, 0, none⟩)) w (by kernel_rfl) ?_
  simp only [Act.put, fl1, fl2, fl3]
  refine sg_call (by kernel_rfl) 56 #[.pointer (some ⟨D, 0, none⟩), .int .i64 1] (by kernel_rfl) (R := fun v w' => v = .tuple #[.int .i64 (d.useN 1 : Int), .bool (d.useOk 1)] ∧ DiskI w' D mb (d.used 1) ∧ KpS (TD D mb) w w') ((use_calls hDw.out 1 (by decide)).mono fun e w' h => ⟨_, h.1, rfl, h.2⟩) ?_
  rintro _ w2 ⟨rfl, hD2, hK2⟩
  simp only [Act.put, fl1, fl2, fl3]
  have hDw2 : Hid (DiskI w2 D mb (d.used 1)) := hD2
  have hKw2 : Hid (KpS (TD D mb) w w2) := hK2
  clear hD2 hK2 hDw
  refine sl_run rfl (.tuple #[.int .i64 (d.useN 1 : Int), .bool (d.useOk 1)]) w2 (by kernel_rfl) ?_
  simp only [Act.put, fl1, fl2, fl3]
  refine sl_run rfl (.int .i64 (d.useN 1 : Int)) w2 (by kernel_rfl) ?_
  simp only [Act.put, fl1, fl2, fl3]
  refine sl_run rfl (.bool (d.useOk 1)) w2 (by kernel_rfl) ?_
  simp only [Act.put, fl1, fl2, fl3]
  refine sl_run rfl (.int .i64 (d.useN 1 : Int)) w2 (by kernel_rfl) ?_
  simp only [Act.put, fl1, fl2, fl3]
  refine sl_run rfl (.bool (d.useOk 1)) w2 (by kernel_rfl) ?_
  simp only [Act.put, fl1, fl2, fl3]
  refine wpList_nil ?_
  generalize (d.useN 1 : Int) = un
  obtain ⟨b, hb⟩ : ∃ b, b = d.useOk 1 := ⟨_, rfl⟩
  rw [← hb]
  have hbH : Hid (b = d.useOk 1) := hb
  clear hb
  cases b with
  | false =>
    have hF : Hid (d1 = d.used 1 ∧ er = 20) := by
      have h8 := hd1H.out
      unfold DS.one at h8
      rw [if_neg (by rw [← hbH.out]; decide)] at h8
      injection h8 with h8 h9
      exact And.intro h8.symm h9.symm
    obtain ⟨rfl, rfl⟩ := hF.out
    clear hF hbH hd1H hcH
    go_wp2_with fail
    go_ret
    exact ⟨rfl, hDw2.out, hKw2.out⟩
  | true =>
    have hF : Hid (d1 = { d.used 1 with L := act d.L } ∧ er = 0) := by
      have h8 := hd1H.out
      unfold DS.one at h8
      rw [if_pos hbH.out.symm] at h8
      injection h8 with h8 h9
      exact And.intro h8.symm h9.symm
    obtain ⟨rfl, rfl⟩ := hF.out
    clear hF hbH hd1H
    go_upto_region 4 with fail
    refine wp_region_lit ?_
    refine sl_run rfl (.func (.func cl) #[] caps) w2 (by kernel_rfl) ?_
    simp only [Act.put, fl1, fl2, fl3]
    refine sg_call (by kernel_rfl) cl caps ?he (R := fun v w' => v = .tuple #[] ∧ DiskI w' D mb { d.used 1 with L := act (d.used 1).L } ∧ KpS (TD D mb) w2 w') ?hc ?_
    case he => exact exec_callfn _ rfl cl caps (by kernel_rfl) (hcf w2)
    case hc => exact (hcH.out w2 hKw2.out hDw2.out).mono fun e w' h => ⟨_, h.1, rfl, h.2⟩
    rintro _ w3 ⟨rfl, hD3, hK3⟩
    simp only [Act.put, fl1, fl2, fl3]
    rw [used_L] at hD3
    have hDw3 : Hid (DiskI w3 D mb { d.used 1 with L := act d.L }) := hD3
    have hKw3 : Hid (KpS (TD D mb) w w3) := hKw2.out.trans hK3
    clear hD3 hK3 hDw2 hKw2 hcH
    refine wpList_nil ?_
    go_wp2_with fail
    go_ret
    exact ⟨rfl, hDw3.out, hKw3.out⟩
section
variable {P : Program} {ops : Array Oper} {Q : Exit → Act → World → Prop} {md : Region.Mode} {S : World → Prop} {fuel : Nat} {listed : Array Bool} {a : Act} {w : World}
theorem held_act (i : Nat) {oi : Oper} (hi : ops[i]? = some oi) (hr : Region.ready md ops listed = [i]) (hw : Region.wanted oi (yielded ops a.tmps) = true) {R : World → Prop}
    (he : ∃ w', (execOp a.eval oi).run P w = .ok .skip w' ∧ R w') (h : ∀ w', R w' → S w' ∧ wpAnyH P md ops Q S fuel (listed.setIfInBounds i true) (a.put oi.dst undef) w') : wpAnyH P md ops Q S (fuel + 1) listed a w := by
  obtain ⟨w', he, hR⟩ := he
  exact held_did i hi hr hw w' he (h w' hR).1 (h w' hR).2
end
theorem exec_mapset {o : Oper} {a : Act} {w : World} (x y z : Operand) (ho : o.op = .mapUpdate 64 x y z) {D mb : Nat} {d : DS} (h : DiskI w D mb d) (f : FE) (v : Value) (hv : Rw 1 encB w v f.bs) (hf : f.sure ≤ f.bs.length ∧ f.bs.length ≤ 1048576) (hx : a.eval x = .map (some mb)) (hy : a.eval y = .string f.nm) (hz : a.eval z = .agg #[v, .int .i64 (f.sure : Int)]) :
    ∃ w', (execOp a.eval o).run Try.prog w = .ok .skip w' ∧ DiskI w' D mb { d with L := DS.putL d.L f } ∧ KpS (TD D mb) w w' := by
  obtain ⟨w', hr, h2, h3⟩ := h.put un61 un9 f v hv hf
  refine ⟨w', ?_, h2, h3⟩
  unfold execOp
  simp [ho, hx, hy, hz, hr, Result.andThen]
theorem exec_mapdel {o : Oper} {a : Act} {w : World} (x y : Operand) (ho : o.op = .call { callee := .builtin .delete, args := #[x, y], argTypes := #[64, 9] }) {D mb : Nat} {d : DS} (h : DiskI w D mb d) (s : ByteArray) (hx : a.eval x = .map (some mb)) (hy : a.eval y = .string s) :
    ∃ v w', (execOp a.eval o).run Try.prog w = .ok (.value v) w' ∧ DiskI w' D mb { d with L := DS.del d.L s } ∧ KpS (TD D mb) w w' := by
  obtain ⟨w', hr, h2, h3⟩ := h.del un61 un9 s o.type 9
  refine ⟨.tuple #[], w', ?_, h2, h3⟩
  unfold execOp
  simp [ho, hx, hy, resolve, invoke, builtin, hr, Result.andThen]
/-- A box of another kind stays. -/
theorem KpS.box {w w' : World} {D mb g : Nat} {d : DS} {cs : Array Value} {t : TypeId} (h : KpS (TD D mb) w w') (hD : DiskI w D mb d) (hg : w.heap[g]? = some (.cells cs t (0, 0))) (ht : t ≠ 66) : w'.heap[g]? = some (.cells cs t (0, 0)) :=
  h.heap hg (fun hs => by
    rcases hs with rfl | rfl
    · rw [hD.row] at hg; simp at hg; exact ht hg.2.symm
    · obtain ⟨L, ⟨es, clock, hm⟩, _⟩ := hD.ex
      rw [hm.heap] at hg; cases hg)
set_option maxRecDepth 100000 in
theorem sync1_calls {w : World} {D mb : Nat} {d : DS} (h : DiskI w D mb d) (F Bd Bn : Nat) (f : FE) (v : Value) (hv : Rw 1 encB w v f.bs) (hfs : f.sure ≤ f.bs.length ∧ f.bs.length ≤ 1048576) (hf : w.heap[F]? = some (.cells #[v, .int .i64 (f.sure : Int)] 77 (0, 0))) (hd : w.heap[Bd]? = some (.cells #[.pointer (some ⟨D, 0, none⟩)] 39 (0, 0))) (hn : w.heap[Bn]? = some (.cells #[.string f.nm] 9 (0, 0))) :
    Calls Try.prog 54 #[.pointer (some ⟨F, 0, none⟩), .pointer (some ⟨Bd, 0, none⟩), .pointer (some ⟨Bn, 0, none⟩)] w fun e w2 => e = .returned (.tuple #[]) ∧ DiskI w2 D mb { d with L := DS.putL d.L f } ∧ KpS (TD D mb) w w2 := by
  have hDw : Hid (DiskI w D mb d) := h
  have hvH : Hid (Rw 1 encB w v f.bs) := hv
  have hfsH : Hid (f.sure ≤ f.bs.length ∧ f.bs.length ≤ 1048576) := hfs
  have hfH : Hid (w.heap[F]? = some (.cells #[v, .int .i64 (f.sure : Int)] 77 (0, 0))) := hf
  have hdH : Hid (w.heap[Bd]? = some (.cells #[.pointer (some ⟨D, 0, none⟩)] 39 (0, 0))) := hd
  have hnH : Hid (w.heap[Bn]? = some (.cells #[.string f.nm] 9 (0, 0))) := hn
  clear h hv hfs hf hd hn
  go_enter Try.func54, Try.ntmps54
  go_upto_region 0 with fail
  refine wp_normalG ?_
  refine wp_region_held_drew (S := fun w' => KpS (TD D mb) w w' ∧ w'.cell? ⟨D, 0, none⟩ = some (.map (some mb))) (by kernel_rfl) ⟨KpS.of (Below.refl _ _).drew, by rw [(Below.refl w.heap.size w).drew.cell (by exact (Array.getElem?_eq_some_iff.1 hDw.out.row).1)]; exact hDw.out.c0⟩ (fun hS => ?_)
  change wpAnyH _ _ _ _ _ 7 (Array.replicate 7 false) _ _
  have hDy : DiskI w.drew D mb d := hDw.out.below (Below.refl _ _).drew
  have hvy : Rw 1 encB w.drew v f.bs := hvH.out.below (Below.refl _ _).drew
  generalize hx : w.drew = y at hS hDy hvy
  clear hx
  refine held_take 0 rfl (by kernel_rfl) (by kernel_rfl) (by kernel_rfl) (.pointer (some ⟨D, 0, none⟩)) (fun _ _ _ h => nomatch h.1) (by kernel_rfl) (fun w' h => (exec_load_cell 39 w' _ rfl ⟨Bd, 0, none⟩ (by kernel_rfl) _ (by rw [cell_of_row _ _ _ _ _ _ (h.1.box hDw.out hdH.out (by decide))]; rfl) (fun _ => by kernel_rfl))) hS ?_
  simp only [Act.put, fl1, fl2, fl3, fl4, fl5, fl6]
  refine held_take 1 rfl (by kernel_rfl) (by kernel_rfl) (by kernel_rfl) (.pointer (some ⟨D, 0, none⟩)) (fun _ _ _ h => nomatch h.1) (by kernel_rfl) (fun w' h => (by kernel_rfl)) hS ?_
  simp only [Act.put, fl1, fl2, fl3, fl4, fl5, fl6]
  refine held_take 2 rfl (by kernel_rfl) (by kernel_rfl) (by kernel_rfl) (.pointer (some ⟨D, 0, none⟩)) (fun _ _ _ h => nomatch h.1) (by kernel_rfl) (fun w' h => (by kernel_rfl)) hS ?_
  simp only [Act.put, fl1, fl2, fl3, fl4, fl5, fl6]
  refine held_take 3 rfl (by kernel_rfl) (by kernel_rfl) (by kernel_rfl) (.map (some mb)) (fun _ _ _ h => nomatch h.1) (by kernel_rfl) (fun w' h => (exec_load_cell 64 w' _ rfl ⟨D, 0, none⟩ (by kernel_rfl) _ h.2 (fun _ => by kernel_rfl))) hS ?_
  simp only [Act.put, fl1, fl2, fl3, fl4, fl5, fl6]
  refine held_take 4 rfl (by kernel_rfl) (by kernel_rfl) (by kernel_rfl) (.string f.nm) (fun _ _ _ h => nomatch h.1) (by kernel_rfl) (fun w' h => (exec_load_cell 9 w' _ rfl ⟨Bn, 0, none⟩ (by kernel_rfl) _ (by rw [cell_of_row _ _ _ _ _ _ (h.1.box hDw.out hnH.out (by decide))]; rfl) (fun _ => by kernel_rfl))) hS ?_
  simp only [Act.put, fl1, fl2, fl3, fl4, fl5, fl6]
  refine held_take 5 rfl (by kernel_rfl) (by kernel_rfl) (by kernel_rfl) (.agg (#[v, .int .i64 (f.sure : Int)])) (fun _ _ _ h => nomatch h.1) (by kernel_rfl) (fun w' h => (exec_load_row 77 w' _ rfl F (by kernel_rfl) 77 (#[v, .int .i64 (f.sure : Int)]) (0, 0) _ (h.1.box hDw.out hfH.out (by decide)) Try.underlying77 rfl (by kernel_rfl))) hS ?_
  simp only [Act.put, fl1, fl2, fl3, fl4, fl5, fl6]
  refine held_act 6 rfl (by kernel_rfl) (by kernel_rfl) (R := fun w' => DiskI w' D mb { d with L := DS.putL d.L f } ∧ KpS (TD D mb) y w') ?he ?_
  case he => exact exec_mapset _ _ _ rfl hDy f v hvy hfsH.out (by kernel_rfl) (by kernel_rfl) (by kernel_rfl)
  rintro y2 ⟨hD2, hK2⟩
  have hF : Hid (DiskI y2 D mb { d with L := DS.putL d.L f } ∧ KpS (TD D mb) w y2) := And.intro hD2 (hS.1.trans hK2)
  refine ⟨⟨hS.1.trans hK2, hD2.c0⟩, ?_⟩
  simp only [Act.put, fl1, fl2, fl3, fl4, fl5, fl6]
  clear hS hDy hvy hD2 hK2 hDw hvH hfsH hfH hdH hnH
  refine wpAnyH_done (by kernel_rfl) ?_ _
  refine ⟨rfl, ?_⟩
  go_wp2_with fail
  refine bodyPost_fall (v := .tuple #[]) (by kernel_rfl) (by kernel_rfl) ?_
  exact ⟨rfl, hF.out.1, hF.out.2⟩
set_option maxRecDepth 100000 in
theorem cut1_calls {w : World} {D mb : Nat} {d : DS} (h : DiskI w D mb d) (F Bd Bn : Nat) (f : FE) (v : Value) (hv : Rw 1 encB w v f.bs) (hfs : f.sure ≤ f.bs.length ∧ f.bs.length ≤ 1048576) (hf : w.heap[F]? = some (.cells #[v, .int .i64 (f.sure : Int)] 77 (0, 0))) (hd : w.heap[Bd]? = some (.cells #[.pointer (some ⟨D, 0, none⟩)] 39 (0, 0))) (hn : w.heap[Bn]? = some (.cells #[.string f.nm] 9 (0, 0))) :
    Calls Try.prog 53 #[.pointer (some ⟨F, 0, none⟩), .pointer (some ⟨Bd, 0, none⟩), .pointer (some ⟨Bn, 0, none⟩)] w fun e w2 => e = .returned (.tuple #[]) ∧ DiskI w2 D mb { d with L := DS.putL d.L f } ∧ KpS (TD D mb) w w2 := by
  have hDw : Hid (DiskI w D mb d) := h
  have hvH : Hid (Rw 1 encB w v f.bs) := hv
  have hfsH : Hid (f.sure ≤ f.bs.length ∧ f.bs.length ≤ 1048576) := hfs
  have hfH : Hid (w.heap[F]? = some (.cells #[v, .int .i64 (f.sure : Int)] 77 (0, 0))) := hf
  have hdH : Hid (w.heap[Bd]? = some (.cells #[.pointer (some ⟨D, 0, none⟩)] 39 (0, 0))) := hd
  have hnH : Hid (w.heap[Bn]? = some (.cells #[.string f.nm] 9 (0, 0))) := hn
  clear h hv hfs hf hd hn
  go_enter Try.func53, Try.ntmps53
  go_upto_region 0 with fail
  refine wp_normalG ?_
  refine wp_region_held_drew (S := fun w' => KpS (TD D mb) w w' ∧ w'.cell? ⟨D, 0, none⟩ = some (.map (some mb))) (by kernel_rfl) ⟨KpS.of (Below.refl _ _).drew, by rw [(Below.refl w.heap.size w).drew.cell (by exact (Array.getElem?_eq_some_iff.1 hDw.out.row).1)]; exact hDw.out.c0⟩ (fun hS => ?_)
  change wpAnyH _ _ _ _ _ 7 (Array.replicate 7 false) _ _
  have hDy : DiskI w.drew D mb d := hDw.out.below (Below.refl _ _).drew
  have hvy : Rw 1 encB w.drew v f.bs := hvH.out.below (Below.refl _ _).drew
  generalize hx : w.drew = y at hS hDy hvy
  clear hx
  refine held_take 0 rfl (by kernel_rfl) (by kernel_rfl) (by kernel_rfl) (.pointer (some ⟨D, 0, none⟩)) (fun _ _ _ h => nomatch h.1) (by kernel_rfl) (fun w' h => (exec_load_cell 39 w' _ rfl ⟨Bd, 0, none⟩ (by kernel_rfl) _ (by rw [cell_of_row _ _ _ _ _ _ (h.1.box hDw.out hdH.out (by decide))]; rfl) (fun _ => by kernel_rfl))) hS ?_
  simp only [Act.put, fl1, fl2, fl3, fl4, fl5, fl6]
  refine held_take 1 rfl (by kernel_rfl) (by kernel_rfl) (by kernel_rfl) (.pointer (some ⟨D, 0, none⟩)) (fun _ _ _ h => nomatch h.1) (by kernel_rfl) (fun w' h => (by kernel_rfl)) hS ?_
  simp only [Act.put, fl1, fl2, fl3, fl4, fl5, fl6]
  refine held_take 2 rfl (by kernel_rfl) (by kernel_rfl) (by kernel_rfl) (.pointer (some ⟨D, 0, none⟩)) (fun _ _ _ h => nomatch h.1) (by kernel_rfl) (fun w' h => (by kernel_rfl)) hS ?_
  simp only [Act.put, fl1, fl2, fl3, fl4, fl5, fl6]
  refine held_take 3 rfl (by kernel_rfl) (by kernel_rfl) (by kernel_rfl) (.map (some mb)) (fun _ _ _ h => nomatch h.1) (by kernel_rfl) (fun w' h => (exec_load_cell 64 w' _ rfl ⟨D, 0, none⟩ (by kernel_rfl) _ h.2 (fun _ => by kernel_rfl))) hS ?_
  simp only [Act.put, fl1, fl2, fl3, fl4, fl5, fl6]
  refine held_take 4 rfl (by kernel_rfl) (by kernel_rfl) (by kernel_rfl) (.string f.nm) (fun _ _ _ h => nomatch h.1) (by kernel_rfl) (fun w' h => (exec_load_cell 9 w' _ rfl ⟨Bn, 0, none⟩ (by kernel_rfl) _ (by rw [cell_of_row _ _ _ _ _ _ (h.1.box hDw.out hnH.out (by decide))]; rfl) (fun _ => by kernel_rfl))) hS ?_
  simp only [Act.put, fl1, fl2, fl3, fl4, fl5, fl6]
  refine held_take 5 rfl (by kernel_rfl) (by kernel_rfl) (by kernel_rfl) (.agg (#[v, .int .i64 (f.sure : Int)])) (fun _ _ _ h => nomatch h.1) (by kernel_rfl) (fun w' h => (exec_load_row 77 w' _ rfl F (by kernel_rfl) 77 (#[v, .int .i64 (f.sure : Int)]) (0, 0) _ (h.1.box hDw.out hfH.out (by decide)) Try.underlying77 rfl (by kernel_rfl))) hS ?_
  simp only [Act.put, fl1, fl2, fl3, fl4, fl5, fl6]
  refine held_act 6 rfl (by kernel_rfl) (by kernel_rfl) (R := fun w' => DiskI w' D mb { d with L := DS.putL d.L f } ∧ KpS (TD D mb) y w') ?he ?_
  case he => exact exec_mapset _ _ _ rfl hDy f v hvy hfsH.out (by kernel_rfl) (by kernel_rfl) (by kernel_rfl)
  rintro y2 ⟨hD2, hK2⟩
  have hF : Hid (DiskI y2 D mb { d with L := DS.putL d.L f } ∧ KpS (TD D mb) w y2) := And.intro hD2 (hS.1.trans hK2)
  refine ⟨⟨hS.1.trans hK2, hD2.c0⟩, ?_⟩
  simp only [Act.put, fl1, fl2, fl3, fl4, fl5, fl6]
  clear hS hDy hvy hD2 hK2 hDw hvH hfsH hfH hdH hnH
  refine wpAnyH_done (by kernel_rfl) ?_ _
  refine ⟨rfl, ?_⟩
  go_wp2_with fail
  refine bodyPost_fall (v := .tuple #[]) (by kernel_rfl) (by kernel_rfl) ?_
  exact ⟨rfl, hF.out.1, hF.out.2⟩
set_option maxRecDepth 100000 in
theorem rem1_calls {w : World} {D mb : Nat} {d : DS} (h : DiskI w D mb d) (Bd Bn : Nat) (s : ByteArray) (hd : w.heap[Bd]? = some (.cells #[.pointer (some ⟨D, 0, none⟩)] 39 (0, 0))) (hn : w.heap[Bn]? = some (.cells #[.string s] 9 (0, 0))) :
    Calls Try.prog 52 #[.pointer (some ⟨Bd, 0, none⟩), .pointer (some ⟨Bn, 0, none⟩)] w fun e w2 => e = .returned (.tuple #[]) ∧ DiskI w2 D mb { d with L := DS.del d.L s } ∧ KpS (TD D mb) w w2 := by
  have hDw : Hid (DiskI w D mb d) := h
  have hdH : Hid (w.heap[Bd]? = some (.cells #[.pointer (some ⟨D, 0, none⟩)] 39 (0, 0))) := hd
  have hnH : Hid (w.heap[Bn]? = some (.cells #[.string s] 9 (0, 0))) := hn
  clear h hd hn
  go_enter Try.func52, Try.ntmps52
  go_upto_region 0 with fail
  refine wp_normalG ?_
  refine wp_region_held_drew (S := fun w' => KpS (TD D mb) w w' ∧ w'.cell? ⟨D, 0, none⟩ = some (.map (some mb))) (by kernel_rfl) ⟨KpS.of (Below.refl _ _).drew, by rw [(Below.refl w.heap.size w).drew.cell (by exact (Array.getElem?_eq_some_iff.1 hDw.out.row).1)]; exact hDw.out.c0⟩ (fun hS => ?_)
  change wpAnyH _ _ _ _ _ 6 (Array.replicate 6 false) _ _
  have hDy : DiskI w.drew D mb d := hDw.out.below (Below.refl _ _).drew
  generalize hx : w.drew = y at hS hDy
  clear hx
  refine held_take 0 rfl (by kernel_rfl) (by kernel_rfl) (by kernel_rfl) (.pointer (some ⟨D, 0, none⟩)) (fun _ _ _ h => nomatch h.1) (by kernel_rfl) (fun w' h => (exec_load_cell 39 w' _ rfl ⟨Bd, 0, none⟩ (by kernel_rfl) _ (by rw [cell_of_row _ _ _ _ _ _ (h.1.box hDw.out hdH.out (by decide))]; rfl) (fun _ => by kernel_rfl))) hS ?_
  simp only [Act.put, fl1, fl2, fl3, fl4, fl5, fl6]
  refine held_take 1 rfl (by kernel_rfl) (by kernel_rfl) (by kernel_rfl) (.pointer (some ⟨D, 0, none⟩)) (fun _ _ _ h => nomatch h.1) (by kernel_rfl) (fun w' h => (by kernel_rfl)) hS ?_
  simp only [Act.put, fl1, fl2, fl3, fl4, fl5, fl6]
  refine held_take 2 rfl (by kernel_rfl) (by kernel_rfl) (by kernel_rfl) (.pointer (some ⟨D, 0, none⟩)) (fun _ _ _ h => nomatch h.1) (by kernel_rfl) (fun w' h => (by kernel_rfl)) hS ?_
  simp only [Act.put, fl1, fl2, fl3, fl4, fl5, fl6]
  refine held_take 3 rfl (by kernel_rfl) (by kernel_rfl) (by kernel_rfl) (.map (some mb)) (fun _ _ _ h => nomatch h.1) (by kernel_rfl) (fun w' h => (exec_load_cell 64 w' _ rfl ⟨D, 0, none⟩ (by kernel_rfl) _ h.2 (fun _ => by kernel_rfl))) hS ?_
  simp only [Act.put, fl1, fl2, fl3, fl4, fl5, fl6]
  refine held_take 4 rfl (by kernel_rfl) (by kernel_rfl) (by kernel_rfl) (.string s) (fun _ _ _ h => nomatch h.1) (by kernel_rfl) (fun w' h => (exec_load_cell 9 w' _ rfl ⟨Bn, 0, none⟩ (by kernel_rfl) _ (by rw [cell_of_row _ _ _ _ _ _ (h.1.box hDw.out hnH.out (by decide))]; rfl) (fun _ => by kernel_rfl))) hS ?_
  simp only [Act.put, fl1, fl2, fl3, fl4, fl5, fl6]
  refine held_got 5 rfl (by kernel_rfl) (by kernel_rfl) (R := fun v w' => DiskI w' D mb { d with L := DS.del d.L s } ∧ KpS (TD D mb) y w') ?he ?_
  case he => exact exec_mapdel _ _ rfl hDy s (by kernel_rfl) (by kernel_rfl)
  rintro v9 y2 ⟨hD2, hK2⟩
  have hDy2 : Hid (DiskI y2 D mb { d with L := DS.del d.L s }) := hD2
  have hKy2 : Hid (KpS (TD D mb) w y2) := hS.1.trans hK2
  refine ⟨⟨hS.1.trans hK2, hD2.c0⟩, ?_⟩
  simp only [Act.put, fl1, fl2, fl3, fl4, fl5, fl6]
  clear hS hDy hD2 hK2
  refine wpAnyH_done (by kernel_rfl) ?_ _
  refine ⟨rfl, ?_⟩
  clear hDw hdH hnH
  go_wp2_with fail
  refine bodyPost_fall (v := .tuple #[]) (by kernel_rfl) (by kernel_rfl) ?_
  exact ⟨rfl, hDy2.out, hKy2.out⟩
set_option maxRecDepth 100000 in
theorem ren1_calls {w : World} {D mb : Nat} {d : DS} (h : DiskI w D mb d) (Bd Bn F Bt : Nat) (s : ByteArray) (f : FE) (v : Value) (hv : Rw 1 encB w v f.bs) (hfs : f.sure ≤ f.bs.length ∧ f.bs.length ≤ 1048576) (hf : w.heap[F]? = some (.cells #[v, .int .i64 (f.sure : Int)] 77 (0, 0))) (hd : w.heap[Bd]? = some (.cells #[.pointer (some ⟨D, 0, none⟩)] 39 (0, 0))) (hn : w.heap[Bn]? = some (.cells #[.string s] 9 (0, 0))) (ht : w.heap[Bt]? = some (.cells #[.string f.nm] 9 (0, 0))) :
    Calls Try.prog 57 #[.pointer (some ⟨Bd, 0, none⟩), .pointer (some ⟨Bn, 0, none⟩), .pointer (some ⟨F, 0, none⟩), .pointer (some ⟨Bt, 0, none⟩)] w fun e w2 => e = .returned (.tuple #[]) ∧ DiskI w2 D mb { d with L := DS.putL (DS.del d.L s) f } ∧ KpS (TD D mb) w w2 := by
  have hDw : Hid (DiskI w D mb d) := h
  have hvH : Hid (Rw 1 encB w v f.bs) := hv
  have hfsH : Hid (f.sure ≤ f.bs.length ∧ f.bs.length ≤ 1048576) := hfs
  have hfH : Hid (w.heap[F]? = some (.cells #[v, .int .i64 (f.sure : Int)] 77 (0, 0))) := hf
  have hdH : Hid (w.heap[Bd]? = some (.cells #[.pointer (some ⟨D, 0, none⟩)] 39 (0, 0))) := hd
  have hnH : Hid (w.heap[Bn]? = some (.cells #[.string s] 9 (0, 0))) := hn
  have htH : Hid (w.heap[Bt]? = some (.cells #[.string f.nm] 9 (0, 0))) := ht
  clear h hv hfs hf hd hn ht
  go_enter Try.func57, Try.ntmps57
  go_upto_region 0 with fail
  refine wp_normalG ?_
  refine wp_region_held_drew (S := fun w' => KpS (TD D mb) w w' ∧ w'.cell? ⟨D, 0, none⟩ = some (.map (some mb))) (by kernel_rfl) ⟨KpS.of (Below.refl _ _).drew, by rw [(Below.refl w.heap.size w).drew.cell (by exact (Array.getElem?_eq_some_iff.1 hDw.out.row).1)]; exact hDw.out.c0⟩ (fun hS => ?_)
  change wpAnyH _ _ _ _ _ 6 (Array.replicate 6 false) _ _
  have hDy : DiskI w.drew D mb d := hDw.out.below (Below.refl _ _).drew
  generalize hx : w.drew = y at hS hDy
  clear hx
  refine held_take 0 rfl (by kernel_rfl) (by kernel_rfl) (by kernel_rfl) (.pointer (some ⟨D, 0, none⟩)) (fun _ _ _ h => nomatch h.1) (by kernel_rfl) (fun w' h => (exec_load_cell 39 w' _ rfl ⟨Bd, 0, none⟩ (by kernel_rfl) _ (by rw [cell_of_row _ _ _ _ _ _ (h.1.box hDw.out hdH.out (by decide))]; rfl) (fun _ => by kernel_rfl))) hS ?_
  simp only [Act.put, fl1, fl2, fl3, fl4, fl5, fl6]
  refine held_take 1 rfl (by kernel_rfl) (by kernel_rfl) (by kernel_rfl) (.pointer (some ⟨D, 0, none⟩)) (fun _ _ _ h => nomatch h.1) (by kernel_rfl) (fun w' h => (by kernel_rfl)) hS ?_
  simp only [Act.put, fl1, fl2, fl3, fl4, fl5, fl6]
  refine held_take 2 rfl (by kernel_rfl) (by kernel_rfl) (by kernel_rfl) (.pointer (some ⟨D, 0, none⟩)) (fun _ _ _ h => nomatch h.1) (by kernel_rfl) (fun w' h => (by kernel_rfl)) hS ?_
  simp only [Act.put, fl1, fl2, fl3, fl4, fl5, fl6]
  refine held_take 3 rfl (by kernel_rfl) (by kernel_rfl) (by kernel_rfl) (.map (some mb)) (fun _ _ _ h => nomatch h.1) (by kernel_rfl) (fun w' h => (exec_load_cell 64 w' _ rfl ⟨D, 0, none⟩ (by kernel_rfl) _ h.2 (fun _ => by kernel_rfl))) hS ?_
  simp only [Act.put, fl1, fl2, fl3, fl4, fl5, fl6]
  refine held_take 4 rfl (by kernel_rfl) (by kernel_rfl) (by kernel_rfl) (.string s) (fun _ _ _ h => nomatch h.1) (by kernel_rfl) (fun w' h => (exec_load_cell 9 w' _ rfl ⟨Bn, 0, none⟩ (by kernel_rfl) _ (by rw [cell_of_row _ _ _ _ _ _ (h.1.box hDw.out hnH.out (by decide))]; rfl) (fun _ => by kernel_rfl))) hS ?_
  simp only [Act.put, fl1, fl2, fl3, fl4, fl5, fl6]
  refine held_got 5 rfl (by kernel_rfl) (by kernel_rfl) (R := fun v w' => DiskI w' D mb { d with L := DS.del d.L s } ∧ KpS (TD D mb) y w') ?he ?_
  case he => exact exec_mapdel _ _ rfl hDy s (by kernel_rfl) (by kernel_rfl)
  rintro v9 y2 ⟨hD2, hK2⟩
  have hDy2 : Hid (DiskI y2 D mb { d with L := DS.del d.L s }) := hD2
  have hKy2 : Hid (KpS (TD D mb) w y2) := hS.1.trans hK2
  refine ⟨⟨hS.1.trans hK2, hD2.c0⟩, ?_⟩
  simp only [Act.put, fl1, fl2, fl3, fl4, fl5, fl6]
  clear hS hDy hD2 hK2
  refine wpAnyH_done (by kernel_rfl) ?_ _
  refine ⟨rfl, ?_⟩
  rename_i hK
  refine hK _ _ ?_
  clear hK
  have hd2 : Hid (y2.heap[Bd]? = some (.cells #[.pointer (some ⟨D, 0, none⟩)] 39 (0, 0))) := hKy2.out.box hDw.out hdH.out (by decide)
  have hf2 : Hid (y2.heap[F]? = some (.cells #[v, .int .i64 (f.sure : Int)] 77 (0, 0))) := hKy2.out.box hDw.out hfH.out (by decide)
  have ht2 : Hid (y2.heap[Bt]? = some (.cells #[.string f.nm] 9 (0, 0))) := hKy2.out.box hDw.out htH.out (by decide)
  have hv2 : Hid (Rw 1 encB y2 v f.bs) := rw_kpS hDw.out hvH.out hKy2.out
  clear hDw hvH hfH hdH hnH htH
  go_upto_region 1 with fail
  refine wp_normalG ?_
  refine wp_region_held_drew (S := fun w' => KpS (TD D mb) y2 w' ∧ w'.cell? ⟨D, 0, none⟩ = some (.map (some mb))) (by kernel_rfl) ⟨KpS.of (Below.refl _ _).drew, by rw [(Below.refl y2.heap.size y2).drew.cell (by exact (Array.getElem?_eq_some_iff.1 hDy2.out.row).1)]; exact hDy2.out.c0⟩ (fun hS => ?_)
  change wpAnyH _ _ _ _ _ 7 (Array.replicate 7 false) _ _
  have hDy : DiskI y2.drew D mb { d with L := DS.del d.L s } := hDy2.out.below (Below.refl _ _).drew
  have hvy : Rw 1 encB y2.drew v f.bs := hv2.out.below (Below.refl _ _).drew
  generalize hx : y2.drew = y at hS hDy hvy
  clear hx
  refine held_take 0 rfl (by kernel_rfl) (by kernel_rfl) (by kernel_rfl) (.pointer (some ⟨D, 0, none⟩)) (fun _ _ _ h => nomatch h.1) (by kernel_rfl) (fun w' h => (exec_load_cell 39 w' _ rfl ⟨Bd, 0, none⟩ (by kernel_rfl) _ (by rw [cell_of_row _ _ _ _ _ _ (h.1.box hDy2.out hd2.out (by decide))]; rfl) (fun _ => by kernel_rfl))) hS ?_
  simp only [Act.put, fl1, fl2, fl3, fl4, fl5, fl6]
  refine held_take 1 rfl (by kernel_rfl) (by kernel_rfl) (by kernel_rfl) (.pointer (some ⟨D, 0, none⟩)) (fun _ _ _ h => nomatch h.1) (by kernel_rfl) (fun w' h => (by kernel_rfl)) hS ?_
  simp only [Act.put, fl1, fl2, fl3, fl4, fl5, fl6]
  refine held_take 2 rfl (by kernel_rfl) (by kernel_rfl) (by kernel_rfl) (.pointer (some ⟨D, 0, none⟩)) (fun _ _ _ h => nomatch h.1) (by kernel_rfl) (fun w' h => (by kernel_rfl)) hS ?_
  simp only [Act.put, fl1, fl2, fl3, fl4, fl5, fl6]
  refine held_take 3 rfl (by kernel_rfl) (by kernel_rfl) (by kernel_rfl) (.map (some mb)) (fun _ _ _ h => nomatch h.1) (by kernel_rfl) (fun w' h => (exec_load_cell 64 w' _ rfl ⟨D, 0, none⟩ (by kernel_rfl) _ h.2 (fun _ => by kernel_rfl))) hS ?_
  simp only [Act.put, fl1, fl2, fl3, fl4, fl5, fl6]
  refine held_take 4 rfl (by kernel_rfl) (by kernel_rfl) (by kernel_rfl) (.string f.nm) (fun _ _ _ h => nomatch h.1) (by kernel_rfl) (fun w' h => (exec_load_cell 9 w' _ rfl ⟨Bt, 0, none⟩ (by kernel_rfl) _ (by rw [cell_of_row _ _ _ _ _ _ (h.1.box hDy2.out ht2.out (by decide))]; rfl) (fun _ => by kernel_rfl))) hS ?_
  simp only [Act.put, fl1, fl2, fl3, fl4, fl5, fl6]
  refine held_take 5 rfl (by kernel_rfl) (by kernel_rfl) (by kernel_rfl) (.agg (#[v, .int .i64 (f.sure : Int)])) (fun _ _ _ h => nomatch h.1) (by kernel_rfl) (fun w' h => (exec_load_row 77 w' _ rfl F (by kernel_rfl) 77 (#[v, .int .i64 (f.sure : Int)]) (0, 0) _ (h.1.box hDy2.out hf2.out (by decide)) Try.underlying77 rfl (by kernel_rfl))) hS ?_
  simp only [Act.put, fl1, fl2, fl3, fl4, fl5, fl6]
  refine held_act 6 rfl (by kernel_rfl) (by kernel_rfl) (R := fun w' => DiskI w' D mb { d with L := DS.putL (DS.del d.L s) f } ∧ KpS (TD D mb) y w') ?he ?_
  case he => exact exec_mapset _ _ _ rfl hDy f v hvy hfsH.out (by kernel_rfl) (by kernel_rfl) (by kernel_rfl)
  rintro y3 ⟨hD2, hK2⟩
  have hF : Hid (DiskI y3 D mb { d with L := DS.putL (DS.del d.L s) f } ∧ KpS (TD D mb) w y3) := And.intro hD2 (hKy2.out.trans (hS.1.trans hK2))
  refine ⟨⟨hS.1.trans hK2, hD2.c0⟩, ?_⟩
  simp only [Act.put, fl1, fl2, fl3, fl4, fl5, fl6]
  clear hS hDy hvy hD2 hK2 hDy2 hKy2 hv2 hfsH hf2 hd2 ht2
  refine wpAnyH_done (by kernel_rfl) ?_ _
  refine ⟨rfl, ?_⟩
  go_wp2_with fail
  refine bodyPost_fall (v := .tuple #[]) (by kernel_rfl) (by kernel_rfl) ?_
  exact ⟨rfl, hF.out.1, hF.out.2⟩
end Go.Proofs.Ytdkaaieenbmihaa
namespace Go.Proofs.Ytdkaaieenbmihaa
open Go.RowKit
/-- What a method keeps at hand: the disk, and what of the world at the call. -/
theorem size_al (w : World) (o : Obj) : (w.alloc o).heap.size = w.heap.size + 1 := by
  show (w.heap.push o).size = _
  exact Array.size_push ..
theorem heap_at (w : World) (o : Obj) (n : Nat) (h : n = w.heap.size) : (w.alloc o).heap[n]? = some o := by subst h; exact heap_alloc_new _ _
theorem err_ne {er : Nat} (h : er ≠ 0) : ((er : Int) != 0) = true := by rw [bne_iff_ne]; omega
theorem findS_ok {d : DS} {s : ByteArray} {bs : List Nat} {su : Nat} (h : d.findS s = (bs, su, 0)) : d.off = false ∧ ∃ f, d.get s = some f ∧ f.bs = bs ∧ f.sure = su ∧ f ∈ d.L ∧ f.nm = s := by
  unfold DS.findS at h
  cases ho : d.off with
  | true => rw [if_pos ho] at h; injection h with h h2; injection h2 with h2 h3; cases h3
  | false =>
    rw [if_neg (by rw [ho]; decide)] at h
    refine ⟨rfl, ?_⟩
    cases hg : d.get s with
    | none => rw [hg] at h; injection h with h h2; injection h2 with h2 h3; cases h3
    | some f =>
      rw [hg] at h
      injection h with h h2
      injection h2 with h2 h3
      have hm := List.mem_of_find?_eq_some hg
      have hn := List.find?_some hg
      simp at hn
      exact ⟨f, rfl, h, h2, hm, hn⟩
theorem findS_bad {d : DS} {s : ByteArray} {bs : List Nat} {su er : Nat} (h : d.findS s = (bs, su, er)) (he : er ≠ 0) : bs = [] ∧ su = 0 ∧ (d.off = true ∧ er = 20 ∨ d.off = false ∧ d.get s = none ∧ er = 4) := by
  unfold DS.findS at h
  cases ho : d.off with
  | true => rw [if_pos ho] at h; injection h with h h2; injection h2 with h2 h3; exact ⟨h.symm, h2.symm, .inl ⟨rfl, h3.symm⟩⟩
  | false =>
    rw [if_neg (by rw [ho]; decide)] at h
    cases hg : d.get s with
    | none => rw [hg] at h; injection h with h h2; injection h2 with h2 h3; exact ⟨h.symm, h2.symm, .inr ⟨rfl, rfl, h3.symm⟩⟩
    | some f => rw [hg] at h; injection h with h h2; injection h2 with h2 h3; exact absurd h3.symm he
set_option maxRecDepth 100000 in
theorem Remove_calls {w : World} {D mb : Nat} {d : DS} (h : DiskI w D mb d) (s : ByteArray) : Calls Try.prog 34 #[.pointer (some ⟨D, 0, none⟩), .string s] w fun e w' => e = .returned (.int .i64 ((d.rem s).2 : Int)) ∧ DiskI w' D mb (d.rem s).1 ∧ KpS (TD D mb) w w' := by
  have hDw : Hid (DiskI w D mb d) := h
  obtain ⟨d1, ee, hd1⟩ : ∃ p q, d.rem s = (p, q) := ⟨_, _, rfl⟩
  rw [hd1]
  have hd1H : Hid (d.rem s = (d1, ee)) := hd1
  obtain ⟨bs, su, er, hf⟩ : ∃ p q r, d.findS s = (p, q, r) := ⟨_, _, _, rfl⟩
  have hfS : Hid (d.findS s = (bs, su, er)) := hf
  clear h hd1 hf
  go_enter Try.func34, Try.ntmps34
  go_upto_region 1 with fail
  have h0Bd : ((w.alloc (.cells #[.pointer (some ⟨D, 0, none⟩)] 39)).alloc (.cells #[.string s] 9)).heap[w.heap.size]? = some (.cells #[.pointer (some ⟨D, 0, none⟩)] 39 (0, 0)) := (heap_kept (heap_at w _ w.heap.size rfl) ((Below.refl _ _).alloc (Nat.le_refl _) _))
  have h0Bn : ((w.alloc (.cells #[.pointer (some ⟨D, 0, none⟩)] 39)).alloc (.cells #[.string s] 9)).heap[(w.heap.size + 1)]? = some (.cells #[.string s] 9 (0, 0)) := (heap_at (w.alloc (.cells #[.pointer (some ⟨D, 0, none⟩)] 39)) _ (w.heap.size + 1) (by rw [size_al]))
  have hB0 : Below w.heap.size w ((w.alloc (.cells #[.pointer (some ⟨D, 0, none⟩)] 39)).alloc (.cells #[.string s] 9)) := (((Below.refl _ _).alloc (by exact Nat.le_refl _) _).alloc (by rw [size_al]; omega) _)
  generalize ((w.alloc (.cells #[.pointer (some ⟨D, 0, none⟩)] 39)).alloc (.cells #[.string s] 9)) = W at hB0 h0Bd h0Bn ⊢
  obtain ⟨Bd, hBd⟩ : ∃ B, B = w.heap.size := ⟨_, rfl⟩
  obtain ⟨Bn, hBn⟩ : ∃ B, B = (w.heap.size + 1) := ⟨_, rfl⟩
  rw [← hBn] at h0Bn ⊢
  rw [← hBd] at h0Bd ⊢
  have hBdW : Hid (W.heap[Bd]? = some (.cells #[.pointer (some ⟨D, 0, none⟩)] 39 (0, 0))) := h0Bd
  have hBnW : Hid (W.heap[Bn]? = some (.cells #[.string s] 9 (0, 0))) := h0Bn
  have hBW : Hid (Below w.heap.size w W) := hB0
  clear hB0 h0Bd h0Bn hBd hBn
  have hDW : Hid (DiskI W D mb d) := hDw.out.below hBW.out
  clear hDw
  refine wp_region_lit ?_
  refine sl_run rfl (.pointer (some ⟨D, 0, none⟩)) W (exec_load_cell 39 W _ rfl ⟨Bd, 0, none⟩ (by kernel_rfl) _ (by rw [cell_of_row _ _ _ _ _ _ hBdW.out]; rfl) (fun _ => by kernel_rfl)) ?_
  simp only [Act.put, fl1, fl2, fl3]
  refine sl_run rfl (.string s) W (exec_load_cell 9 W _ rfl ⟨Bn, 0, none⟩ (by kernel_rfl) _ (by rw [cell_of_row _ _ _ _ _ _ hBnW.out]; rfl) (fun _ => by kernel_rfl)) ?_
  simp only [Act.put, fl1, fl2, fl3]
  refine sg_call (by kernel_rfl) 46 #[.pointer (some ⟨D, 0, none⟩), .string s] (by kernel_rfl) (R := fun u w' => ∃ v, u = .tuple #[.agg #[v, .int .i64 (su : Int)], .int .i64 (er : Int)] ∧ Rw 1 encB w' v bs ∧ Below W.heap.size W w') ((find_calls hDW.out s).mono fun e w' h => by
    obtain ⟨v, h1, h2, h3⟩ := h
    rw [hfS.out] at h1 h2
    exact ⟨_, h1, v, rfl, h2, h3⟩) ?_
  rintro _ W2 ⟨v, rfl, hr, hb⟩
  obtain ⟨A, c, rfl⟩ := hr.form
  have hrW2 : Hid (Rw 1 encB W2 (.slice A bs.length c) bs) := hr
  clear hr
  simp only [Act.put, fl1, fl2, fl3]
  have hDW2 : Hid (DiskI W2 D mb d) := (hDW.out).below hb
  have hBW2 : Hid (Below w.heap.size w W2) := (hBW.out).trans ((hb).mono (hBW.out).size)
  have hBdW2 : Hid (W2.heap[Bd]? = some (.cells #[.pointer (some ⟨D, 0, none⟩)] 39 (0, 0))) := heap_kept hBdW.out hb
  have hBnW2 : Hid (W2.heap[Bn]? = some (.cells #[.string s] 9 (0, 0))) := heap_kept hBnW.out hb
  clear hDW hBW hBdW hBnW
  clear hb
  refine sl_run rfl (.tuple #[.agg #[.slice A bs.length c, .int .i64 (su : Int)], .int .i64 (er : Int)]) W2 (by kernel_rfl) ?_
  simp only [Act.put, fl1, fl2, fl3]
  refine sl_run rfl (.agg #[.slice A bs.length c, .int .i64 (su : Int)]) W2 (by kernel_rfl) ?_
  simp only [Act.put, fl1, fl2, fl3]
  refine sl_run rfl (.int .i64 (er : Int)) W2 (by kernel_rfl) ?_
  simp only [Act.put, fl1, fl2, fl3]
  refine sg_run (by kernel_rfl) (.pointer (some ⟨W2.heap.size, 0, none⟩)) (W2.alloc (.cells #[.slice none 0 0, .int .i64 0] 77)) (by kernel_rfl) ?_
  simp only [Act.put, fl1, fl2, fl3]
  refine sl_skipped (by kernel_rfl) ((W2.alloc (.cells #[.slice none 0 0, .int .i64 0] 77)).setRow W2.heap.size #[.slice A bs.length c, .int .i64 (su : Int)]) ?he ?_
  case he => exact exec_store_f _ _ rfl W2.heap.size (by kernel_rfl) (.slice A bs.length c) (su : Int) rfl (by kernel_rfl) #[.slice none 0 0, .int .i64 0] (heap_alloc_new _ _) rfl
  simp only [Act.put, fl1, fl2, fl3]
  have hb : Below W2.heap.size W2 ((W2.alloc (.cells #[.slice none 0 0, .int .i64 0] 77)).setRow W2.heap.size #[.slice A bs.length c, .int .i64 (su : Int)]) := below_setRow ((Below.refl _ _).alloc (Nat.le_refl _) _) (Nat.le_refl _) _
  have hf0 : ((W2.alloc (.cells #[.slice none 0 0, .int .i64 0] 77)).setRow W2.heap.size #[.slice A bs.length c, .int .i64 (su : Int)]).heap[W2.heap.size]? = some (.cells #[.slice A bs.length c, .int .i64 (su : Int)] 77 (0, 0)) := setRow_heap _ _ #[.slice none 0 0, .int .i64 0] _ 77 (0, 0) (heap_alloc_new _ _)
  generalize ((W2.alloc (.cells #[.slice none 0 0, .int .i64 0] 77)).setRow W2.heap.size #[.slice A bs.length c, .int .i64 (su : Int)]) = W3 at hb hf0 ⊢
  have hle0 : w.heap.size ≤ W2.heap.size := hBW2.out.size
  obtain ⟨F, hFe⟩ : ∃ F, F = W2.heap.size := ⟨_, rfl⟩
  have hDW3 : Hid (DiskI W3 D mb d) := (hDW2.out).below hb
  have hBW3 : Hid (Below w.heap.size w W3) := (hBW2.out).trans ((hb).mono (hBW2.out).size)
  have hBdW3 : Hid (W3.heap[Bd]? = some (.cells #[.pointer (some ⟨D, 0, none⟩)] 39 (0, 0))) := heap_kept hBdW2.out hb
  have hBnW3 : Hid (W3.heap[Bn]? = some (.cells #[.string s] 9 (0, 0))) := heap_kept hBnW2.out hb
  have hrW3 : Hid (Rw 1 encB W3 (.slice A bs.length c) bs) := (hrW2.out).below hb
  clear hDW2 hBW2 hBdW2 hBnW2 hrW2
  rw [← hFe] at hf0 hle0 ⊢
  have hFW3 : Hid (W3.heap[F]? = some (.cells #[.slice A bs.length c, .int .i64 (su : Int)] 77 (0, 0))) := hf0
  have hFle : Hid (w.heap.size ≤ F) := hle0
  clear hb hf0 hle0 hFe
  refine sl_run rfl (.int .i64 (er : Int)) W3 (by kernel_rfl) ?_
  simp only [Act.put, fl1, fl2, fl3]
  refine wpList_nil ?_
  by_cases he : er = 0
  case neg =>
    have hI : ((er : Int) != 0) = true := err_ne he
    have hI2 : ¬ (er : Int) = 0 := by omega
    have hF : Hid (d1 = d ∧ ee = er) := by
      obtain ⟨_, _, hb⟩ := findS_bad hfS.out he
      have h8 := hd1H.out
      unfold DS.rem at h8
      rcases hb with ⟨h9, e9⟩ | ⟨h9, h7, e9⟩
      · rw [if_pos h9] at h8
        injection h8 with h8 h7
        exact And.intro h8.symm (h7.symm.trans e9.symm)
      · rw [if_neg (by rw [h9]; decide), h7] at h8
        injection h8 with h8 h7
        exact And.intro h8.symm (h7.symm.trans e9.symm)
    obtain ⟨rfl, rfl⟩ := hF.out
    have hE : Hid (DiskI W3 D mb d1 ∧ KpS (TD D mb) w W3) := And.intro hDW3.out (KpS.of hBW3.out)
    clear hF hfS hd1H he
    clear hDW3 hBW3 hBdW3 hBnW3 hrW3 hFW3
    go_wp2_with fail
    go_ret
    exact ⟨rfl, hE.out.1, hE.out.2⟩
  case pos =>
  subst he
  obtain ⟨hoff, f0, hget, hfb, hfs, hmem, hfn⟩ := findS_ok hfS.out
  have hgetH : Hid (d.get s = some f0) := hget
  have hoffH : Hid (d.off = false) := hoff
  have hfineH : Hid (f0.sure ≤ f0.bs.length ∧ f0.bs.length ≤ 1048576) := hDW3.out.fine f0 hmem
  have hfnH : Hid (f0.nm = s) := hfn
  have hsuH : Hid (f0.sure = su) := hfs
  subst hfb
  have hspec := hd1H.out
  unfold DS.rem at hspec
  rw [if_neg (by rw [hoff]; decide), hget] at hspec
  dsimp only at hspec
  clear hd1H hfS hget hoff hfn hfs hmem
  go_upto_region 4 with fail
  refine wp_region_lit ?_
  refine sl_run rfl (.pointer (some ⟨D, 0, none⟩)) W3 (exec_load_cell 39 W3 _ rfl ⟨Bd, 0, none⟩ (by kernel_rfl) _ (by rw [cell_of_row _ _ _ _ _ _ hBdW3.out]; rfl) (fun _ => by kernel_rfl)) ?_
  simp only [Act.put, fl1, fl2, fl3]
  refine sl_run rfl (.func (.func 52) #[] #[.pointer (some ⟨Bd, 0, none⟩), .pointer (some ⟨Bn, 0, none⟩)]) W3 (by kernel_rfl) ?_
  simp only [Act.put, fl1, fl2, fl3]
  refine sg_call (by kernel_rfl) 51 #[.pointer (some ⟨D, 0, none⟩), .func (.func 52) #[] #[.pointer (some ⟨Bd, 0, none⟩), .pointer (some ⟨Bn, 0, none⟩)]] (by kernel_rfl) (R := fun u w' => u = .int .i64 (ee : Int) ∧ DiskI w' D mb d1 ∧ KpS (TD D mb) W3 w') ?hc ?_
  case hc =>
    refine (one_calls hDW3.out 52 #[.pointer (some ⟨Bd, 0, none⟩), .pointer (some ⟨Bn, 0, none⟩)] (fun w => by kernel_rfl) (fun L => DS.del L s) fun w' hk hD => rem1_calls hD Bd Bn s (hk.box hDW3.out hBdW3.out (by decide)) (hk.box hDW3.out hBnW3.out (by decide))).mono fun e w' h => ?_
    rw [hspec] at h
    exact ⟨_, h.1, rfl, h.2⟩
  rintro _ W4 ⟨rfl, hD4, hK4⟩
  simp only [Act.put, fl1, fl2, fl3]
  have hE : Hid (DiskI W4 D mb d1 ∧ KpS (TD D mb) w W4) := And.intro hD4 ((KpS.of hBW3.out).trans hK4)
  clear hD4 hK4
  clear hDW3 hBW3 hBdW3 hBnW3 hrW3 hFW3
  refine sl_run rfl (.int .i64 (ee : Int)) W4 (by kernel_rfl) ?_
  simp only [Act.put, fl1, fl2, fl3]
  refine wpList_nil ?_
  clear hspec hgetH hoffH hfineH hfnH hsuH
  go_wp2_with fail
  go_ret
  exact ⟨rfl, hE.out.1, hE.out.2⟩
theorem rw_setF {w : World} {F n c : Nat} {A : Option Addr} {m : Int} (hF : w.heap[F]? = some (.cells #[.slice A n c, .int .i64 m] 77 (0, 0))) {v : Value} {l : List Nat} (hr : Rw 1 encB w v l) (k : Nat) (u : Value) : Rw 1 encB (w.setCell ⟨F, k, none⟩ u) v l := by
  refine hr.kept (by simp [World.setCell]) (fun hl q hq => Below.heap_setCell w ⟨F, k, none⟩ u q (fun e => ?_))
  obtain ⟨A', c', rfl⟩ := hr.form
  obtain ⟨g, o, rfl, _, _, hel⟩ := hr.elem 0 (List.length_pos_iff.2 hl)
  have hg : g = q := by
    simp [Value.ownBlock] at hq; exact hq
  subst hg
  have hc := hel 0 (.int .u8 ((l.getD 0 default : Nat) : Int)) rfl
  have e : g = F := e
  subst e
  rw [cell_of_row _ _ _ _ _ _ hF] at hc
  simp only [Nat.zero_mul, Nat.add_zero] at hc
  match o, hc with
  | 0, hc => simp at hc
  | 1, hc => simp at hc
  | o + 2, hc => simp at hc
theorem DiskI.setF {w : World} {D mb : Nat} {d : DS} (h : DiskI w D mb d) {F n c : Nat} {A : Option Addr} {m : Int} (hF : w.heap[F]? = some (.cells #[.slice A n c, .int .i64 m] 77 (0, 0))) (k : Nat) (u : Value) : DiskI (w.setCell ⟨F, k, none⟩ u) D mb d := by
  obtain ⟨h1, ⟨L, h2, h3, h4⟩, h5, h6, h7⟩ := h
  refine ⟨(Below.heap_setCell w ⟨F, k, none⟩ u D (fun e => ?_)).trans h1, ⟨L, h2.kept (Below.heap_setCell w ⟨F, k, none⟩ u mb (fun e => ?_)), h3, fun p hp => rw_setF hF (h4 p hp) k u⟩, h5, h6, h7⟩
  · have e : D = F := e
    rw [e, hF] at h1; simp at h1
  · have e : mb = F := e
    obtain ⟨es, clock, hm⟩ := h2
    have := hm.heap
    rw [e, hF] at this; cases this
theorem below_setC {B : Nat} {a w : World} (h : Below B a w) {g : Nat} (hg : B ≤ g) (k : Nat) (u : Value) : Below B a (w.setCell ⟨g, k, none⟩ u) :=
  ⟨h.os, h.tape, h.output, by simpa [World.setCell] using h.size, fun j hj => (Below.heap_setCell w ⟨g, k, none⟩ u j (fun e => by
    have e : j = g := e
    omega)).trans (h.block j hj)⟩
theorem box_setF {w : World} {F B : Nat} {cs cs' : Array Value} {t : TypeId} (hF : w.heap[F]? = some (.cells cs 77 (0, 0))) (hB : w.heap[B]? = some (.cells cs' t (0, 0))) (ht : t ≠ 77) (k : Nat) (u : Value) : (w.setCell ⟨F, k, none⟩ u).heap[B]? = some (.cells cs' t (0, 0)) :=
  (Below.heap_setCell w ⟨F, k, none⟩ u B (fun e => by
    have e : B = F := e
    subst e
    rw [hF] at hB; simp at hB; exact ht hB.2.symm)).trans hB
set_option maxRecDepth 100000 in
theorem Sync_calls {w : World} {D mb : Nat} {d : DS} (h : DiskI w D mb d) (s : ByteArray) : Calls Try.prog 36 #[.pointer (some ⟨D, 0, none⟩), .string s] w fun e w' => e = .returned (.int .i64 ((d.sync s).2 : Int)) ∧ DiskI w' D mb (d.sync s).1 ∧ KpS (TD D mb) w w' := by
  have hDw : Hid (DiskI w D mb d) := h
  obtain ⟨d1, ee, hd1⟩ : ∃ p q, d.sync s = (p, q) := ⟨_, _, rfl⟩
  rw [hd1]
  have hd1H : Hid (d.sync s = (d1, ee)) := hd1
  obtain ⟨bs, su, er, hf⟩ : ∃ p q r, d.findS s = (p, q, r) := ⟨_, _, _, rfl⟩
  have hfS : Hid (d.findS s = (bs, su, er)) := hf
  clear h hd1 hf
  go_enter Try.func36, Try.ntmps36
  go_upto_region 1 with fail
  have h0Bd : ((w.alloc (.cells #[.pointer (some ⟨D, 0, none⟩)] 39)).alloc (.cells #[.string s] 9)).heap[w.heap.size]? = some (.cells #[.pointer (some ⟨D, 0, none⟩)] 39 (0, 0)) := (heap_kept (heap_at w _ w.heap.size rfl) ((Below.refl _ _).alloc (Nat.le_refl _) _))
  have h0Bn : ((w.alloc (.cells #[.pointer (some ⟨D, 0, none⟩)] 39)).alloc (.cells #[.string s] 9)).heap[(w.heap.size + 1)]? = some (.cells #[.string s] 9 (0, 0)) := (heap_at (w.alloc (.cells #[.pointer (some ⟨D, 0, none⟩)] 39)) _ (w.heap.size + 1) (by rw [size_al]))
  have hB0 : Below w.heap.size w ((w.alloc (.cells #[.pointer (some ⟨D, 0, none⟩)] 39)).alloc (.cells #[.string s] 9)) := (((Below.refl _ _).alloc (by exact Nat.le_refl _) _).alloc (by rw [size_al]; omega) _)
  generalize ((w.alloc (.cells #[.pointer (some ⟨D, 0, none⟩)] 39)).alloc (.cells #[.string s] 9)) = W at hB0 h0Bd h0Bn ⊢
  obtain ⟨Bd, hBd⟩ : ∃ B, B = w.heap.size := ⟨_, rfl⟩
  obtain ⟨Bn, hBn⟩ : ∃ B, B = (w.heap.size + 1) := ⟨_, rfl⟩
  rw [← hBn] at h0Bn ⊢
  rw [← hBd] at h0Bd ⊢
  have hBdW : Hid (W.heap[Bd]? = some (.cells #[.pointer (some ⟨D, 0, none⟩)] 39 (0, 0))) := h0Bd
  have hBnW : Hid (W.heap[Bn]? = some (.cells #[.string s] 9 (0, 0))) := h0Bn
  have hBW : Hid (Below w.heap.size w W) := hB0
  clear hB0 h0Bd h0Bn hBd hBn
  have hDW : Hid (DiskI W D mb d) := hDw.out.below hBW.out
  clear hDw
  refine wp_region_lit ?_
  refine sl_run rfl (.pointer (some ⟨D, 0, none⟩)) W (exec_load_cell 39 W _ rfl ⟨Bd, 0, none⟩ (by kernel_rfl) _ (by rw [cell_of_row _ _ _ _ _ _ hBdW.out]; rfl) (fun _ => by kernel_rfl)) ?_
  simp only [Act.put, fl1, fl2, fl3]
  refine sl_run rfl (.string s) W (exec_load_cell 9 W _ rfl ⟨Bn, 0, none⟩ (by kernel_rfl) _ (by rw [cell_of_row _ _ _ _ _ _ hBnW.out]; rfl) (fun _ => by kernel_rfl)) ?_
  simp only [Act.put, fl1, fl2, fl3]
  refine sg_call (by kernel_rfl) 46 #[.pointer (some ⟨D, 0, none⟩), .string s] (by kernel_rfl) (R := fun u w' => ∃ v, u = .tuple #[.agg #[v, .int .i64 (su : Int)], .int .i64 (er : Int)] ∧ Rw 1 encB w' v bs ∧ Below W.heap.size W w') ((find_calls hDW.out s).mono fun e w' h => by
    obtain ⟨v, h1, h2, h3⟩ := h
    rw [hfS.out] at h1 h2
    exact ⟨_, h1, v, rfl, h2, h3⟩) ?_
  rintro _ W2 ⟨v, rfl, hr, hb⟩
  obtain ⟨A, c, rfl⟩ := hr.form
  have hrW2 : Hid (Rw 1 encB W2 (.slice A bs.length c) bs) := hr
  clear hr
  simp only [Act.put, fl1, fl2, fl3]
  have hDW2 : Hid (DiskI W2 D mb d) := (hDW.out).below hb
  have hBW2 : Hid (Below w.heap.size w W2) := (hBW.out).trans ((hb).mono (hBW.out).size)
  have hBdW2 : Hid (W2.heap[Bd]? = some (.cells #[.pointer (some ⟨D, 0, none⟩)] 39 (0, 0))) := heap_kept hBdW.out hb
  have hBnW2 : Hid (W2.heap[Bn]? = some (.cells #[.string s] 9 (0, 0))) := heap_kept hBnW.out hb
  clear hDW hBW hBdW hBnW
  clear hb
  refine sl_run rfl (.tuple #[.agg #[.slice A bs.length c, .int .i64 (su : Int)], .int .i64 (er : Int)]) W2 (by kernel_rfl) ?_
  simp only [Act.put, fl1, fl2, fl3]
  refine sl_run rfl (.agg #[.slice A bs.length c, .int .i64 (su : Int)]) W2 (by kernel_rfl) ?_
  simp only [Act.put, fl1, fl2, fl3]
  refine sl_run rfl (.int .i64 (er : Int)) W2 (by kernel_rfl) ?_
  simp only [Act.put, fl1, fl2, fl3]
  refine sg_run (by kernel_rfl) (.pointer (some ⟨W2.heap.size, 0, none⟩)) (W2.alloc (.cells #[.slice none 0 0, .int .i64 0] 77)) (by kernel_rfl) ?_
  simp only [Act.put, fl1, fl2, fl3]
  refine sl_skipped (by kernel_rfl) ((W2.alloc (.cells #[.slice none 0 0, .int .i64 0] 77)).setRow W2.heap.size #[.slice A bs.length c, .int .i64 (su : Int)]) ?he ?_
  case he => exact exec_store_f _ _ rfl W2.heap.size (by kernel_rfl) (.slice A bs.length c) (su : Int) rfl (by kernel_rfl) #[.slice none 0 0, .int .i64 0] (heap_alloc_new _ _) rfl
  simp only [Act.put, fl1, fl2, fl3]
  have hb : Below W2.heap.size W2 ((W2.alloc (.cells #[.slice none 0 0, .int .i64 0] 77)).setRow W2.heap.size #[.slice A bs.length c, .int .i64 (su : Int)]) := below_setRow ((Below.refl _ _).alloc (Nat.le_refl _) _) (Nat.le_refl _) _
  have hf0 : ((W2.alloc (.cells #[.slice none 0 0, .int .i64 0] 77)).setRow W2.heap.size #[.slice A bs.length c, .int .i64 (su : Int)]).heap[W2.heap.size]? = some (.cells #[.slice A bs.length c, .int .i64 (su : Int)] 77 (0, 0)) := setRow_heap _ _ #[.slice none 0 0, .int .i64 0] _ 77 (0, 0) (heap_alloc_new _ _)
  generalize ((W2.alloc (.cells #[.slice none 0 0, .int .i64 0] 77)).setRow W2.heap.size #[.slice A bs.length c, .int .i64 (su : Int)]) = W3 at hb hf0 ⊢
  have hle0 : w.heap.size ≤ W2.heap.size := hBW2.out.size
  obtain ⟨F, hFe⟩ : ∃ F, F = W2.heap.size := ⟨_, rfl⟩
  have hDW3 : Hid (DiskI W3 D mb d) := (hDW2.out).below hb
  have hBW3 : Hid (Below w.heap.size w W3) := (hBW2.out).trans ((hb).mono (hBW2.out).size)
  have hBdW3 : Hid (W3.heap[Bd]? = some (.cells #[.pointer (some ⟨D, 0, none⟩)] 39 (0, 0))) := heap_kept hBdW2.out hb
  have hBnW3 : Hid (W3.heap[Bn]? = some (.cells #[.string s] 9 (0, 0))) := heap_kept hBnW2.out hb
  have hrW3 : Hid (Rw 1 encB W3 (.slice A bs.length c) bs) := (hrW2.out).below hb
  clear hDW2 hBW2 hBdW2 hBnW2 hrW2
  rw [← hFe] at hf0 hle0 ⊢
  have hFW3 : Hid (W3.heap[F]? = some (.cells #[.slice A bs.length c, .int .i64 (su : Int)] 77 (0, 0))) := hf0
  have hFle : Hid (w.heap.size ≤ F) := hle0
  clear hb hf0 hle0 hFe
  refine sl_run rfl (.int .i64 (er : Int)) W3 (by kernel_rfl) ?_
  simp only [Act.put, fl1, fl2, fl3]
  refine wpList_nil ?_
  by_cases he : er = 0
  case neg =>
    have hI : ((er : Int) != 0) = true := err_ne he
    have hI2 : ¬ (er : Int) = 0 := by omega
    have hF : Hid (d1 = d ∧ ee = er) := by
      obtain ⟨_, _, hb⟩ := findS_bad hfS.out he
      have h8 := hd1H.out
      unfold DS.sync at h8
      rcases hb with ⟨h9, e9⟩ | ⟨h9, h7, e9⟩
      · rw [if_pos h9] at h8
        injection h8 with h8 h7
        exact And.intro h8.symm (h7.symm.trans e9.symm)
      · rw [if_neg (by rw [h9]; decide), h7] at h8
        injection h8 with h8 h7
        exact And.intro h8.symm (h7.symm.trans e9.symm)
    obtain ⟨rfl, rfl⟩ := hF.out
    have hE : Hid (DiskI W3 D mb d1 ∧ KpS (TD D mb) w W3) := And.intro hDW3.out (KpS.of hBW3.out)
    clear hF hfS hd1H he
    clear hDW3 hBW3 hBdW3 hBnW3 hrW3 hFW3
    go_wp2_with fail
    go_ret
    exact ⟨rfl, hE.out.1, hE.out.2⟩
  case pos =>
  subst he
  obtain ⟨hoff, f0, hget, hfb, hfs, hmem, hfn⟩ := findS_ok hfS.out
  have hgetH : Hid (d.get s = some f0) := hget
  have hoffH : Hid (d.off = false) := hoff
  have hfineH : Hid (f0.sure ≤ f0.bs.length ∧ f0.bs.length ≤ 1048576) := hDW3.out.fine f0 hmem
  have hfnH : Hid (f0.nm = s) := hfn
  have hsuH : Hid (f0.sure = su) := hfs
  subst hfb
  have hspec := hd1H.out
  unfold DS.sync at hspec
  rw [if_neg (by rw [hoff]; decide), hget] at hspec
  dsimp only at hspec
  clear hd1H hfS hget hoff hfn hfs hmem
  go_upto_region 4 with fail
  refine wp_region_lit ?_
  refine sl_run rfl (.pointer (some ⟨F, 0, none⟩)) W3 (by kernel_rfl) ?_
  simp only [Act.put, fl1, fl2, fl3]
  refine sl_run rfl (.slice A f0.bs.length c) W3 (exec_load_cell 22 W3 _ rfl ⟨F, 0, none⟩ (by kernel_rfl) _ (by rw [cell_of_row _ _ _ _ _ _ hFW3.out]; rfl) (fun _ => by kernel_rfl)) ?_
  simp only [Act.put, fl1, fl2, fl3]
  refine sl_run rfl (.int .i64 (f0.bs.length : Int)) W3 (by kernel_rfl) ?_
  simp only [Act.put, fl1, fl2, fl3]
  refine sl_run rfl (.pointer (some ⟨F, 1, none⟩)) W3 (by kernel_rfl) ?_
  simp only [Act.put, fl1, fl2, fl3]
  refine sl_skipped (by kernel_rfl) (W3.setCell ⟨F, 1, none⟩ (.int .i64 (f0.bs.length : Int))) ?he ?_
  case he => exact exec_store_cell 3 _ _ rfl F 1 (by kernel_rfl) (.int .i64 (f0.bs.length : Int)) (by kernel_rfl) (.int .i64 (su : Int)) (by rw [cell_of_row _ _ _ _ _ _ hFW3.out]; rfl) (frozen_of_row _ _ _ _ _ hFW3.out) (fun w => by kernel_rfl) rfl rfl
  simp only [Act.put, fl1, fl2, fl3]
  have hDW5 : Hid (DiskI (W3.setCell ⟨F, 1, none⟩ (.int .i64 (f0.bs.length : Int))) D mb d) := hDW3.out.setF hFW3.out 1 _
  have hBW5 : Hid (Below w.heap.size w (W3.setCell ⟨F, 1, none⟩ (.int .i64 (f0.bs.length : Int)))) := below_setC hBW3.out hFle.out 1 _
  have hrW5 : Hid (Rw 1 encB (W3.setCell ⟨F, 1, none⟩ (.int .i64 (f0.bs.length : Int))) (.slice A f0.bs.length c) f0.bs) := rw_setF hFW3.out hrW3.out 1 _
  have hFW5 : Hid ((W3.setCell ⟨F, 1, none⟩ (.int .i64 (f0.bs.length : Int))).heap[F]? = some (.cells #[.slice A f0.bs.length c, .int .i64 (f0.bs.length : Int)] 77 (0, 0))) := heap_setCell_same _ _ _ _ _ _ hFW3.out
  have hBdW5 : Hid ((W3.setCell ⟨F, 1, none⟩ (.int .i64 (f0.bs.length : Int))).heap[Bd]? = some (.cells #[.pointer (some ⟨D, 0, none⟩)] 39 (0, 0))) := box_setF hFW3.out hBdW3.out (by decide) 1 _
  have hBnW5 : Hid ((W3.setCell ⟨F, 1, none⟩ (.int .i64 (f0.bs.length : Int))).heap[Bn]? = some (.cells #[.string s] 9 (0, 0))) := box_setF hFW3.out hBnW3.out (by decide) 1 _
  generalize (W3.setCell ⟨F, 1, none⟩ (.int .i64 (f0.bs.length : Int))) = W5 at hDW5 hBW5 hrW5 hFW5 hBdW5 hBnW5 ⊢
  clear hDW3 hBW3 hBdW3 hBnW3 hrW3 hFW3
  refine wpList_nil ?_
  go_upto_region 5 with fail
  refine wp_region_lit ?_
  refine sl_run rfl (.pointer (some ⟨D, 0, none⟩)) W5 (exec_load_cell 39 W5 _ rfl ⟨Bd, 0, none⟩ (by kernel_rfl) _ (by rw [cell_of_row _ _ _ _ _ _ hBdW5.out]; rfl) (fun _ => by kernel_rfl)) ?_
  simp only [Act.put, fl1, fl2, fl3]
  refine sl_run rfl (.func (.func 54) #[] #[.pointer (some ⟨F, 0, none⟩), .pointer (some ⟨Bd, 0, none⟩), .pointer (some ⟨Bn, 0, none⟩)]) W5 (by kernel_rfl) ?_
  simp only [Act.put, fl1, fl2, fl3]
  refine sg_call (by kernel_rfl) 51 #[.pointer (some ⟨D, 0, none⟩), .func (.func 54) #[] #[.pointer (some ⟨F, 0, none⟩), .pointer (some ⟨Bd, 0, none⟩), .pointer (some ⟨Bn, 0, none⟩)]] (by kernel_rfl) (R := fun u w' => u = .int .i64 (ee : Int) ∧ DiskI w' D mb d1 ∧ KpS (TD D mb) W5 w') ?hc ?_
  case hc =>
    refine (one_calls hDW5.out 54 #[.pointer (some ⟨F, 0, none⟩), .pointer (some ⟨Bd, 0, none⟩), .pointer (some ⟨Bn, 0, none⟩)] (fun w => by kernel_rfl) (fun L => DS.putL L ⟨s, f0.bs, f0.bs.length⟩) fun w' hk hD => sync1_calls hD F Bd Bn ⟨s, f0.bs, f0.bs.length⟩ (.slice A f0.bs.length c) (rw_kpS hDW5.out hrW5.out hk) ⟨Nat.le_refl _, hfineH.out.2⟩ (hk.box hDW5.out hFW5.out (by decide)) (hk.box hDW5.out hBdW5.out (by decide)) (hk.box hDW5.out hBnW5.out (by decide))).mono fun e w' h => ?_
    rw [hspec] at h
    exact ⟨_, h.1, rfl, h.2⟩
  rintro _ W4 ⟨rfl, hD4, hK4⟩
  simp only [Act.put, fl1, fl2, fl3]
  have hE : Hid (DiskI W4 D mb d1 ∧ KpS (TD D mb) w W4) := And.intro hD4 ((KpS.of hBW5.out).trans hK4)
  clear hD4 hK4
  clear hDW5 hBW5 hBdW5 hBnW5 hrW5 hFW5
  refine sl_run rfl (.int .i64 (ee : Int)) W4 (by kernel_rfl) ?_
  simp only [Act.put, fl1, fl2, fl3]
  refine wpList_nil ?_
  clear hspec hgetH hoffH hfineH hfnH hsuH
  go_wp2_with fail
  go_ret
  exact ⟨rfl, hE.out.1, hE.out.2⟩
end Go.Proofs.Ytdkaaieenbmihaa
