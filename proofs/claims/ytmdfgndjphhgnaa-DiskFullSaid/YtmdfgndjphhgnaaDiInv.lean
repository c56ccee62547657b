/-
  A disk in memory: its struct, its map, its files' bytes.
-/
import Derived.Test.YtmdfgndjphhgnaaDiMap
import Derived.Test.YtmdfgndjphhgnaaDiSpec
import Derived.Test.YtmdfgndjphhgnaaLists
namespace Go.Proofs.Ytmdfgndjphhgnaa
open Go.RowKit
set_option linter.unusedVariables false
set_option linter.unusedSimpArgs false
/-- A byte's cell. -/
def encB (n : Nat) : Array Value := #[.int .u8 (n : Int)]
theorem encB_size (n : Nat) : (encB n).size = 1 := rfl
theorem encB_one (n : Nat) : ∀ u ∈ (encB n).toList, u.oneCell' = true := by simp [encB, Value.oneCell']
/-- A file as the map has it. -/
def vv (p : FE × Value) : ByteArray × Value := (p.1.nm, .agg #[p.2, .int .i64 (p.1.sure : Int)])
def put2 (L : List (FE × Value)) (p : FE × Value) : List (FE × Value) := if (L.find? fun g => decide (g.1.nm = p.1.nm)).isSome then L.map (fun g => if g.1.nm = p.1.nm then p else g) else L ++ [p]
def del2 (L : List (FE × Value)) (s : ByteArray) : List (FE × Value) := L.filter fun p => !decide (p.1.nm = s)
theorem lk_vv (L : List (FE × Value)) (s : ByteArray) : lk (L.map vv) s = (L.find? fun p => decide (p.1.nm = s)).map fun p => (vv p).2 := by
  unfold lk
  rw [List.find?_map, Option.map_map]
  rfl
theorem get_fst (L : List (FE × Value)) (s : ByteArray) : (L.map (·.1)).find? (fun f => decide (f.nm = s)) = (L.find? fun p => decide (p.1.nm = s)).map (·.1) := by
  rw [List.find?_map]; rfl
theorem pt_vv (L : List (FE × Value)) (p : FE × Value) : pt (L.map vv) p.1.nm (vv p).2 = (put2 L p).map vv := by
  unfold pt put2
  rw [lk_vv]
  cases hf : L.find? (fun g => decide (g.1.nm = p.1.nm)) with
  | none => simp; rfl
  | some g =>
    simp only [Option.map_some, Option.isSome_some, if_true, List.map_map]
    refine List.map_congr_left fun x hx => ?_
    simp only [Function.comp]
    by_cases e : x.1.nm = p.1.nm
    · rw [if_pos (show (vv x).1 = p.1.nm from e), if_pos e]; rfl
    · rw [if_neg (show ¬ (vv x).1 = p.1.nm from e), if_neg e]
theorem put2_fst (L : List (FE × Value)) (p : FE × Value) : (put2 L p).map (·.1) = DS.putL (L.map (·.1)) p.1 := by
  unfold DS.putL put2
  rw [get_fst]
  cases hf : L.find? (fun g => decide (g.1.nm = p.1.nm)) with
  | none => simp
  | some g =>
    simp only [Option.map_some, Option.isSome_some, if_true, List.map_map]
    refine List.map_congr_left fun x hx => ?_
    simp only [Function.comp]
    by_cases e : x.1.nm = p.1.nm
    · rw [if_pos e, if_pos e]
    · rw [if_neg e, if_neg e]
theorem mem_put2 {L : List (FE × Value)} {p x : FE × Value} (h : x ∈ put2 L p) : x ∈ L ∨ x = p := by
  unfold put2 at h
  split at h
  · obtain ⟨y, hy, rfl⟩ := List.mem_map.1 h
    split
    · exact .inr rfl
    · exact .inl hy
  · rcases List.mem_append.1 h with h | h
    · exact .inl h
    · exact .inr (List.mem_singleton.1 h)
theorem dl_vv (L : List (FE × Value)) (s : ByteArray) : dl (L.map vv) s = (del2 L s).map vv := by
  unfold dl del2
  rw [List.filter_map]; rfl
theorem del2_fst (L : List (FE × Value)) (s : ByteArray) : (del2 L s).map (·.1) = DS.del (L.map (·.1)) s := by
  unfold DS.del del2
  rw [List.filter_map]; rfl
/-- Blocks outside S are as they were. -/
structure KpS (S : Nat → Prop) (w w' : World) : Prop where
  os : w'.os = w.os
  tape : w'.tape = w.tape
  output : w'.output = w.output
  size : w.heap.size ≤ w'.heap.size
  block : ∀ k, k < w.heap.size → ¬ S k → w'.heap[k]? = w.heap[k]?
theorem KpS.of {S : Nat → Prop} {w w' : World} (h : Below w.heap.size w w') : KpS S w w' := ⟨h.os, h.tape, h.output, h.size, fun k hk _ => h.block k hk⟩
theorem KpS.trans {S : Nat → Prop} {a b c : World} (h : KpS S a b) (k : KpS S b c) : KpS S a c :=
  ⟨k.os.trans h.os, k.tape.trans h.tape, k.output.trans h.output, Nat.le_trans h.size k.size, fun i hi hn => (k.block i (Nat.lt_of_lt_of_le hi h.size) hn).trans (h.block i hi hn)⟩
theorem KpS.only {S : Nat → Prop} {g : Nat} {w w' : World} (h : Only g w w') (hg : S g) : KpS S w w' := ⟨h.os, h.tape, h.output, Nat.le_of_eq h.size.symm, fun k hk hn => h.block k (fun e => hn (e ▸ hg))⟩
theorem KpS.setRow {S : Nat → Prop} {w w' : World} (h : KpS S w w') (g : Nat) (cs : Array Value) (hg : S g ∨ w.heap.size ≤ g) : KpS S w (w'.setRow g cs) :=
  ⟨h.os, h.tape, h.output, by rw [size_setRow]; exact h.size, fun j hj hne => by
    rw [← h.block j hj hne]
    simp only [World.setRow, Array.getElem?_modify]
    rw [if_neg (fun e => by
      subst e
      rcases hg with q | q
      · exact hne q
      · omega)]⟩
theorem KpS.set {S : Nat → Prop} {w w' : World} (h : KpS S w w') (g k : Nat) (v : Value) (hg : S g ∨ w.heap.size ≤ g) : KpS S w (w'.setCell ⟨g, k, none⟩ v) :=
  ⟨h.os, h.tape, h.output, by simpa [World.setCell] using h.size, fun j hj hne => (Below.heap_setCell w' ⟨g, k, none⟩ v j (fun e => by
    rcases hg with q | q
    · exact hne (by rw [e]; exact q)
    · have : j = g := e
      omega)).trans (h.block j hj hne)⟩
theorem KpS.bel {S : Nat → Prop} {B : Nat} {w w' : World} (h : KpS S w w') (hS : ∀ k, S k → B ≤ k) (hB : B ≤ w.heap.size) : Below B w w' :=
  ⟨h.os, h.tape, h.output, h.size, fun k hk => h.block k (by omega) (fun q => by have := hS k q; omega)⟩
theorem KpS.heap {S : Nat → Prop} {w w' : World} {g : Nat} {o : Obj} (h : KpS S w w') (hg : w.heap[g]? = some o) (hn : ¬ S g) : w'.heap[g]? = some o := (h.block g (Array.getElem?_eq_some_iff.1 hg).1 hn).trans hg
/-- What a disk's call may touch. -/
def TD (D mb : Nat) : Nat → Prop := fun q => q = D ∨ q = mb
/-- A disk in memory. -/
structure DiskI (w : World) (D mb : Nat) (d : DS) : Prop where
  row : w.heap[D]? = some (.cells #[.map (some mb), .int .i64 d.left, .bool d.off] 63 (0, 0))
  ex : ∃ L : List (FE × Value), DM w mb (L.map vv) ∧ L.map (·.1) = d.L ∧ ∀ p ∈ L, Rw 1 encB w p.2 p.1.bs
  fine : ∀ f ∈ d.L, f.sure ≤ f.bs.length ∧ f.bs.length ≤ 1048576
  left1 : -1 ≤ d.left
  left2 : d.left < 9223372036854775808
theorem DiskI.apart {w : World} {D mb : Nat} {d : DS} (h : DiskI w D mb d) {v : Value} {l : List Nat} (hr : Rw 1 encB w v l) (hl : l ≠ []) : ∀ q, v.ownBlock = some q → ¬ TD D mb q := fun q hq hs => by
  obtain ⟨A, c, rfl⟩ := hr.form
  have h0 : 0 < l.length := List.length_pos_iff.2 hl
  obtain ⟨g, o, rfl, _, _, hel⟩ := hr.elem 0 h0
  have hg : g = q := by
    simp [Value.ownBlock] at hq; exact hq
  subst hg
  have hc := hel 0 (.int .u8 ((l.getD 0 default : Nat) : Int)) rfl
  rcases hs with rfl | rfl
  · rw [cell_of_row _ _ _ _ _ _ h.row] at hc
    simp only [Nat.zero_mul, Nat.add_zero] at hc
    match o, hc with
    | 0, hc => simp at hc
    | 1, hc => simp at hc
    | 2, hc => simp at hc
    | o + 3, hc => simp at hc
  · obtain ⟨L, ⟨es, clock, hm⟩, _⟩ := h.ex
    simp [World.cell?, hm.heap] at hc
theorem DiskI.below {w w' : World} {D mb : Nat} {d : DS} (h : DiskI w D mb d) (hb : Below w.heap.size w w') : DiskI w' D mb d := by
  obtain ⟨h1, ⟨L, h2, h3, h4⟩, h5, h6, h7⟩ := h
  exact ⟨heap_kept h1 hb, ⟨L, h2.kept (hb.block mb h2.lt), h3, fun p hp => (h4 p hp).below hb⟩, h5, h6, h7⟩
theorem DiskI.ne {w : World} {D mb : Nat} {d : DS} (h : DiskI w D mb d) : D ≠ mb := fun e => by
  obtain ⟨L, ⟨es, clock, hm⟩, _⟩ := h.ex
  have := h.row
  rw [e, hm.heap] at this
  cases this
theorem rw_kpS {w w' : World} {D mb : Nat} {d : DS} (h : DiskI w D mb d) {v : Value} {l : List Nat} (hr : Rw 1 encB w v l) (hk : KpS (TD D mb) w w') : Rw 1 encB w' v l :=
  hr.kept hk.size (fun hl q hq => hk.block q (hr.lt hl q hq) (h.apart hr hl q hq))
/-- A look into the map. -/
theorem DiskI.look {w : World} {D mb : Nat} {d : DS} (h : DiskI w D mb d) (s : ByteArray) :
    (d.get s = none ∧ ∃ L, DM w mb L ∧ lk L s = none) ∨ ∃ f v, d.get s = some f ∧ f.nm = s ∧ f ∈ d.L ∧ Rw 1 encB w v f.bs ∧ ∃ L, DM w mb L ∧ lk L s = some (.agg #[v, .int .i64 (f.sure : Int)]) := by
  obtain ⟨L, h2, h3, h4⟩ := h.ex
  have hg := get_fst L s
  rw [h3] at hg
  have hl := lk_vv L s
  cases hf : L.find? (fun p => decide (p.1.nm = s)) with
  | none =>
    rw [hf] at hg hl
    exact .inl ⟨hg, _, h2, hl⟩
  | some p =>
    rw [hf] at hg hl
    have hm := List.mem_of_find?_eq_some hf
    have hn := List.find?_some hf
    simp at hn
    exact .inr ⟨p.1, p.2, hg, hn, by rw [← h3]; exact List.mem_map.2 ⟨p, hm, rfl⟩, h4 p hm, _, h2, hl⟩
theorem DiskI.len {w : World} {D mb : Nat} {d : DS} (h : DiskI w D mb d) : ∃ L, DM w mb L ∧ L.length = d.L.length := by
  obtain ⟨L, h2, h3, h4⟩ := h.ex
  exact ⟨_, h2, by rw [List.length_map, ← h3, List.length_map]⟩
section
variable {P : Program}
/-- A store into the map. -/
theorem DiskI.put {w : World} {D mb : Nat} {d : DS} (h : DiskI w D mb d) {t k e : TypeId} (ht : P.underlying t = some (.map k e)) (hk : P.underlying k = some .string) (f : FE) (v : Value) (hv : Rw 1 encB w v f.bs) (hf : f.sure ≤ f.bs.length ∧ f.bs.length ≤ 1048576) :
    ∃ w', (Instr.mapUpdate t (.map (some mb)) (.string f.nm) (.agg #[v, .int .i64 (f.sure : Int)])).run P w = .ok () w' ∧ DiskI w' D mb { d with L := DS.putL d.L f } ∧ KpS (TD D mb) w w' := by
  have hne := h.ne
  have hap : ∀ {v' : Value} {l : List Nat}, Rw 1 encB w v' l → ∀ {w'}, KpS (TD D mb) w w' → Rw 1 encB w' v' l := fun hr _ hk => rw_kpS h hr hk
  obtain ⟨h1, ⟨L, h2, h3, h4⟩, h5, h6, h7⟩ := h
  obtain ⟨w', hr, hd, ho⟩ := run_put h2 ht hk f.nm (.agg #[v, .int .i64 (f.sure : Int)])
  have hK : KpS (TD D mb) w w' := KpS.only ho (.inr rfl)
  rw [show (.agg #[v, .int .i64 (f.sure : Int)] : Value) = (vv (f, v)).2 from rfl, show f.nm = (f, v).1.nm from rfl, pt_vv] at hd
  refine ⟨w', hr, ⟨(ho.block D hne).trans h1, ⟨put2 L (f, v), hd, by rw [put2_fst, h3], fun p hp => ?_⟩, fun g hg => ?_, h6, h7⟩, hK⟩
  · rcases mem_put2 hp with hp | rfl
    · exact hap (h4 p hp) hK
    · exact hap hv hK
  · unfold DS.putL at hg
    dsimp only at hg
    split at hg
    · obtain ⟨y, hy, rfl⟩ := List.mem_map.1 hg
      split
      · exact hf
      · exact h5 y hy
    · rcases List.mem_append.1 hg with hg | hg
      · exact h5 g hg
      · rw [List.mem_singleton.1 hg]; exact hf
/-- A deletion. -/
theorem DiskI.del {w : World} {D mb : Nat} {d : DS} (h : DiskI w D mb d) {t k e : TypeId} (ht : P.underlying t = some (.map k e)) (hk : P.underlying k = some .string) (s : ByteArray) (ty u : TypeId) :
    ∃ w', (Builtin.delete_ #[t, u] ty #[.map (some mb), .string s]).run P w = .ok (.tuple #[]) w' ∧ DiskI w' D mb { d with L := DS.del d.L s } ∧ KpS (TD D mb) w w' := by
  have hne := h.ne
  have hap : ∀ {v' : Value} {l : List Nat}, Rw 1 encB w v' l → ∀ {w'}, KpS (TD D mb) w w' → Rw 1 encB w' v' l := fun hr _ hk => rw_kpS h hr hk
  obtain ⟨h1, ⟨L, h2, h3, h4⟩, h5, h6, h7⟩ := h
  obtain ⟨w', hr, hd, ho⟩ := run_del h2 ht hk s ty u
  have hK : KpS (TD D mb) w w' := KpS.only ho (.inr rfl)
  rw [dl_vv] at hd
  refine ⟨w', hr, ⟨(ho.block D hne).trans h1, ⟨del2 L s, hd, by rw [del2_fst, h3], fun p hp => hap (h4 p (List.mem_filter.1 hp).1) hK⟩, fun g hg => h5 g (List.mem_filter.1 hg).1, h6, h7⟩, hK⟩
end
/-- The struct's row written anew. -/
theorem DiskI.row2 {w : World} {D mb : Nat} {d : DS} (h : DiskI w D mb d) (left : Int) (off : Bool) (hl1 : -1 ≤ left) (hl2 : left < 9223372036854775808) : DiskI (w.setRow D #[.map (some mb), .int .i64 left, .bool off]) D mb ⟨d.L, left, off⟩ := by
  have hK : KpS (TD D mb) w (w.setRow D #[.map (some mb), .int .i64 left, .bool off]) := KpS.setRow (KpS.of (Below.refl _ _)) _ _ (.inl (.inl rfl))
  have hap : ∀ {v' : Value} {l : List Nat}, Rw 1 encB w v' l → Rw 1 encB (w.setRow D #[.map (some mb), .int .i64 left, .bool off]) v' l := fun hr => rw_kpS h hr hK
  have hne := h.ne
  obtain ⟨h1, ⟨L, h2, h3, h4⟩, h5, h6, h7⟩ := h
  exact ⟨setRow_heap _ _ _ _ _ _ h1, ⟨L, h2.kept (by simp only [World.setRow, Array.getElem?_modify]; rw [if_neg hne]), h3, fun p hp => hap (h4 p hp)⟩, h5, hl1, hl2⟩
end Go.Proofs.Ytmdfgndjphhgnaa
