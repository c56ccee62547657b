/-
  Bindings: matched and filled, there and back: the plain law.
-/
import Derived.Test.YtehgblnhhlgikaaBiLaw0
namespace Go.Proofs.Ytehgblnhhlgikaa.Bi
open Go.RowKit
set_option linter.unusedVariables false
set_option linter.unusedSimpArgs false
theorem look_more {out : List T3} {t : T3} {v : V2} (ext : List T3) (h : look out t = (v, true)) : look (out ++ ext) t = (v, true) := by
  unfold look at h ⊢
  split
  · next h0 => rw [if_pos h0] at h; exact h
  · next h0 =>
    rw [if_neg h0] at h
    rw [List.find?_append]
    cases hf : out.find? (hit t.x) with
    | some e => rw [hf] at h; simpa using h
    | none => rw [hf] at h; simp at h
theorem look_new {out : List T3} {t : T3} (v : V2) (h : (look out t).2 = false) : look (out ++ [⟨t.x, v⟩]) t = (v, true) := by
  unfold look at h ⊢
  split
  · next h0 => rw [if_pos h0] at h; cases h
  · next h0 =>
    rw [if_neg h0] at h
    rw [List.find?_append]
    cases hf : out.find? (hit t.x) with
    | some e => rw [hf] at h; cases h
    | none => simp [hit]
theorem eqV_eq {u v : V2} : eqV u v = true ↔ u = v := by
  constructor
  · intro h
    unfold eqV at h
    rw [Bool.and_eq_true, beq_iff_eq, beq_iff_eq] at h
    obtain ⟨s, n⟩ := u
    obtain ⟨s2, n2⟩ := v
    have := bytes_ext h.1
    simp only at this h
    subst this
    rw [h.2]
  · rintro rfl; exact eqV_self _
/-- Each term has its value among the bindings. -/
def fits (l : List T3) : List T3 → List V2 → Prop
  | x :: xs, v :: vs => look l x = (v, true) ∧ fits l xs vs
  | [], [] => True
  | _, _ => False
theorem goOn_fits : ∀ (args : List T3) (ts : List V2) (out l : List T3), args.length = ts.length → goOn args ts out = some l → (∃ ext, l = out ++ ext) ∧ fits l args ts
  | [], [], out, l, _, h => by
    rw [goOn] at h
    · injection h with h; subst h; exact ⟨⟨[], by simp⟩, trivial⟩
    · intro x xs v vs h1 _; cases h1
  | [], _ :: _, _, _, hl, _ => by simp at hl
  | _ :: _, [], _, _, hl, _ => by simp at hl
  | x :: xs, v :: vs, out, l, hl, h => by
    have hl' : xs.length = vs.length := by simpa using hl
    rw [goOn] at h
    by_cases h2 : (look out x).2 = true
    · rw [if_pos h2] at h
      by_cases h3 : eqV (look out x).1 v = true
      · rw [if_pos h3] at h
        obtain ⟨⟨ext, rfl⟩, hf⟩ := goOn_fits xs vs out l hl' h
        have he : look out x = (v, true) := Prod.ext (eqV_eq.1 h3) h2
        exact ⟨⟨ext, rfl⟩, look_more ext he, hf⟩
      · rw [if_neg h3] at h; cases h
    · rw [if_neg h2] at h
      obtain ⟨⟨ext, rfl⟩, hf⟩ := goOn_fits xs vs _ l hl' h
      have he := look_new v (by simpa using h2 : (look out x).2 = false)
      exact ⟨⟨[⟨x.x, v⟩] ++ ext, by simp⟩, look_more ext he, hf⟩
theorem fits_fill {l : List T3} : ∀ (args : List T3) (ts out : List V2), fits l args ts → fillOn l args out = some (out ++ ts)
  | [], [], out, _ => by rw [fillOn]; simp
  | [], _ :: _, _, h => h.elim
  | _ :: _, [], _, h => h.elim
  | x :: xs, v :: vs, out, h => by
    rw [fillOn, h.1, if_pos rfl, fits_fill xs vs _ h.2]; simp
theorem fits_goOn {l : List T3} : ∀ (args : List T3) (ts : List V2), fits l args ts → goOn args ts l = some l
  | [], [], _ => by rw [goOn]; intro x xs v vs h1 _; cases h1
  | [], _ :: _, h => h.elim
  | _ :: _, [], h => h.elim
  | x :: xs, v :: vs, h => by
    rw [goOn, h.1, if_pos rfl, if_pos (eqV_self _)]; exact fits_goOn xs vs h.2
theorem fillOn_fits {l : List T3} : ∀ (args : List T3) (out vs : List V2), fillOn l args out = some vs → ∃ ts, vs = out ++ ts ∧ fits l args ts
  | [], out, vs, h => by
    rw [fillOn] at h; injection h with h
    exact ⟨[], by simp [h], trivial⟩
  | x :: xs, out, vs, h => by
    rw [fillOn] at h
    by_cases h2 : (look l x).2 = true
    · rw [if_pos h2] at h
      obtain ⟨ts, rfl, hf⟩ := fillOn_fits xs _ vs h
      exact ⟨(look l x).1 :: ts, by simp, Prod.ext rfl h2, hf⟩
    · rw [if_neg h2] at h; cases h
theorem fits_len {l : List T3} : ∀ {args : List T3} {ts : List V2}, fits l args ts → args.length = ts.length
  | [], [], _ => rfl
  | [], _ :: _, h => h.elim
  | _ :: _, [], h => h.elim
  | x :: xs, v :: vs, h => by simp [fits_len h.2]
/-- A literal that matches: its tuple's name, and what its bindings fill it to. -/
theorem back_some {k : Nat} {p tp : ByteArray} {args b l : List T3} {ts : List V2} (h : matchS k p args tp ts b = some l) :
    p = tp ∧ args.length = ts.length ∧ fillS k args l = some ts ∧ matchS k p args tp ts l = some l ∧ (∃ ext, l = b ++ ext) ∧ l.length ≤ b.length + args.length := by
  unfold matchS at h
  split at h
  · next hc =>
    obtain ⟨he, hf⟩ := goOn_fits args ts b l hc.2.2 h
    refine ⟨bytes_ext hc.2.1, hc.2.2, ?_, ?_, he, (goOn_len _ _ _ _ h).2⟩
    · unfold fillS; rw [if_pos hc.1, fits_fill args ts [] hf]; rfl
    · unfold matchS; rw [if_pos hc, fits_goOn args ts hf]
  · cases h
/-- One that doesn't is filled to another tuple, or not at all. -/
theorem back_none {k : Nat} {p tp : ByteArray} {args b : List T3} {ts : List V2} (h : matchS k p args tp ts b = none) {vs : List V2} (hf : fillS k args b = some vs) : ¬ (tp = p ∧ ts = vs) := by
  rintro ⟨rfl, rfl⟩
  unfold fillS at hf
  split at hf
  · next hk =>
    obtain ⟨ts', h2, hfit⟩ := fillOn_fits args [] ts hf
    rw [List.nil_append] at h2
    subst h2
    unfold matchS at h
    rw [if_pos ⟨hk, rfl, fits_len hfit⟩, fits_goOn args ts hfit] at h
    cases h
  · cases hf
theorem exec_lss {o : Oper} {a : Act} (x y : Operand) (ho : o.op = .binOp .lss 3 x y 3) (u v : Int) (hx : a.eval x = .int .i64 u) (hy : a.eval y = .int .i64 v) (w : World) : (execOp a.eval o).run Try.prog w = .ok (.value (.bool (decide (u < v)))) w := by
  unfold execOp
  simp [ho, hx, hy, eqGuard, binOp_lss]
theorem exec_gtr {o : Oper} {a : Act} (x y : Operand) (ho : o.op = .binOp .gtr 3 x y 3) (u v : Int) (hx : a.eval x = .int .i64 u) (hy : a.eval y = .int .i64 v) (w : World) : (execOp a.eval o).run Try.prog w = .ok (.value (.bool (decide (v < u)))) w := by
  unfold execOp
  simp [ho, hx, hy, eqGuard, binOp_gtr]
theorem exec_add {o : Oper} {a : Act} (x y : Operand) (ho : o.op = .binOp .add 3 x y 3) (u v : Int) (hx : a.eval x = .int .i64 u) (hy : a.eval y = .int .i64 v) (h0 : 0 ≤ u + v) (h1 : u + v ≤ 9223372036854775807) (w : World) : (execOp a.eval o).run Try.prog w = .ok (.value (.int .i64 (u + v))) w := by
  have hw : IntKind.i64.wrap (u + v) = u + v := by rw [IntKind.wrap_i64]; omega
  unfold execOp
  simp [ho, hx, hy, eqGuard, binOp_add, Op.intArith, hw]
theorem exec_slice28 {o : Oper} {a : Act} (x hi : Operand) (ho : o.op = .slice 28 x none (some hi) none) (A : Option Addr) (n cap h : Nat) (hx : a.eval x = .slice A n cap)
    (hh : a.eval hi = .int .i64 (h : Int)) (h2 : h ≤ cap) (w : World) : (execOp a.eval o).run Try.prog w = .ok (.value (.slice (if cap = 0 then A else A.map (·.add 0)) h cap)) w := by
  unfold execOp
  simp only [ho, Option.map_some, Option.map_none, hx, hh, Sem.run_bind, run_sliceAt_slice w 28 _ _ _ _ un28, run_slice_h w 28 _ n cap un28 .i64 (h : Int) (by omega) (by omega), sz28, Result.andThen_ok, Sem.run_pure, sliced, Int.toNat_natCast, Nat.zero_mul, Nat.sub_zero]
theorem rw_take {α : Type} [Inhabited α] {k : Nat} {enc : α → Array Value} {w : World} {l : List α} {A : Option Addr} {n c : Nat} (hn : n = l.length) (hy : Rw k enc w (.slice A n c) l) (q : Nat) (hq : q ≤ n) : q ≤ c ∧ Rw k enc w (.slice (if c = 0 then A else A.map (·.add 0)) q c) (l.take q) := by
  rcases hy with ⟨A', c', h, rfl, h2⟩ | ⟨g, o, c', h, h2, h3, h4⟩
  · injection h with h5 h6 h7
    subst h5 h6 h7
    have : q = 0 := by simpa using hq
    subst this
    refine ⟨Nat.zero_le _, .inl ⟨_, c, rfl, rfl, fun h => ?_⟩⟩
    by_cases hc : c = 0
    · exact hc
    · rw [if_neg hc] at h
      cases A with
      | none => exact h2 rfl
      | some a => cases h
  · injection h with h5 h6 h7
    subst h5 h7
    have hl : (l.take q).length = q := by rw [List.length_take]; omega
    refine ⟨by omega, .inr ⟨g, o, c, ?_, by rw [hl]; omega, h3, fun i hi => ?_⟩⟩
    · rw [hl]
      split
      · rfl
      · rw [Option.map_some, Addr.add_mid, Nat.add_zero]
    · rw [hl] at hi
      have e : (l.take q).getD i default = l.getD i default := by
        rw [List.getD_eq_getElem?_getD, List.getD_eq_getElem?_getD, List.getElem?_take, if_pos hi]
      rw [e]
      exact h4 i (by omega)
end Go.Proofs.Ytehgblnhhlgikaa.Bi
