/-
  How values and tuples stand in order, the program's way and the document's: plain facts.
-/
import Derived.Test.YtmgocpggoajfeaaNames
import Derived.Test.YtmgocpggoajfeaaVaEv
import Derived.Test.YtmgocpggoajfeaaVaRowsIn
import Derived.Test.YtmgocpggoajfeaaPAx19
namespace Go.Proofs.Ytmgocpggoajfeaa.Pure
open Go.RowKit Go.Proofs.Ytmgocpggoajfeaa.PA Go.Proofs.YtmgocpggoajfeaaW.PrintWords Go.Proofs.YtmgocpggoajfeaaW.PrintLast
set_option linter.unusedVariables false
set_option linter.unusedSimpArgs false
theorem toList_data (s : ByteArray) : s.toList = s.data.toList := by rw [ByteArray.toList_eq]
theorem cmpL_pre : ∀ (p a b : List UInt8), cmpL (p ++ a) (p ++ b) = cmpL a b
  | [], a, b => rfl
  | x :: p, a, b => by
    rw [List.cons_append, List.cons_append, cmpL, if_neg (u8_irr x), if_neg (u8_irr x), cmpL_pre p a b]
theorem bytes_loop (a b : ByteArray) (ha : a.size ≤ 9223372036854775807) : ∀ (l m p : List UInt8), a.data.toList = p ++ l → b.data.toList = p ++ m → Ev (fun k => mandateref01_bytes.l0 k a b (p.length : Int)) (cmpL l m)
  | [], m, p, h1, h2 => by
    have s1 := size_list a
    have s2 := size_list b
    rw [h1] at s1; rw [h2] at s2
    simp only [List.append_nil, List.length_append] at s1 s2
    refine ⟨2, fun k hk => ?_⟩
    obtain ⟨k, rfl⟩ : ∃ m, k = m + 2 := ⟨k - 2, by omega⟩
    show mandateref01_bytes.l0 (k + 1 + 1) a b (p.length : Int) = _
    rw [mandateref01_bytes.l0, if_neg (by omega), mandateref01_bytes.j1, if_neg (by decide)]
    cases m with
    | nil => simp only [List.length_nil] at s2; rw [if_neg (by omega), if_neg (by omega)]; rfl
    | cons y m => simp only [List.length_cons] at s2; rw [if_pos (by omega)]; rfl
  | x :: l, [], p, h1, h2 => by
    have s1 := size_list a
    have s2 := size_list b
    rw [h1] at s1; rw [h2] at s2
    simp only [List.append_nil, List.length_append, List.length_cons] at s1 s2
    refine ⟨2, fun k hk => ?_⟩
    obtain ⟨k, rfl⟩ : ∃ m, k = m + 2 := ⟨k - 2, by omega⟩
    show mandateref01_bytes.l0 (k + 1 + 1) a b (p.length : Int) = _
    have hd : decide ((p.length : Int) < (b.size : Int)) = false := decide_eq_false (by omega)
    rw [mandateref01_bytes.l0, if_pos (by omega), hd, mandateref01_bytes.j1, if_neg (by decide), if_neg (by omega), if_pos (by omega)]
    rfl
  | x :: l, y :: m, p, h1, h2 => by
    obtain ⟨l1, b1⟩ := bt_split a p l x h1
    obtain ⟨l2, b2⟩ := bt_split b p m y h2
    have hn := bytes_loop a b ha l m (p ++ [x]) (by rw [h1]; simp)
    have up : wrap64 ((p.length : Int) + 1) = (((p ++ [x]).length : Nat) : Int) := by
      rw [up1 _ (by omega)]; simp
    have hd : decide ((p.length : Int) < (b.size : Int)) = true := decide_eq_true (by omega)
    have lx : x < y ↔ (x.toNat : Int) < (y.toNat : Int) := by rw [UInt8.lt_iff_toNat_lt]; omega
    have ly : y < x ↔ (x.toNat : Int) > (y.toNat : Int) := by rw [UInt8.lt_iff_toNat_lt]; omega
    by_cases c1 : x < y
    · refine ⟨2, fun k hk => ?_⟩
      obtain ⟨k, rfl⟩ : ∃ m, k = m + 2 := ⟨k - 2, by omega⟩
      show mandateref01_bytes.l0 (k + 1 + 1) a b (p.length : Int) = _
      rw [mandateref01_bytes.l0, if_pos (by omega), hd, mandateref01_bytes.j1, if_pos rfl, if_pos (by omega), if_pos (by omega), if_pos (by omega), b1, b2, if_pos (lx.1 c1), cmpL, if_pos c1]
    · by_cases c2 : y < x
      · refine ⟨2, fun k hk => ?_⟩
        obtain ⟨k, rfl⟩ : ∃ m, k = m + 2 := ⟨k - 2, by omega⟩
        show mandateref01_bytes.l0 (k + 1 + 1) a b (p.length : Int) = _
        rw [mandateref01_bytes.l0, if_pos (by omega), hd, mandateref01_bytes.j1, if_pos rfl, if_pos (by omega), if_pos (by omega), if_pos (by omega), b1, b2, if_neg (fun h => c1 (lx.2 h)), if_pos (ly.1 c2), cmpL, if_neg c1, if_pos c2]
      · have hxy : x = y := by
          rcases u8_tri x y with h | h | h
          · exact absurd h c1
          · exact h
          · exact absurd h c2
        obtain ⟨k1, e1⟩ := hn (by rw [h2, hxy]; simp)
        refine ⟨k1 + 2, fun k hk => ?_⟩
        obtain ⟨k, rfl⟩ : ∃ m, k = m + 2 := ⟨k - 2, by omega⟩
        show mandateref01_bytes.l0 (k + 1 + 1) a b (p.length : Int) = _
        rw [mandateref01_bytes.l0, if_pos (by omega), hd, mandateref01_bytes.j1, if_pos rfl, if_pos (by omega), if_pos (by omega), if_pos (by omega), b1, b2, if_neg (fun h => c1 (lx.2 h)), if_neg (fun h => c2 (ly.2 h)), up, cmpL, if_neg c1, if_neg c2]
        exact e1 k (by omega)
theorem bytes_ev (a b : ByteArray) (ha : a.size ≤ 9223372036854775807) : Ev (fun k => mandateref01_bytes.f k a b) (cmpL a.toList b.toList) := by
  unfold mandateref01_bytes.f
  rw [toList_data, toList_data]
  exact bytes_loop a b ha _ _ [] rfl rfl
theorem Ev.up {α : Type} {f : Nat → Option α} {g : Nat → Option α} {r : α} (h : Ev g r) (hf : ∀ k, f (k + 1) = g k) : Ev f r := by
  obtain ⟨n, e⟩ := h
  exact ⟨n + 1, fun k hk => by obtain ⟨k, rfl⟩ : ∃ m, k = m + 1 := ⟨k - 1, by omega⟩; rw [hf]; exact e k (by omega)⟩
theorem rcompare_ev (s : ByteArray) (n : Int) (t : ByteArray) (m : Int) (hs : s.size ≤ 9223372036854775807) : Ev (fun k => mandateref01_Compare.f k s n t m) (cmpV ⟨s, n⟩ ⟨t, m⟩) := by
  unfold mandateref01_Compare.f
  have hnil : ∀ x : ByteArray, x.size = 0 → x.toList = [] := fun x h => (toList_nil_iff x).2 h
  have hcons : ∀ x : ByteArray, x.size ≠ 0 → ∃ c l, x.toList = c :: l := fun x h => by
    cases e : x.toList with
    | nil => exact absurd ((toList_nil_iff x).1 e) h
    | cons c l => exact ⟨c, l, rfl⟩
  have last : Ev (fun k => mandateref01_Compare.j1 k false s n t m) (cmpV ⟨s, n⟩ ⟨t, m⟩) := by
    refine Ev.up (g := fun k => (mandateref01_bytes.f k s t).bind fun t184 => (if t184 = 0 then (if n < m then (some (-1)) else (if n > m then (some 1) else (some 0))) else (some t184))) ?_ (fun k => by rw [mandateref01_Compare.j1, if_neg (by decide)])
    refine Ev.bind (bytes_ev s t hs) ?_
    show Ev _ (if cmpL s.toList t.toList ≠ 0 then cmpL s.toList t.toList else cmpN n m)
    by_cases h : cmpL s.toList t.toList = 0
    · have e : (if cmpL s.toList t.toList ≠ 0 then cmpL s.toList t.toList else cmpN n m) = cmpN n m := if_neg (fun hh => hh h)
      rw [e]
      refine Ev.yes h ?_
      have q : (if n < m then some (-1) else if n > m then some 1 else some 0) = some (cmpN n m) := by
        unfold cmpN
        by_cases h1 : n < m
        · simp [h1]
        · by_cases h2 : m < n <;> simp [h1, h2]
      rw [q]
      exact Ev.now _
    · have e : (if cmpL s.toList t.toList ≠ 0 then cmpL s.toList t.toList else cmpN n m) = cmpL s.toList t.toList := if_pos h
      rw [e]
      exact Ev.no h (Ev.now _)
  by_cases h0 : s.size = 0
  · refine Ev.yes (by omega) ?_
    by_cases h1 : t.size = 0
    · have hd : decide ((t.size : Int) > 0) = false := decide_eq_false (by omega)
      rw [hd]
      exact Ev.up last (fun k => by rw [mandateref01_Compare.j0, if_neg (by decide), if_neg (by omega)])
    · have hd : decide ((t.size : Int) > 0) = true := decide_eq_true (by omega)
      rw [hd]
      obtain ⟨c, l, e⟩ := hcons t h1
      have : cmpV ⟨s, n⟩ ⟨t, m⟩ = -1 := by
        unfold cmpV
        show (if cmpL s.toList t.toList ≠ 0 then cmpL s.toList t.toList else _) = _
        rw [hnil s h0, e]; rfl
      rw [this]
      exact Ev.up (Ev.now (-1)) (fun k => by rw [mandateref01_Compare.j0, if_pos rfl])
  · refine Ev.no (by omega) ?_
    by_cases h1 : t.size = 0
    · obtain ⟨c, l, e⟩ := hcons s h0
      have : cmpV ⟨s, n⟩ ⟨t, m⟩ = 1 := by
        unfold cmpV
        show (if cmpL s.toList t.toList ≠ 0 then cmpL s.toList t.toList else _) = _
        rw [hnil t h1, e]; rfl
      rw [this]
      have hd : (((t.size : Int) == 0) : Bool) = true := by rw [beq_iff_eq]; omega
      exact Ev.up (Ev.up (f := fun k => mandateref01_Compare.j1 k true s n t m) (Ev.now 1) (fun k => by rw [mandateref01_Compare.j1, if_pos rfl])) (fun k => by rw [mandateref01_Compare.j0, if_neg (by decide), if_pos (by omega), hd])
    · have hd : (((t.size : Int) == 0) : Bool) = false := by rw [beq_eq_false_iff_ne]; omega
      exact Ev.up last (fun k => by rw [mandateref01_Compare.j0, if_neg (by decide), if_pos (by omega), hd])
def cmpR : List S25 → List S25 → Int
  | x :: l, y :: m => if cmpV x y = 0 then cmpR l m else cmpV x y
  | _, _ => 0
theorem order_loop (p q : ByteArray) (L M : List S25) (hb : L.length ≤ 9223372036854775807) (hq : L.length = M.length) : ∀ (l m a b : List S25), L = a ++ l → M = b ++ m → a.length = b.length → Ev (fun k => value_Order.l0 k (L.length : Int) (a.length : Int) p L q M) (cmpR l m)
  | [], m, a, b, h1, h2, h3 => by
    have : L.length = a.length := by rw [h1]; simp
    have e : cmpR [] m = 0 := by cases m <;> rfl
    rw [e]
    exact Ev.up (Ev.now 0) (fun k => by rw [value_Order.l0, if_neg (by omega)])
  | x :: l, [], a, b, h1, h2, h3 => by
    exfalso
    have q1 : L.length = a.length + (l.length + 1) := by rw [h1]; simp
    have q2 : M.length = b.length := by rw [h2]; simp
    omega
  | x :: l, y :: m, a, b, h1, h2, h3 => by
    have q1 : L.length = a.length + (l.length + 1) := by rw [h1]; simp
    have r1 : rd_T25 L (a.length : Int) = x := by unfold rd_T25; rw [h1]; simp
    have r2 : rd_T25 M (a.length : Int) = y := by unfold rd_T25; rw [h2, h3]; simp
    have up : wrap64 ((a.length : Int) + 1) = (((a ++ [x]).length : Nat) : Int) := by rw [up1 _ (by omega)]; simp
    have hn := order_loop p q L M hb hq l m (a ++ [x]) (b ++ [y]) (by rw [h1]; simp) (by rw [h2]; simp) (by simp [h3])
    rw [cmpR]
    by_cases h : cmpV x y = 0
    · rw [if_pos h]
      refine Ev.up hn (fun k => ?_)
      rw [value_Order.l0, if_pos (by omega), if_pos (by omega), if_pos (by omega), if_pos (by omega), r1, r2, compare_f, Option.bind_some, if_pos h, up]
    · rw [if_neg h]
      refine Ev.up (Ev.now _) (fun k => ?_)
      rw [value_Order.l0, if_pos (by omega), if_pos (by omega), if_pos (by omega), if_pos (by omega), r1, r2, compare_f, Option.bind_some, if_neg h]
theorem rorder_loop (p q : ByteArray) (L M : List S25) (hb : L.length ≤ 9223372036854775807) (hg : ∀ x ∈ L, G25 x) (hq : L.length = M.length) : ∀ (l m a b : List S25), L = a ++ l → M = b ++ m → a.length = b.length → Ev (fun k => mandateref01_Order.l0 k (a.length : Int) p L q M) (cmpR l m)
  | [], m, a, b, h1, h2, h3 => by
    have : L.length = a.length := by rw [h1]; simp
    have e : cmpR [] m = 0 := by cases m <;> rfl
    rw [e]
    exact Ev.up (Ev.now 0) (fun k => by rw [mandateref01_Order.l0, if_neg (by omega)])
  | x :: l, [], a, b, h1, h2, h3 => by
    exfalso
    have q1 : L.length = a.length + (l.length + 1) := by rw [h1]; simp
    have q2 : M.length = b.length := by rw [h2]; simp
    omega
  | x :: l, y :: m, a, b, h1, h2, h3 => by
    have q1 : L.length = a.length + (l.length + 1) := by rw [h1]; simp
    have r1 : rd_T25 L (a.length : Int) = x := by unfold rd_T25; rw [h1]; simp
    have r2 : rd_T25 M (a.length : Int) = y := by unfold rd_T25; rw [h2, h3]; simp
    have up : wrap64 ((a.length : Int) + 1) = (((a ++ [x]).length : Nat) : Int) := by rw [up1 _ (by omega)]; simp
    have hn := rorder_loop p q L M hb hg hq l m (a ++ [x]) (b ++ [y]) (by rw [h1]; simp) (by rw [h2]; simp) (by simp [h3])
    have hx := hg x (by rw [h1]; simp)
    refine Ev.up (g := fun k => (mandateref01_Compare.f k x.f0 x.f1 y.f0 y.f1).bind fun t190 => (if t190 = 0 then (mandateref01_Order.l0 k (((a ++ [x]).length : Nat) : Int) p L q M) else (some t190))) ?_ (fun k => by
      rw [mandateref01_Order.l0, if_pos (by omega), if_pos (by omega), if_pos (by omega), r1, r2, up])
    refine Ev.bind (rcompare_ev x.f0 x.f1 y.f0 y.f1 hx.1) ?_
    rw [cmpR]
    show Ev _ (if cmpV x y = 0 then _ else _)
    by_cases h : cmpV x y = 0
    · rw [if_pos h]
      exact Ev.yes h hn
    · rw [if_neg h]
      exact Ev.no h (Ev.now _)
def cmpT (p : ByteArray) (l : List S25) (q : ByteArray) (m : List S25) : Int :=
  if cmpL p.toList q.toList = 0 then (if l.length < m.length then -1 else if l.length > m.length then 1 else cmpR l m) else cmpL p.toList q.toList
theorem order_ev (p : ByteArray) (l : List S25) (q : ByteArray) (m : List S25) (hb : l.length ≤ 9223372036854775807) : Ev (fun k => value_Order.f k p l q m) (cmpT p l q m) := by
  unfold value_Order.f cmpT
  simp only [value_sign_string.f, value_sign_int.f, Option.bind_some]
  by_cases h : cmpL p.toList q.toList = 0
  · rw [if_pos h]
    refine Ev.yes h ?_
    by_cases h1 : l.length < m.length
    · rw [if_pos h1]
      have : (l.length : Int) < (m.length : Int) := by omega
      simp only [this, if_true, Option.bind_some]
      exact Ev.no (by decide) (Ev.now _)
    · rw [if_neg h1]
      have n1 : ¬ (l.length : Int) < (m.length : Int) := by omega
      by_cases h2 : l.length > m.length
      · rw [if_pos h2]
        have n2 : (l.length : Int) > (m.length : Int) := by omega
        simp only [n1, if_false, n2, if_true, Option.bind_some]
        exact Ev.no (by decide) (Ev.now _)
      · rw [if_neg h2]
        have n2 : ¬ (l.length : Int) > (m.length : Int) := by omega
        simp only [n1, if_false, n2, if_true, Option.bind_some]
        exact order_loop p q l m hb (by omega) l m [] [] rfl rfl rfl
  · rw [if_neg h]
    exact Ev.no h (Ev.now _)
theorem rorder_ev (p : ByteArray) (l : List S25) (q : ByteArray) (m : List S25) (hp : p.size ≤ 9223372036854775807) (hb : l.length ≤ 9223372036854775807) (hg : ∀ x ∈ l, G25 x) : Ev (fun k => mandateref01_Order.f k p l q m) (cmpT p l q m) := by
  unfold mandateref01_Order.f cmpT
  refine Ev.bind (bytes_ev p q hp) ?_
  by_cases h : cmpL p.toList q.toList = 0
  · rw [if_pos h]
    refine Ev.yes h ?_
    by_cases h1 : l.length < m.length
    · rw [if_pos h1]
      exact Ev.yes (by omega) (Ev.now _)
    · rw [if_neg h1]
      refine Ev.no (by omega) ?_
      by_cases h2 : l.length > m.length
      · rw [if_pos h2]
        exact Ev.yes (by omega) (Ev.now _)
      · rw [if_neg h2]
        exact Ev.no (by omega) (rorder_loop p q l m hb hg (by omega) l m [] [] rfl rfl rfl)
  · rw [if_neg h]
    exact Ev.no h (Ev.now _)
theorem compares_ev (s : ByteArray) (n : Int) (t : ByteArray) (m : Int) (p : ByteArray) (l : List S25) (q : ByteArray) (r : List S25) (hs : s.size ≤ 9223372036854775807) (hp : p.size ≤ 9223372036854775807) (hb : l.length ≤ 9223372036854775807) (hg : ∀ x ∈ l, G25 x) :
    Ev (fun k => mandatelaw01_ValueCompares.f k s n t m p l q r) true := by
  unfold mandatelaw01_ValueCompares.f
  simp only [mandatelaw01_fixed.f, Option.bind_some, if_true, compare_f]
  refine Ev.bind (rcompare_ev s n t m hs) ?_
  refine Ev.yes rfl ?_
  refine Ev.bind (order_ev p l q r hb) (Ev.bind (rorder_ev p l q r hp hb hg) ?_)
  simp only [beq_self_eq_true]
  exact Ev.now true
end Go.Proofs.Ytmgocpggoajfeaa.Pure
