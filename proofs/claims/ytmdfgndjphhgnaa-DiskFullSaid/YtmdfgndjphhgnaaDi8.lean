/-
  Append of a disk.
-/
import Derived.Test.YtmdfgndjphhgnaaDiApp
namespace Go.Proofs.Ytmdfgndjphhgnaa
open Go.RowKit
set_option linter.unusedVariables false
set_option linter.unusedSimpArgs false
open Go.Proofs.Ytmdfgndjphhgnaa.Pure (nameB)
theorem kp_join {w w' w2 : World} {D mb F : Nat} (h : KpS (TD D mb) w w') (k : KpS (fun q => q = F) w' w2) (hF : w.heap.size ≤ F) : KpS (TD D mb) w w2 :=
  ⟨k.os.trans h.os, k.tape.trans h.tape, k.output.trans h.output, Nat.le_trans h.size k.size, fun i hi hn => (k.block i (Nat.lt_of_lt_of_le hi h.size) (fun e => by have e : i = F := e; omega)).trans (h.block i hi hn)⟩
theorem clip2_calls (l : List Nat) (v : Value) (w : World) (hn9 : l.length ≤ 1000000000) (hy : Rw 1 encB w v l) :
    Calls Try.prog 35 #[v] w fun e w' => ∃ A2, e = .returned (.slice A2 l.length l.length) ∧ Rw 1 encB w' (.slice A2 l.length l.length) l ∧ Below w.heap.size w w' := by
  obtain ⟨A, c, rfl⟩ := hy.form
  obtain ⟨n, hn⟩ : ∃ n, n = l.length := ⟨_, rfl⟩
  rw [← hn] at hy ⊢
  obtain ⟨hc, hy2⟩ := clip_rw hn hy
  have hnH : Hid (n = l.length) := hn
  clear hn
  go_enter Try.func35, Try.ntmps35
  go_upto_region 1 with fail
  refine wp_region_lit ?_
  refine sl_run rfl (.slice A n c) w (by kernel_rfl) ?_
  simp only [Act.put, List.setIfInBounds_toArray, List.set_cons_zero, List.set_cons_succ]
  refine sl_run rfl (.slice A n c) w (by kernel_rfl) ?_
  simp only [Act.put, List.setIfInBounds_toArray, List.set_cons_zero, List.set_cons_succ]
  refine sl_run rfl (.int .i64 n) w (by kernel_rfl) ?_
  simp only [Act.put, List.setIfInBounds_toArray, List.set_cons_zero, List.set_cons_succ]
  refine sl_run rfl (.slice A n c) w (by kernel_rfl) ?_
  simp only [Act.put, List.setIfInBounds_toArray, List.set_cons_zero, List.set_cons_succ]
  refine sl_run rfl (.int .i64 n) w (by kernel_rfl) ?_
  simp only [Act.put, List.setIfInBounds_toArray, List.set_cons_zero, List.set_cons_succ]
  refine sl_run rfl _ w (exec_clip un30 sz30 _ _ _ rfl A n c (by kernel_rfl) (by kernel_rfl) (by kernel_rfl) hc w) ?_
  generalize (if n = 0 then A else A.map (·.add 0)) = A2 at hy2 ⊢
  simp only [Act.put, List.setIfInBounds_toArray, List.set_cons_zero, List.set_cons_succ]
  refine sl_run rfl (.slice A2 n n) w (by kernel_rfl) ?_
  simp only [Act.put, List.setIfInBounds_toArray, List.set_cons_zero, List.set_cons_succ]
  refine wpList_nil ?_
  go_wp2_with fail
  go_ret
  exact ⟨A2, by rw [hnH.out]; rfl, by first | exact hy2 | (rw [← hnH.out]; exact hy2), Below.refl _ _⟩
theorem app_eq {d : DS} {s : ByteArray} {bs : List Nat} {su er : Nat} (nm : ByteArray → Bool) (h : d.findS s = (bs, su, er)) (b : List Nat) (ho : d.off = false) : d.app nm s b =
    if nm s = false then (d, 1) else if er = 4 ∧ 8 ≤ d.L.length then (d, 3) else if 1048576 < b.length ∨ 1048576 < bs.length + b.length then (d, 3)
    else ({ d.used b.length with L := DS.putL d.L ⟨s, bs ++ b.take (d.useN b.length), su⟩ }, if d.useOk b.length then 0 else 20) := by
  unfold DS.findS at h
  rw [if_neg (by rw [ho]; decide)] at h
  unfold DS.app
  rw [if_neg (by rw [ho]; decide)]
  cases hg : d.get s with
  | none =>
    rw [hg] at h
    injection h with h h2
    injection h2 with h2 h3
    subst h h2 h3
    simp
  | some f =>
    rw [hg] at h
    injection h with h h2
    injection h2 with h2 h3
    subst h h2 h3
    simp
theorem findS_er {d : DS} {s : ByteArray} {bs : List Nat} {su er : Nat} (h : d.findS s = (bs, su, er)) : (d.off = true ∧ er = 20) ∨ (d.off = false ∧ (er = 0 ∨ er = 4)) := by
  by_cases he : er = 0
  · subst he; exact .inr ⟨(findS_ok h).1, .inl rfl⟩
  · rcases (findS_bad h he).2.2 with h8 | ⟨h8, _, h9⟩
    · exact .inl h8
    · exact .inr ⟨h8, .inr h9⟩
theorem findS_fine {w : World} {D mb : Nat} {d : DS} (hD : DiskI w D mb d) {s : ByteArray} {bs : List Nat} {su er : Nat} (h : d.findS s = (bs, su, er)) : su ≤ bs.length ∧ bs.length ≤ 1048576 := by
  by_cases he : er = 0
  · subst he
    obtain ⟨_, f0, _, rfl, rfl, hm, _⟩ := findS_ok h
    exact hD.fine f0 hm
  · obtain ⟨rfl, rfl, _⟩ := findS_bad h he
    exact ⟨Nat.le_refl _, by decide⟩
theorem exec_lenm {o : Oper} {a : Act} {w : World} (x : Operand) (ho : o.op = .call { callee := .builtin .len, args := #[x], argTypes := #[61] }) (mb : Nat) (hx : a.eval x = .map (some mb)) {L : List (ByteArray × Value)} (h : DM w mb L) (n : Nat) (hn : L.length = n) : (execOp a.eval o).run Try.prog w = .ok (.value (.int .i64 (n : Int))) w := by
  subst hn
  unfold execOp
  simp [ho, hx, resolve, invoke, builtin, run_lenm h un61, Result.andThen]
set_option maxRecDepth 100000 in
set_option maxHeartbeats 1000000 in
theorem Append_calls {w : World} {D mb : Nat} {d : DS} (h : DiskI w D mb d) (s : ByteArray) (b : List Nat) (Ab : Option Addr) (n cb : Nat) (hn : n = b.length) (hn9 : n ≤ 500000000) (hyb : Rw 1 encB w (.slice Ab n cb) b) :
    Calls Try.prog 12 #[.pointer (some ⟨D, 0, none⟩), .string s, .slice Ab n cb] w fun e w' => e = .returned (.int .i64 ((d.app nameB s b).2 : Int)) ∧ DiskI w' D mb (d.app nameB s b).1 ∧ KpS (TD D mb) w w' := by
  have hDw : Hid (DiskI w D mb d) := h
  have hyw : Hid (Rw 1 encB w (.slice Ab n cb) b) := hyb
  have hBw : Hid (Below w.heap.size w w) := Below.refl _ _
  have hn' : Hid (n = b.length) := hn
  obtain ⟨d1, ee, hd1⟩ : ∃ p q, d.app nameB s b = (p, q) := ⟨_, _, rfl⟩
  rw [hd1]
  have hd1H : Hid (d.app nameB s b = (d1, ee)) := hd1
  obtain ⟨bs, su, er, hf⟩ : ∃ p q r, d.findS s = (p, q, r) := ⟨_, _, _, rfl⟩
  have hfS : Hid (d.findS s = (bs, su, er)) := hf
  have hfi := findS_fine h hf
  have hfiH : Hid (su ≤ bs.length ∧ bs.length ≤ 1048576) := hfi
  clear h hd1 hf hyb hn hfi
  go_enter Try.func12, Try.ntmps12
  go_upto_region 1 with fail
  refine wp_region_lit ?_
  refine sl_run rfl (.pointer (some ⟨D, 0, none⟩)) w (by kernel_rfl) ?_
  simp only [Act.put, List.setIfInBounds_toArray, List.set_cons_zero, List.set_cons_succ]
  refine sl_run rfl (.string s) w (by kernel_rfl) ?_
  simp only [Act.put, List.setIfInBounds_toArray, List.set_cons_zero, List.set_cons_succ]
  refine sg_call (by kernel_rfl) 32 #[.pointer (some ⟨D, 0, none⟩), .string s] (by kernel_rfl) (R := fun u w' => ∃ v, u = .tuple #[.agg #[v, .int .i64 (su : Int)], .int .i64 (er : Int)] ∧ Rw 1 encB w' v bs ∧ Below w.heap.size w w') ((find_calls hDw.out s).mono fun e w' h => by
    obtain ⟨v, h1, h2, h3⟩ := h
    rw [hfS.out] at h1 h2
    exact ⟨_, h1, v, rfl, h2, h3⟩) ?_
  rintro _ W2 ⟨v, rfl, hr, hb⟩
  obtain ⟨A, c, rfl⟩ := hr.form
  have hrW2 : Hid (Rw 1 encB W2 (.slice A bs.length c) bs) := hr
  clear hr
  simp only [Act.put, List.setIfInBounds_toArray, List.set_cons_zero, List.set_cons_succ]
  have hDW2 : Hid (DiskI W2 D mb d) := (hDw.out).below hb
  have hBW2 : Hid (Below w.heap.size w W2) := (hBw.out).trans ((hb).mono (hBw.out).size)
  have hyW2 : Hid (Rw 1 encB W2 (.slice Ab n cb) b) := (hyw.out).below hb
  clear hDw hBw hyw
  clear hb
  refine sl_run rfl (.tuple #[.agg #[.slice A bs.length c, .int .i64 (su : Int)], .int .i64 (er : Int)]) W2 (by kernel_rfl) ?_
  simp only [Act.put, List.setIfInBounds_toArray, List.set_cons_zero, List.set_cons_succ]
  refine sl_run rfl (.agg #[.slice A bs.length c, .int .i64 (su : Int)]) W2 (by kernel_rfl) ?_
  simp only [Act.put, List.setIfInBounds_toArray, List.set_cons_zero, List.set_cons_succ]
  refine sl_run rfl (.int .i64 (er : Int)) W2 (by kernel_rfl) ?_
  simp only [Act.put, List.setIfInBounds_toArray, List.set_cons_zero, List.set_cons_succ]
  refine sg_run (by kernel_rfl) (.pointer (some ⟨W2.heap.size, 0, none⟩)) (W2.alloc (.cells #[.slice none 0 0, .int .i64 0] 65)) (by kernel_rfl) ?_
  simp only [Act.put, List.setIfInBounds_toArray, List.set_cons_zero, List.set_cons_succ]
  refine sl_skipped (by kernel_rfl) ((W2.alloc (.cells #[.slice none 0 0, .int .i64 0] 65)).setRow W2.heap.size #[.slice A bs.length c, .int .i64 (su : Int)]) ?he ?_
  case he => exact exec_store_f _ _ rfl W2.heap.size (by kernel_rfl) (.slice A bs.length c) (su : Int) rfl (by kernel_rfl) #[.slice none 0 0, .int .i64 0] (heap_alloc_new _ _) rfl
  simp only [Act.put, List.setIfInBounds_toArray, List.set_cons_zero, List.set_cons_succ]
  have hb : Below W2.heap.size W2 ((W2.alloc (.cells #[.slice none 0 0, .int .i64 0] 65)).setRow W2.heap.size #[.slice A bs.length c, .int .i64 (su : Int)]) := below_setRow ((Below.refl _ _).alloc (Nat.le_refl _) _) (Nat.le_refl _) _
  have hf0 : ((W2.alloc (.cells #[.slice none 0 0, .int .i64 0] 65)).setRow W2.heap.size #[.slice A bs.length c, .int .i64 (su : Int)]).heap[W2.heap.size]? = some (.cells #[.slice A bs.length c, .int .i64 (su : Int)] 65 (0, 0)) := setRow_heap _ _ #[.slice none 0 0, .int .i64 0] _ 65 (0, 0) (heap_alloc_new _ _)
  generalize ((W2.alloc (.cells #[.slice none 0 0, .int .i64 0] 65)).setRow W2.heap.size #[.slice A bs.length c, .int .i64 (su : Int)]) = W3 at hb hf0 ⊢
  have hle0 : w.heap.size ≤ W2.heap.size := hBW2.out.size
  obtain ⟨F, hFe⟩ : ∃ F, F = W2.heap.size := ⟨_, rfl⟩
  have hDW3 : Hid (DiskI W3 D mb d) := (hDW2.out).below hb
  have hBW3 : Hid (Below w.heap.size w W3) := (hBW2.out).trans ((hb).mono (hBW2.out).size)
  have hyW3 : Hid (Rw 1 encB W3 (.slice Ab n cb) b) := (hyW2.out).below hb
  have hrW3 : Hid (Rw 1 encB W3 (.slice A bs.length c) bs) := (hrW2.out).below hb
  clear hDW2 hBW2 hyW2 hrW2
  rw [← hFe] at hf0 hle0 ⊢
  have hFW3 : Hid (W3.heap[F]? = some (.cells #[.slice A bs.length c, .int .i64 (su : Int)] 65 (0, 0))) := hf0
  have hFle : Hid (w.heap.size ≤ F) := hle0
  clear hb hf0 hle0 hFe
  refine sl_run rfl (.int .i64 (er : Int)) W3 (by kernel_rfl) ?_
  simp only [Act.put, List.setIfInBounds_toArray, List.set_cons_zero, List.set_cons_succ]
  refine wpList_nil ?_
  rcases findS_er hfS.out with ⟨ho, rfl⟩ | ⟨ho, her⟩
  case inl =>
    have hspec := hd1H.out
    unfold DS.app at hspec
    rw [if_pos ho] at hspec
    clear hd1H ho

    injection hspec with e1 e2
    subst e1 e2
    have hE : Hid (DiskI W3 D mb d ∧ KpS (TD D mb) w W3) := And.intro hDW3.out (KpS.of hBW3.out)
    clear hfS hfiH
    clear hDW3 hBW3 hyW3 hrW3 hFW3
    go_wp2_with fail
    go_ret
    exact ⟨rfl, hE.out.1, hE.out.2⟩
  case inr =>
  have hspec := hd1H.out
  rw [app_eq nameB hfS.out b ho] at hspec
  have hspH : Hid ((if nameB s = false then (d, 1) else if er = 4 ∧ 8 ≤ d.L.length then (d, 3) else if 1048576 < b.length ∨ 1048576 < bs.length + b.length then (d, 3)
      else ({ d.used b.length with L := DS.putL d.L ⟨s, bs ++ b.take (d.useN b.length), su⟩ }, if d.useOk b.length then 0 else 20)) = (d1, ee)) := hspec
  clear hspec hd1H ho
  have hI1 : ¬ (er : Int) = 20 := by omega
  have hI2 : ((er : Int) == 20) = false := by rw [beq_eq_false_iff_ne]; omega
  obtain ⟨nb, hnb⟩ : ∃ b, b = nameB s := ⟨_, rfl⟩
  have hnbH : Hid (nb = nameB s) := hnb
  clear hnb
  go_upto_region 4 with fail
  refine wp_region_lit ?_
  refine sl_run rfl (.string s) W3 (by kernel_rfl) ?_
  simp only [Act.put, List.setIfInBounds_toArray, List.set_cons_zero, List.set_cons_succ]
  refine sg_call (by kernel_rfl) 33 #[.string s] (by kernel_rfl) (R := fun v w' => v = .bool nb ∧ Below W3.heap.size W3 w') ((hnbH.out ▸ name_calls s W3).mono fun e w' h => ⟨_, h.1, rfl, h.2⟩) ?_
  rintro _ W4 ⟨rfl, hb⟩
  simp only [Act.put, List.setIfInBounds_toArray, List.set_cons_zero, List.set_cons_succ]
  have hDW4 : Hid (DiskI W4 D mb d) := (hDW3.out).below hb
  have hBW4 : Hid (Below w.heap.size w W4) := (hBW3.out).trans ((hb).mono (hBW3.out).size)
  have hyW4 : Hid (Rw 1 encB W4 (.slice Ab n cb) b) := (hyW3.out).below hb
  have hrW4 : Hid (Rw 1 encB W4 (.slice A bs.length c) bs) := (hrW3.out).below hb
  have hFW4 : Hid (W4.heap[F]? = some (.cells #[.slice A bs.length c, .int .i64 (su : Int)] 65 (0, 0))) := heap_kept hFW3.out hb
  clear hDW3 hBW3 hyW3 hrW3 hFW3
  clear hb
  cases nb with
  | false =>
    refine sl_run rfl (.bool true) W4 (by kernel_rfl) ?_
    simp only [Act.put, List.setIfInBounds_toArray, List.set_cons_zero, List.set_cons_succ]
    refine sl_run rfl (.bool true) W4 (by kernel_rfl) ?_
    simp only [Act.put, List.setIfInBounds_toArray, List.set_cons_zero, List.set_cons_succ]
    refine wpList_nil ?_
    have hspec := hspH.out
    rw [if_pos hnbH.out.symm] at hspec
    clear hspH hnbH her hI1 hI2
    injection hspec with e1 e2
    subst e1 e2
    have hE : Hid (DiskI W4 D mb d ∧ KpS (TD D mb) w W4) := And.intro hDW4.out (KpS.of hBW4.out)
    clear hfS hfiH
    clear hDW4 hBW4 hyW4 hrW4 hFW4
    go_wp2_with fail
    go_ret
    exact ⟨rfl, hE.out.1, hE.out.2⟩
  | true =>
    refine sl_run rfl (.bool false) W4 (by kernel_rfl) ?_
    simp only [Act.put, List.setIfInBounds_toArray, List.set_cons_zero, List.set_cons_succ]
    refine sl_run rfl (.bool false) W4 (by kernel_rfl) ?_
    simp only [Act.put, List.setIfInBounds_toArray, List.set_cons_zero, List.set_cons_succ]
    refine wpList_nil ?_
    have hspec := hspH.out
    rw [if_neg (by rw [← hnbH.out]; decide)] at hspec
    have hsp2 : Hid ((if er = 4 ∧ 8 ≤ d.L.length then (d, 3) else if 1048576 < b.length ∨ 1048576 < bs.length + b.length then (d, 3)
        else ({ d.used b.length with L := DS.putL d.L ⟨s, bs ++ b.take (d.useN b.length), su⟩ }, if d.useOk b.length then 0 else 20)) = (d1, ee)) := hspec
    clear hspec hspH hnbH
    go_upto_region 6 with fail
    obtain ⟨full, hfull⟩ : ∃ f : Bool, f = decide (er = 4 ∧ 8 ≤ d.L.length) := ⟨_, rfl⟩
    have hfullH : Hid (full = decide (er = 4 ∧ 8 ≤ d.L.length)) := hfull
    clear hfull
    obtain ⟨Lm, hLm, hLl⟩ := hDW4.out.len
    have hLmH : Hid (DM W4 mb Lm) := hLm
    have hLlH : Hid (Lm.length = d.L.length) := hLl
    clear hLm hLl
    go_cut [25] from 26 to 35 (fun s25 wc => s25 = .bool full ∧ wc = W4)
    case first =>
      refine wp_region_lit ?_
      rcases her with rfl | rfl
      · skip
        refine sl_run rfl (.int .i64 0) W4 (by kernel_rfl) ?_
        simp only [Act.put, List.setIfInBounds_toArray, List.set_cons_zero, List.set_cons_succ]
        refine sl_run rfl (.bool false) W4 (by kernel_rfl) ?_
        simp only [Act.put, List.setIfInBounds_toArray, List.set_cons_zero, List.set_cons_succ]
        refine sl_run rfl (.bool false) W4 (by kernel_rfl) ?_
        simp only [Act.put, List.setIfInBounds_toArray, List.set_cons_zero, List.set_cons_succ]
        refine wpList_skip ?hw ?_
        case hw => kernel_rfl
        simp only [Act.put, List.setIfInBounds_toArray, List.set_cons_zero, List.set_cons_succ]
        refine wpList_skip ?hw ?_
        case hw => kernel_rfl
        simp only [Act.put, List.setIfInBounds_toArray, List.set_cons_zero, List.set_cons_succ]
        refine wpList_skip ?hw ?_
        case hw => kernel_rfl
        simp only [Act.put, List.setIfInBounds_toArray, List.set_cons_zero, List.set_cons_succ]
        refine wpList_skip ?hw ?_
        case hw => kernel_rfl
        simp only [Act.put, List.setIfInBounds_toArray, List.set_cons_zero, List.set_cons_succ]
        refine wpList_skip ?hw ?_
        case hw => kernel_rfl
        simp only [Act.put, List.setIfInBounds_toArray, List.set_cons_zero, List.set_cons_succ]
        refine wpList_skip ?hw ?_
        case hw => kernel_rfl
        simp only [Act.put, List.setIfInBounds_toArray, List.set_cons_zero, List.set_cons_succ]
        refine sl_run rfl (.bool false) W4 (by kernel_rfl) ?_
        simp only [Act.put, List.setIfInBounds_toArray, List.set_cons_zero, List.set_cons_succ]
        refine sl_run rfl (.bool false) W4 (by kernel_rfl) ?_
        simp only [Act.put, List.setIfInBounds_toArray, List.set_cons_zero, List.set_cons_succ]
        refine wpList_nil ?_
        go_wp2_with fail
        go_meet
        exact ⟨by rw [hfullH.out]; simp, rfl⟩
      · skip
        obtain ⟨g8, hg8⟩ : ∃ g : Bool, g = decide (8 ≤ d.L.length) := ⟨_, rfl⟩
        have hg8H : Hid (g8 = decide (8 ≤ d.L.length)) := hg8
        clear hg8
        refine sl_run rfl (.int .i64 4) W4 (by kernel_rfl) ?_
        simp only [Act.put, List.setIfInBounds_toArray, List.set_cons_zero, List.set_cons_succ]
        refine sl_run rfl (.bool true) W4 (by kernel_rfl) ?_
        simp only [Act.put, List.setIfInBounds_toArray, List.set_cons_zero, List.set_cons_succ]
        refine sl_run rfl (.bool true) W4 (by kernel_rfl) ?_
        simp only [Act.put, List.setIfInBounds_toArray, List.set_cons_zero, List.set_cons_succ]
        refine sg_run (by kernel_rfl) (.pointer (some ⟨D, 0, none⟩)) W4 (by kernel_rfl) ?_
        simp only [Act.put, List.setIfInBounds_toArray, List.set_cons_zero, List.set_cons_succ]
        refine sg_run (by kernel_rfl) (.pointer (some ⟨D, 0, none⟩)) W4 (by kernel_rfl) ?_
        simp only [Act.put, List.setIfInBounds_toArray, List.set_cons_zero, List.set_cons_succ]
        refine sg_run (by kernel_rfl) (.pointer (some ⟨D, 0, none⟩)) W4 (by kernel_rfl) ?_
        simp only [Act.put, List.setIfInBounds_toArray, List.set_cons_zero, List.set_cons_succ]
        refine sg_run (by kernel_rfl) (.map (some mb)) W4 (exec_load_cell 61 W4 _ rfl ⟨D, 0, none⟩ (by kernel_rfl) _ hDW4.out.c0 (fun _ => by kernel_rfl)) ?_
        simp only [Act.put, List.setIfInBounds_toArray, List.set_cons_zero, List.set_cons_succ]
        refine sg_run (by kernel_rfl) (.int .i64 (d.L.length : Int)) W4 (exec_lenm _ rfl mb (by kernel_rfl) hLmH.out _ hLlH.out) ?_
        simp only [Act.put, List.setIfInBounds_toArray, List.set_cons_zero, List.set_cons_succ]
        refine sg_run (by kernel_rfl) (.bool g8) W4 (exec_geq 3 _ _ rfl (d.L.length : Int) 8 (by kernel_rfl) (by kernel_rfl) g8 (by rw [hg8H.out, Bool.eq_iff_iff]; simp; omega)) ?_
        simp only [Act.put, List.setIfInBounds_toArray, List.set_cons_zero, List.set_cons_succ]
        refine sl_run rfl (.bool g8) W4 (by kernel_rfl) ?_
        simp only [Act.put, List.setIfInBounds_toArray, List.set_cons_zero, List.set_cons_succ]
        refine sl_run rfl (.bool g8) W4 (by kernel_rfl) ?_
        simp only [Act.put, List.setIfInBounds_toArray, List.set_cons_zero, List.set_cons_succ]
        refine wpList_nil ?_
        go_wp2_with fail
        go_meet
        exact ⟨by rw [hfullH.out]; rw [hg8H.out]; simp, rfl⟩
    case rest =>
    obtain ⟨rfl, hwc⟩ := hcut
    subst wc
    clear hLmH hLlH
    cases full with
    | true =>
      have hspec := hsp2.out
      rw [if_pos (of_decide_eq_true hfullH.out.symm)] at hspec
      clear hsp2 hfullH her hI1 hI2
      injection hspec with e1 e2
      subst e1 e2
      have hE : Hid (DiskI W4 D mb d ∧ KpS (TD D mb) w W4) := And.intro hDW4.out (KpS.of hBW4.out)
      clear hfS hfiH
      clear hDW4 hBW4 hyW4 hrW4 hFW4
      go_wp2_with fail
      go_ret
      exact ⟨rfl, hE.out.1, hE.out.2⟩
    | false =>
      have hspec := hsp2.out
      rw [if_neg (of_decide_eq_false hfullH.out.symm)] at hspec
      have hsp3 : Hid ((if 1048576 < b.length ∨ 1048576 < bs.length + b.length then (d, 3)
          else ({ d.used b.length with L := DS.putL d.L ⟨s, bs ++ b.take (d.useN b.length), su⟩ }, if d.useOk b.length then 0 else 20)) = (d1, ee)) := hspec
      clear hspec hsp2 hfullH her hI1 hI2
      obtain ⟨big, hbig⟩ : ∃ f : Bool, f = decide (1048576 < b.length ∨ 1048576 < bs.length + b.length) := ⟨_, rfl⟩
      have hbigH : Hid (big = decide (1048576 < b.length ∨ 1048576 < bs.length + b.length)) := hbig
      clear hbig
      go_upto_region 8 with fail
      go_cut [36] from 37 to 48 (fun s36 wc => s36 = .bool big ∧ wc = W4)
      case first =>
        refine wp_region_lit ?_
        have hbl : bs.length ≤ 1048576 := hfiH.out.2
        by_cases p1 : 1048576 < n
        · skip
          refine sl_run rfl (.slice Ab n cb) W4 (by kernel_rfl) ?_
          simp only [Act.put, List.setIfInBounds_toArray, List.set_cons_zero, List.set_cons_succ]
          refine sl_run rfl (.int .i64 (n : Int)) W4 (by kernel_rfl) ?_
          simp only [Act.put, List.setIfInBounds_toArray, List.set_cons_zero, List.set_cons_succ]
          refine sl_run rfl (.bool true) W4 (exec_gtr 3 _ _ rfl (n : Int) 1048576 (by kernel_rfl) (by kernel_rfl) true (decide_eq_true (by omega))) ?_
          simp only [Act.put, List.setIfInBounds_toArray, List.set_cons_zero, List.set_cons_succ]
          refine sl_run rfl (.bool true) W4 (by kernel_rfl) ?_
          simp only [Act.put, List.setIfInBounds_toArray, List.set_cons_zero, List.set_cons_succ]
          refine wpList_skip ?hw ?_
          case hw => kernel_rfl
          simp only [Act.put, List.setIfInBounds_toArray, List.set_cons_zero, List.set_cons_succ]
          refine wpList_skip ?hw ?_
          case hw => kernel_rfl
          simp only [Act.put, List.setIfInBounds_toArray, List.set_cons_zero, List.set_cons_succ]
          refine wpList_skip ?hw ?_
          case hw => kernel_rfl
          simp only [Act.put, List.setIfInBounds_toArray, List.set_cons_zero, List.set_cons_succ]
          refine wpList_skip ?hw ?_
          case hw => kernel_rfl
          simp only [Act.put, List.setIfInBounds_toArray, List.set_cons_zero, List.set_cons_succ]
          refine wpList_skip ?hw ?_
          case hw => kernel_rfl
          simp only [Act.put, List.setIfInBounds_toArray, List.set_cons_zero, List.set_cons_succ]
          refine wpList_skip ?hw ?_
          case hw => kernel_rfl
          simp only [Act.put, List.setIfInBounds_toArray, List.set_cons_zero, List.set_cons_succ]
          refine wpList_skip ?hw ?_
          case hw => kernel_rfl
          simp only [Act.put, List.setIfInBounds_toArray, List.set_cons_zero, List.set_cons_succ]
          refine sl_run rfl (.bool true) W4 (by kernel_rfl) ?_
          simp only [Act.put, List.setIfInBounds_toArray, List.set_cons_zero, List.set_cons_succ]
          refine sl_run rfl (.bool true) W4 (by kernel_rfl) ?_
          simp only [Act.put, List.setIfInBounds_toArray, List.set_cons_zero, List.set_cons_succ]
          refine wpList_nil ?_
          have p1H : Hid (1048576 < n) := p1
          clear p1
          go_wp2_with fail
          go_meet
          exact ⟨by rw [hbigH.out, decide_eq_true (.inl (by rw [← hn'.out]; exact p1H.out))], rfl⟩
        · skip
          obtain ⟨g8, hg8⟩ : ∃ g : Bool, g = decide (1048576 < bs.length + n) := ⟨_, rfl⟩
          have hg8H : Hid (g8 = decide (1048576 < bs.length + n)) := hg8
          clear hg8
          refine sl_run rfl (.slice Ab n cb) W4 (by kernel_rfl) ?_
          simp only [Act.put, List.setIfInBounds_toArray, List.set_cons_zero, List.set_cons_succ]
          refine sl_run rfl (.int .i64 (n : Int)) W4 (by kernel_rfl) ?_
          simp only [Act.put, List.setIfInBounds_toArray, List.set_cons_zero, List.set_cons_succ]
          refine sl_run rfl (.bool false) W4 (exec_gtr 3 _ _ rfl (n : Int) 1048576 (by kernel_rfl) (by kernel_rfl) false (decide_eq_false (by omega))) ?_
          simp only [Act.put, List.setIfInBounds_toArray, List.set_cons_zero, List.set_cons_succ]
          refine sl_run rfl (.bool false) W4 (by kernel_rfl) ?_
          simp only [Act.put, List.setIfInBounds_toArray, List.set_cons_zero, List.set_cons_succ]
          refine sg_run (by kernel_rfl) (.pointer (some ⟨F, 0, none⟩)) W4 (by kernel_rfl) ?_
          simp only [Act.put, List.setIfInBounds_toArray, List.set_cons_zero, List.set_cons_succ]
          refine sg_run (by kernel_rfl) (.slice A bs.length c) W4 (exec_load_cell 30 W4 _ rfl ⟨F, 0, none⟩ (by kernel_rfl) _ (by rw [cell_of_row _ _ _ _ _ _ hFW4.out]; rfl) (fun _ => by kernel_rfl)) ?_
          simp only [Act.put, List.setIfInBounds_toArray, List.set_cons_zero, List.set_cons_succ]
          refine sg_run (by kernel_rfl) (.int .i64 (bs.length : Int)) W4 (by kernel_rfl) ?_
          simp only [Act.put, List.setIfInBounds_toArray, List.set_cons_zero, List.set_cons_succ]
          refine sg_run (by kernel_rfl) (.slice Ab n cb) W4 (by kernel_rfl) ?_
          simp only [Act.put, List.setIfInBounds_toArray, List.set_cons_zero, List.set_cons_succ]
          refine sg_run (by kernel_rfl) (.int .i64 (n : Int)) W4 (by kernel_rfl) ?_
          simp only [Act.put, List.setIfInBounds_toArray, List.set_cons_zero, List.set_cons_succ]
          refine sg_run (by kernel_rfl) (.int .i64 ((bs.length : Int) + (n : Int))) W4 (exec_add2 _ _ rfl (bs.length : Int) (n : Int) (by kernel_rfl) (by kernel_rfl) (by omega) (by omega) W4) ?_
          simp only [Act.put, List.setIfInBounds_toArray, List.set_cons_zero, List.set_cons_succ]
          refine sg_run (by kernel_rfl) (.bool g8) W4 (exec_gtr 3 _ _ rfl ((bs.length : Int) + (n : Int)) 1048576 (by kernel_rfl) (by kernel_rfl) g8 (by rw [hg8H.out, Bool.eq_iff_iff]; simp; omega)) ?_
          simp only [Act.put, List.setIfInBounds_toArray, List.set_cons_zero, List.set_cons_succ]
          refine sl_run rfl (.bool g8) W4 (by kernel_rfl) ?_
          simp only [Act.put, List.setIfInBounds_toArray, List.set_cons_zero, List.set_cons_succ]
          refine sl_run rfl (.bool g8) W4 (by kernel_rfl) ?_
          simp only [Act.put, List.setIfInBounds_toArray, List.set_cons_zero, List.set_cons_succ]
          refine wpList_nil ?_
          have p1H : Hid (¬ 1048576 < n) := p1
          clear p1
          go_wp2_with fail
          go_meet
          exact ⟨by rw [hbigH.out, hg8H.out, ← hn'.out]; congr 1; rw [Bool.eq_iff_iff]; have := p1H.out; simp; omega, rfl⟩
      case rest =>
      obtain ⟨rfl, hwc⟩ := hcut
      subst wc
      cases big with
      | true =>
        have hspec := hsp3.out
        rw [if_pos (of_decide_eq_true hbigH.out.symm)] at hspec
        clear hsp3 hbigH
        injection hspec with e1 e2
        subst e1 e2
        have hE : Hid (DiskI W4 D mb d ∧ KpS (TD D mb) w W4) := And.intro hDW4.out (KpS.of hBW4.out)
        clear hfS hfiH
        clear hDW4 hBW4 hyW4 hrW4 hFW4
        go_wp2_with fail
        go_ret
        exact ⟨rfl, hE.out.1, hE.out.2⟩
      | false =>
        have hspec := hsp3.out
        have hnb9 := of_decide_eq_false hbigH.out.symm
        rw [if_neg hnb9] at hspec
        obtain ⟨got, hgot⟩ : ∃ g, g = d.useN b.length := ⟨_, rfl⟩
        obtain ⟨ok, hok⟩ : ∃ g, g = d.useOk b.length := ⟨_, rfl⟩
        rw [← hgot, ← hok] at hspec
        have hgle : got ≤ n := by
          rw [hgot, hn'.out]
          unfold DS.useN
          split
          · exact Nat.le_refl _
          · exact Nat.min_le_left _ _
        have hspF : Hid (({ d.used b.length with L := DS.putL d.L ⟨s, bs ++ b.take got, su⟩ }, if ok then 0 else 20) = (d1, ee)) := hspec
        have hgotH : Hid (got = d.useN b.length) := hgot
        have hokH : Hid (ok = d.useOk b.length) := hok
        have hbl9 : Hid (bs.length + b.length ≤ 1048576) := by show _ ≤ _; omega
        clear hspec hsp3 hbigH hnb9 hgot hok
        go_upto_region 10 with fail
        refine wp_region_lit ?_
        refine sl_run rfl (.pointer (some ⟨D, 0, none⟩)) W4 (by kernel_rfl) ?_
        simp only [Act.put, List.setIfInBounds_toArray, List.set_cons_zero, List.set_cons_succ]
        refine sl_run rfl (.slice Ab n cb) W4 (by kernel_rfl) ?_
        simp only [Act.put, List.setIfInBounds_toArray, List.set_cons_zero, List.set_cons_succ]
        refine sl_run rfl (.int .i64 (n : Int)) W4 (by kernel_rfl) ?_
        simp only [Act.put, List.setIfInBounds_toArray, List.set_cons_zero, List.set_cons_succ]
        refine sg_call (by kernel_rfl) 34 #[.pointer (some ⟨D, 0, none⟩), .int .i64 (n : Int)] (by kernel_rfl) (R := fun v w' => v = .tuple #[.int .i64 (got : Int), .bool ok] ∧ DiskI w' D mb (d.used b.length) ∧ KpS (TD D mb) W4 w') ?hc ?_
        case hc =>
          refine (use_calls hDW4.out n (by omega)).mono fun e w' h => ?_
          rw [hn'.out, ← hgotH.out, ← hokH.out] at h
          exact ⟨_, h.1, rfl, h.2⟩
        rintro _ W5 ⟨rfl, hD5, hK5⟩
        simp only [Act.put, List.setIfInBounds_toArray, List.set_cons_zero, List.set_cons_succ]
        have hyW5 : Hid (Rw 1 encB W5 (.slice Ab n cb) b) := rw_kpS hDW4.out hyW4.out hK5
        have hrW5 : Hid (Rw 1 encB W5 (.slice A bs.length c) bs) := rw_kpS hDW4.out hrW4.out hK5
        have hFW5 : Hid (W5.heap[F]? = some (.cells #[.slice A bs.length c, .int .i64 (su : Int)] 65 (0, 0))) := hK5.box hDW4.out hFW4.out (by decide)
        have hDW5 : Hid (DiskI W5 D mb (d.used b.length)) := hD5
        have hkW5 : Hid (KpS (TD D mb) w W5) := (KpS.of hBW4.out).trans hK5
        clear hD5 hK5 hgotH hokH
        clear hDW4 hBW4 hyW4 hrW4 hFW4
        refine sl_run rfl (.tuple #[.int .i64 (got : Int), .bool ok]) W5 (by kernel_rfl) ?_
        simp only [Act.put, List.setIfInBounds_toArray, List.set_cons_zero, List.set_cons_succ]
        refine sl_run rfl (.int .i64 (got : Int)) W5 (by kernel_rfl) ?_
        simp only [Act.put, List.setIfInBounds_toArray, List.set_cons_zero, List.set_cons_succ]
        refine sl_run rfl (.bool ok) W5 (by kernel_rfl) ?_
        simp only [Act.put, List.setIfInBounds_toArray, List.set_cons_zero, List.set_cons_succ]
        refine sl_run rfl (.int .i64 (got : Int)) W5 (by kernel_rfl) ?_
        simp only [Act.put, List.setIfInBounds_toArray, List.set_cons_zero, List.set_cons_succ]
        refine sl_run rfl (.bool ok) W5 (by kernel_rfl) ?_
        simp only [Act.put, List.setIfInBounds_toArray, List.set_cons_zero, List.set_cons_succ]
        refine wpList_nil ?_
        obtain ⟨hncb, _⟩ := rw_take hn'.out hyW5.out got hgle
        have htkH : Hid (Rw 1 encB W5 (.slice (if cb = 0 then Ab else Ab.map (·.add 0)) got cb) (b.take got)) := (rw_take hn'.out hyW5.out got hgle).2
        obtain ⟨TA, hTA⟩ : ∃ t, t = (if cb = 0 then Ab else Ab.map (·.add 0)) := ⟨_, rfl⟩
        have hTAH : Hid (TA = (if cb = 0 then Ab else Ab.map (·.add 0))) := hTA
        rw [← hTA] at htkH
        clear hTA
        go_upto_region 11 with fail
        refine wp_normalG ?_
        refine wp_leaves (α := Value × Value) (fun e a => (((((((((a.put (some 56) (.pointer (some ⟨F, 0, none⟩))).put (some 57) (.slice A bs.length c)).put (some 58) e.1).put (some 59) (.slice Ab n cb)).put (some 60) (.int .i64 (got : Int))).put (some 61) (.slice TA got cb)).put (some 62) e.2).put (some 63) (.pointer (some ⟨F, 0, none⟩)))))
          (fun e w' => KpS (fun q => q = F) W5 w' ∧ w'.heap[F]? = some (.cells #[e.2, .int .i64 (su : Int)] 65 (0, 0)) ∧ Rw 1 encB w' e.2 (bs ++ b.take got)) ?_ ?_
        · refine wp_region_held_drew (S := fun w' => KpS (fun q => q = F) W5 w') (by kernel_rfl) (KpS.of (Below.refl _ _).drew) (fun hS => ?_)
          change wpAnyH _ _ _ _ _ 9 (Array.replicate 9 false) _ _
          have hFy : W5.drew.heap[F]? = some (.cells #[.slice A bs.length c, .int .i64 (su : Int)] 65 (0, 0)) := heap_kept hFW5.out (Below.refl _ _).drew
          have hBy : Below W5.heap.size W5 W5.drew := (Below.refl _ _).drew
          generalize hx : W5.drew = y at hS hFy hBy
          clear hx
          refine held_take 0 rfl (by kernel_rfl) (by kernel_rfl) (by kernel_rfl) (.pointer (some ⟨F, 0, none⟩)) (fun _ _ _ h => nomatch h.1) (by kernel_rfl) (fun w' h => by kernel_rfl) hS ?_
          simp only [Act.put, List.setIfInBounds_toArray, List.set_cons_zero, List.set_cons_succ, List.getElem_toArray, List.getElem_cons_succ, List.getElem_cons_zero]
          refine held_take 3 rfl (by kernel_rfl) (by kernel_rfl) (by kernel_rfl) (.slice Ab n cb) (fun _ _ _ h => nomatch h.1) (by kernel_rfl) (fun w' h => by kernel_rfl) hS ?_
          simp only [Act.put, List.setIfInBounds_toArray, List.set_cons_zero, List.set_cons_succ, List.getElem_toArray, List.getElem_cons_succ, List.getElem_cons_zero]
          refine held_take 4 rfl (by kernel_rfl) (by kernel_rfl) (by kernel_rfl) (.int .i64 (got : Int)) (fun _ _ _ h => nomatch h.1) (by kernel_rfl) (fun w' h => by kernel_rfl) hS ?_
          simp only [Act.put, List.setIfInBounds_toArray, List.set_cons_zero, List.set_cons_succ, List.getElem_toArray, List.getElem_cons_succ, List.getElem_cons_zero]
          refine held_take 5 rfl (by kernel_rfl) (by kernel_rfl) (by kernel_rfl) (.slice TA got cb) (fun _ _ _ h => nomatch h.1) (by kernel_rfl) (fun w' h => (exec_takeB _ _ rfl Ab n cb got (by kernel_rfl) (by kernel_rfl) hncb w').trans (by rw [hTAH.out])) hS ?_
          simp only [Act.put, List.setIfInBounds_toArray, List.set_cons_zero, List.set_cons_succ, List.getElem_toArray, List.getElem_cons_succ, List.getElem_cons_zero]
          refine held_run 1 rfl (by kernel_rfl) (by kernel_rfl) (.slice A bs.length c) y ?he hS ?_
          case he => exact exec_load_cell 30 y _ rfl ⟨F, 0, none⟩ (by kernel_rfl) _ (by rw [cell_of_row _ _ _ _ _ _ hFy]; rfl) (fun _ => by kernel_rfl)
          simp only [Act.put, List.setIfInBounds_toArray, List.set_cons_zero, List.set_cons_succ, List.getElem_toArray, List.getElem_cons_succ, List.getElem_cons_zero]
          refine held_call 2 rfl (by kernel_rfl) (by kernel_rfl) 35 #[.slice A bs.length c] (by kernel_rfl) (R := fun u w' => (∃ A2, u = .slice A2 bs.length bs.length) ∧ Rw 1 encB w' u bs ∧ Below y.heap.size y w') ?hc ?_
          case hc =>
            refine (clip2_calls bs (.slice A bs.length c) y (by have := hfiH.out; omega) (hrW5.out.below hBy)).mono fun e w' h => ?_
            obtain ⟨A2, h1, h2, h3⟩ := h
            exact ⟨_, h1, ⟨A2, rfl⟩, h2, h3⟩
          rintro _ y2 ⟨⟨A2, rfl⟩, hr2, hb2⟩
          have hS2 : KpS (fun q => q = F) W5 y2 := hS.trans (KpS.of hb2)
          refine ⟨hS2, ?_⟩
          simp only [Act.put, List.setIfInBounds_toArray, List.set_cons_zero, List.set_cons_succ, List.getElem_toArray, List.getElem_cons_succ, List.getElem_cons_zero]
          have hBy2 : Below W5.heap.size W5 y2 := hBy.trans (hb2.mono hBy.size)
          have hFy2 := heap_kept hFy hb2
          refine held_got 6 rfl (by kernel_rfl) (by kernel_rfl) (R := fun v w' => Rw 1 encB w' v (bs ++ b.take got) ∧ Below y2.heap.size y2 w') ?he ?_
          case he => exact exec_appB _ _ rfl A2 bs.length bs (by kernel_rfl) hr2 (.slice TA got cb) (b.take got) (by kernel_rfl) (htkH.out.below hBy2) (by have := hfiH.out; rw [List.length_take]; omega)
          rintro v3 y3 ⟨hr3, hb3⟩
          have hS3 : KpS (fun q => q = F) W5 y3 := hS2.trans (KpS.of hb3)
          have hFy3 := heap_kept hFy2 hb3
          refine ⟨hS3, ?_⟩
          simp only [Act.put, List.setIfInBounds_toArray, List.set_cons_zero, List.set_cons_succ, List.getElem_toArray, List.getElem_cons_succ, List.getElem_cons_zero]
          clear hS hS2 hFy hFy2 hBy hBy2 hr2 hb2 hb3
          refine held_take 7 rfl (by kernel_rfl) (by kernel_rfl) (by kernel_rfl) (.pointer (some ⟨F, 0, none⟩)) (fun _ _ _ h => nomatch h.1) (by kernel_rfl) (fun w' h => by kernel_rfl) hS3 ?_
          simp only [Act.put, List.setIfInBounds_toArray, List.set_cons_zero, List.set_cons_succ, List.getElem_toArray, List.getElem_cons_succ, List.getElem_cons_zero]
          have hone9 : v3.cells = #[v3] ∧ v3.oneCell' = true := by
            obtain ⟨A9, c9, rfl⟩ := hr3.form
            exact ⟨rfl, rfl⟩
          have hS4 := hS3.set F 0 v3 (.inl rfl)
          have hFy4 : (y3.setCell ⟨F, 0, none⟩ v3).heap[F]? = some (.cells #[v3, .int .i64 (su : Int)] 65 (0, 0)) := heap_setCell_same _ _ _ _ _ _ hFy3
          have hr4 : Rw 1 encB (y3.setCell ⟨F, 0, none⟩ v3) v3 (bs ++ b.take got) := rw_setF hFy3 hr3 0 v3
          refine held_did 8 rfl (by kernel_rfl) (by kernel_rfl) (y3.setCell ⟨F, 0, none⟩ v3) ?he ?hS5 ?_
          case he => exact exec_store_cell 30 _ _ rfl F 0 (by kernel_rfl) v3 (by kernel_rfl) (.slice A bs.length c) (by rw [cell_of_row _ _ _ _ _ _ hFy3]; rfl) (frozen_of_row _ _ _ _ _ hFy3) (fun w => by kernel_rfl) hone9.1 hone9.2
          case hS5 => exact hS4
          simp only [Act.put, List.setIfInBounds_toArray, List.set_cons_zero, List.set_cons_succ, List.getElem_toArray, List.getElem_cons_succ, List.getElem_cons_zero]
          refine wpAnyH_done (by kernel_rfl) ?_ _
          exact ⟨rfl, (.slice A2 bs.length bs.length, v3), by kernel_rfl, hS4, hFy4, hr4⟩
        rintro ⟨v2, v3⟩ W6 ⟨hk6, hF6, hr6⟩
        refine ⟨rfl, ?_⟩
        rename_i hK
        refine hK _ _ ?_
        clear hK
        simp only [Act.put, List.setIfInBounds_toArray, List.set_cons_zero, List.set_cons_succ]
        have hDW6 : Hid (DiskI W6 D mb (d.used b.length)) := hDW5.out.kpF hFW5.out hk6
        have hkW6 : Hid (KpS (TD D mb) w W6) := kp_join hkW5.out hk6 hFle.out
        have hFW6 : Hid (W6.heap[F]? = some (.cells #[v3, .int .i64 (su : Int)] 65 (0, 0))) := hF6
        have hrW6 : Hid (Rw 1 encB W6 v3 (bs ++ b.take got)) := hr6
        clear hk6 hF6 hr6 hDW5 hkW5 hFW5 hyW5 hrW5 htkH hTAH hFle
        go_upto_region 12 with fail
        refine wp_normalG ?_
        refine wp_region_held_drew (S := fun w' => KpS (TD D mb) W6 w' ∧ w'.cell? ⟨D, 0, none⟩ = some (.map (some mb))) (by kernel_rfl) ⟨KpS.of (Below.refl _ _).drew, by rw [(Below.refl W6.heap.size W6).drew.cell (by exact (Array.getElem?_eq_some_iff.1 hDW6.out.row).1)]; exact hDW6.out.c0⟩ (fun hS => ?_)
        change wpAnyH _ _ _ _ _ 7 (Array.replicate 7 false) _ _
        have hDy : DiskI W6.drew D mb (d.used b.length) := hDW6.out.below (Below.refl _ _).drew
        have hvy : Rw 1 encB W6.drew v3 (bs ++ b.take got) := hrW6.out.below (Below.refl _ _).drew
        generalize hx : W6.drew = y at hS hDy hvy
        clear hx
        refine held_take 0 rfl (by kernel_rfl) (by kernel_rfl) (by kernel_rfl) (.pointer (some ⟨D, 0, none⟩)) (fun _ _ _ h => nomatch h.1) (by kernel_rfl) (fun w' h => (by kernel_rfl)) hS ?_
        simp only [Act.put, List.setIfInBounds_toArray, List.set_cons_zero, List.set_cons_succ, List.getElem_toArray, List.getElem_cons_succ, List.getElem_cons_zero]
        refine held_take 1 rfl (by kernel_rfl) (by kernel_rfl) (by kernel_rfl) (.pointer (some ⟨D, 0, none⟩)) (fun _ _ _ h => nomatch h.1) (by kernel_rfl) (fun w' h => (by kernel_rfl)) hS ?_
        simp only [Act.put, List.setIfInBounds_toArray, List.set_cons_zero, List.set_cons_succ, List.getElem_toArray, List.getElem_cons_succ, List.getElem_cons_zero]
        refine held_take 2 rfl (by kernel_rfl) (by kernel_rfl) (by kernel_rfl) (.pointer (some ⟨D, 0, none⟩)) (fun _ _ _ h => nomatch h.1) (by kernel_rfl) (fun w' h => (by kernel_rfl)) hS ?_
        simp only [Act.put, List.setIfInBounds_toArray, List.set_cons_zero, List.set_cons_succ, List.getElem_toArray, List.getElem_cons_succ, List.getElem_cons_zero]
        refine held_take 3 rfl (by kernel_rfl) (by kernel_rfl) (by kernel_rfl) (.map (some mb)) (fun _ _ _ h => nomatch h.1) (by kernel_rfl) (fun w' h => (exec_load_cell 61 w' _ rfl ⟨D, 0, none⟩ (by kernel_rfl) _ h.2 (fun _ => by kernel_rfl))) hS ?_
        simp only [Act.put, List.setIfInBounds_toArray, List.set_cons_zero, List.set_cons_succ, List.getElem_toArray, List.getElem_cons_succ, List.getElem_cons_zero]
        refine held_take 4 rfl (by kernel_rfl) (by kernel_rfl) (by kernel_rfl) (.string s) (fun _ _ _ h => nomatch h.1) (by kernel_rfl) (fun w' h => (by kernel_rfl)) hS ?_
        simp only [Act.put, List.setIfInBounds_toArray, List.set_cons_zero, List.set_cons_succ, List.getElem_toArray, List.getElem_cons_succ, List.getElem_cons_zero]
        refine held_take 5 rfl (by kernel_rfl) (by kernel_rfl) (by kernel_rfl) (.agg (#[v3, .int .i64 (su : Int)])) (fun _ _ _ h => nomatch h.1) (by kernel_rfl) (fun w' h => (exec_load_row 65 w' _ rfl F (by kernel_rfl) 65 (#[v3, .int .i64 (su : Int)]) (0, 0) _ (h.1.box hDW6.out hFW6.out (by decide)) Try.underlying65 rfl (by kernel_rfl))) hS ?_
        simp only [Act.put, List.setIfInBounds_toArray, List.set_cons_zero, List.set_cons_succ, List.getElem_toArray, List.getElem_cons_succ, List.getElem_cons_zero]
        refine held_act 6 rfl (by kernel_rfl) (by kernel_rfl) (R := fun w' => DiskI w' D mb { d.used b.length with L := DS.putL (d.used b.length).L ⟨s, bs ++ b.take got, su⟩ } ∧ KpS (TD D mb) y w') ?he ?_
        case he => exact exec_mapset _ _ _ rfl hDy ⟨s, bs ++ b.take got, su⟩ v3 hvy ⟨by show su ≤ (bs ++ b.take got).length; rw [List.length_append]; have := hfiH.out.1; omega, by show (bs ++ b.take got).length ≤ _; rw [List.length_append, List.length_take]; have := hbl9.out; omega⟩ (by kernel_rfl) (by kernel_rfl) (by kernel_rfl)
        rintro y2 ⟨hD2, hK2⟩
        have hD3 : DiskI y2 D mb d1 := by
          have h8 := hspF.out
          injection h8 with h8 h9
          rw [← h8, ← used_L d b.length]; exact hD2
        have hF : Hid (DiskI y2 D mb d1 ∧ KpS (TD D mb) w y2) := And.intro hD3 (hkW6.out.trans (hS.1.trans hK2))
        refine ⟨⟨hS.1.trans hK2, hD2.c0⟩, ?_⟩
        simp only [Act.put, List.setIfInBounds_toArray, List.set_cons_zero, List.set_cons_succ, List.getElem_toArray, List.getElem_cons_succ, List.getElem_cons_zero]
        have hee : Hid ((if ok then 0 else 20) = ee) := by
          have h8 := hspF.out
          injection h8 with h8 h9
        clear hS hDy hvy hD2 hK2 hD3 hDW6 hkW6 hFW6 hrW6 hspF hbl9 hfS hfiH hn'
        refine wpAnyH_done (by kernel_rfl) ?_ _
        refine ⟨rfl, ?_⟩
        rename_i hK
        refine hK _ _ ?_
        clear hK
        cases ok with
        | true =>
          have e9 : ee = 0 := hee.out.symm
          subst e9
          clear hee
          go_wp2_with fail
          go_ret
          exact ⟨rfl, hF.out.1, hF.out.2⟩
        | false =>
          have e9 : ee = 20 := hee.out.symm
          subst e9
          clear hee
          go_wp2_with fail
          go_ret
          exact ⟨rfl, hF.out.1, hF.out.2⟩
end Go.Proofs.Ytmdfgndjphhgnaa
