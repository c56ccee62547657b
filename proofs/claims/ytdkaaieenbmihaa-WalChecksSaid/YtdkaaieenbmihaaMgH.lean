/-
  Contracts of functions that the laws of this chapter reach, joined.
-/
import Derived.Test.YtdkaaieenbmihaaMgG
import Derived.Deep.Cut
import Derived.Deep.DeepCutAuto
set_option linter.unusedVariables false
set_option linter.unusedSimpArgs false
namespace Go.Proofs.Ytdkaaieenbmihaa
open Go.RowKit
open Sha (vals Bytes Lies bytesC sumB)
open Go.Proofs.Ytdkaaieenbmihaa.Pure (nameB)
section
variable {P : Program} {ops : Array Oper} {Q : Exit → Act → World → Prop} {md : Region.Mode} {S : World → Prop} {fuel : Nat} {listed : Array Bool} {a : Act} {w : World}
/-- Any of three may come up. -/
theorem held_three (i j k : Nat) {oi oj ok : Oper} (hi : ops[i]? = some oi) (hj : ops[j]? = some oj) (hk : ops[k]? = some ok) (hr : Region.ready md ops listed = [i, j, k]) (hwi : Region.wanted oi (yielded ops a.tmps) = true) (hwj : Region.wanted oj (yielded ops a.tmps) = true) (hwk : Region.wanted ok (yielded ops a.tmps) = true)
    (h1 : ∀ K : Act → World → Prop, (∀ a w, S w → wpAnyH P md ops Q S fuel (listed.setIfInBounds i true) a w → K a w) → oi.wp P a w K Q)
    (h2 : ∀ K : Act → World → Prop, (∀ a w, S w → wpAnyH P md ops Q S fuel (listed.setIfInBounds j true) a w → K a w) → oj.wp P a w K Q)
    (h3 : ∀ K : Act → World → Prop, (∀ a w, S w → wpAnyH P md ops Q S fuel (listed.setIfInBounds k true) a w → K a w) → ok.wp P a w K Q) : wpAnyH P md ops Q S (fuel + 1) listed a w :=
  wpAnyH_all hr (by simp) fun x hx => by
    rcases List.mem_cons.1 hx with rfl | hx
    · exact wpOp_step hi fun K' hK => by
        rw [if_pos hwi]
        exact h1 K' fun a w h1 h2 => hK a w ⟨h1, h2⟩
    rcases List.mem_cons.1 hx with rfl | hx
    · exact wpOp_step hj fun K' hK => by
        rw [if_pos hwj]
        exact h2 K' fun a w h1 h2 => hK a w ⟨h1, h2⟩
    · rw [List.mem_singleton.1 hx]
      exact wpOp_step hk fun K' hK => by
        rw [if_pos hwk]
        exact h3 K' fun a w h1 h2 => hK a w ⟨h1, h2⟩
end
/-- The records of payloads, one behind the other; none: too many bytes. -/
def ckB : Nat → List (List Nat) → List Nat → Option (List Nat)
  | _, [], b => some b
  | i, p :: ps, b => if 1048576 < (b ++ (recS ((i + 1 : Nat) : Int) p).1).length then none else ckB (i + 1) ps (b ++ (recS ((i + 1 : Nat) : Int) p).1)
def ckActs (b : List Nat) : List (DS → DS × Nat) := [fun d => d.app nameB nNext b, fun d => d.sync nNext, fun d => d.ren nameB nNext nSnap, cut0]
def chkT (d : DS) (g : LG) : Option (List Nat) → DS × LG × Nat
  | none => (d, g, 3)
  | some b => if (actsS (ckActs b) d).2 = 0 then ((actsS (ckActs b) d).1, ⟨g.ps, false⟩, 0) else ((actsS (ckActs b) d).1, ⟨g.ps, decide ((actsS (ckActs b) d).2 = 20)⟩, (actsS (ckActs b) d).2)
def chkW (d : DS) (g : LG) : DS × LG × Nat := if g.dead = true then (d, g, 20) else chkT d g (ckB 0 g.ps [])
/-- What stands while a checkpoint's bytes are laid. -/
structure CK (w W : World) (Bl Lg Bb : Nat) (vb : Value) (b : List Nat) : Prop where
  bel : Below w.heap.size w W
  bl : bx W Bl (.pointer (some ⟨Lg, 0, none⟩)) 41
  bb : bx W Bb vb 22
  tb : TB W vb b
theorem CK.below {w W W' : World} {Bl Lg Bb : Nat} {vb : Value} {b : List Nat} (h : CK w W Bl Lg Bb vb b) (hb : Below W.heap.size W W') : CK w W' Bl Lg Bb vb b :=
  ⟨h.bel.trans (hb.mono h.bel.size), heap_kept h.bl hb, heap_kept h.bb hb, h.tb.below hb⟩
theorem setP_grown (W : World) (Pp : Nat) (y : Value) : W.grownBy (W.setCell ⟨Pp, 0, none⟩ y) (some Pp) :=
  ⟨rfl, rfl, rfl, by simp [World.setCell], fun j hj hne => setL_kp _ _ _ _ j hj (fun e => hne (by rw [e]))⟩
theorem bx.ne {W : World} {Pp Qq : Nat} {x z : Value} {t t' : TypeId} (h : bx W Pp x t) (h' : bx W Qq z t') (ht : t' ≠ t) : Qq ≠ Pp := fun e => by
  subst e
  unfold bx at h h'
  rw [h] at h'
  injection h' with h'
  injection h' with _ h' _
  exact ht h'.symm
theorem bx.set {W : World} {Pp Qq : Nat} {x y z : Value} {t t' : TypeId} (h' : bx W Qq z t') (h : bx W Pp x t) (ht : t' ≠ t) : bx (W.setCell ⟨Pp, 0, none⟩ y) Qq z t' :=
  (setL_kp _ _ _ _ Qq (Array.getElem?_eq_some_iff.1 h').1 (h.ne h' ht)).trans h'
theorem bx.self {W : World} {Pp : Nat} {x y : Value} {t : TypeId} (h : bx W Pp x t) : bx (W.setCell ⟨Pp, 0, none⟩ y) Pp y t := by
  unfold bx at *
  rw [setCell_eq_setRow W Pp 0 _ _ (0, 0) _ h]
  exact setRow_heap _ _ _ _ _ _ h
theorem CK.set {w W : World} {Bl Lg Bb Pp : Nat} {vb x y : Value} {b : List Nat} {t : TypeId} (h : CK w W Bl Lg Bb vb b) (hP : bx W Pp x t) (h1 : 41 ≠ t) (h2 : 22 ≠ t) (h3 : 5 ≠ t) (hle : w.heap.size ≤ Pp) : CK w (W.setCell ⟨Pp, 0, none⟩ y) Bl Lg Bb vb b :=
  ⟨h.bel.setCell hle _, h.bl.set hP h1, h.bb.set hP h2, h.tb.grown (setP_grown W Pp y) (fun q hq cs fr hc => by
    injection hq with hq
    subst hq
    unfold bx at hP
    rw [hP] at hc
    injection hc with hc
    injection hc with _ hc _
    exact h3 hc.symm)⟩
set_option maxRecDepth 100000 in
set_option maxHeartbeats 32000000 in
theorem LCheck_calls {w : World} {B D mb Lg : Nat} {d : DS} {g : LG} (h : LogI w B D mb Lg d g) (hgl : g.ps.length ≤ 1000000) (hgb : Byt g.ps) (hg9 : ∀ p ∈ g.ps, p.length ≤ 1000000000) :
    Calls Try.prog 18 #[.pointer (some ⟨Lg, 0, none⟩)] w fun e w' => e = .returned (.int .i64 ((chkW d g).2.2 : Int)) ∧ LogI w' B D mb Lg (chkW d g).1 (chkW d g).2.1 ∧ Below B w w' := by
  obtain ⟨T, hT⟩ : ∃ T, T = chkW d g := ⟨_, rfl⟩
  rw [← hT]
  have hTH : Hid (T = chkW d g) := hT
  have hLI : Hid (LogI w B D mb Lg d g) := h
  obtain ⟨v, hr, hp⟩ := h.row
  obtain ⟨Av, cv, rfl⟩ := hp.form
  obtain ⟨np, hnp⟩ : ∃ k, k = g.ps.length := ⟨_, rfl⟩
  rw [← hnp] at hr hp hgl
  obtain ⟨b, hbd⟩ : ∃ b, b = g.dead := ⟨_, rfl⟩
  rw [← hbd] at hr
  have hnpH : Hid (np = g.ps.length) := hnp
  have hbdH : Hid (b = g.dead) := hbd
  have hlo := h.lo
  have hBle : Hid (B ≤ w.heap.size) := hlo.2.2.2
  have hrw : Hid (w.heap[Lg]? = some (.cells #[.pointer (some ⟨D, 0, none⟩), .slice Av np cv, .bool b] 71 (0, 0))) := hr
  have hpw : Hid (PLr w (.slice Av np cv) g.ps) := hp.read
  have hBw : Hid (Below w.heap.size w w) := Below.refl _ _
  have hrow0 := hrw
  have hpl0 := hpw
  have hgbH : Hid (Byt g.ps) := hgb
  have hg9H : Hid (∀ p ∈ g.ps, p.length ≤ 1000000000) := hg9
  clear hr hp h hT hnp hbd hlo hgb hg9
  go_enter Try.func18, Try.ntmps18
  go_upto_region 1 with fail
  generalize hX : World.alloc _ _ = w1
  have hb : Below w.heap.size w w1 := by rw [← hX]; exact (Below.refl _ _).alloc (Nat.le_refl _) _
  obtain ⟨Bl, hBe⟩ : ∃ Bl, Bl = w.heap.size := ⟨_, rfl⟩
  have hb9 : bx w1 Bl (.pointer (some ⟨Lg, 0, none⟩)) 41 := by rw [← hX, hBe]; exact heap_alloc_new _ _
  rw [← hBe]
  clear hX hBe
  have hBw1 : Hid (Below w.heap.size w w1) := (hBw.out).trans ((hb).mono (hBw.out).size)
  have hrw1 : Hid (w1.heap[Lg]? = some (.cells #[.pointer (some ⟨D, 0, none⟩), .slice Av np cv, .bool b] 71 (0, 0))) := heap_kept (hrw.out) hb
  have hpw1 : Hid (PLr w1 (.slice Av np cv) g.ps) := (hpw.out).below hb
  clear hBw hrw hpw
  have hlw1 : Hid (bx w1 Bl (.pointer (some ⟨Lg, 0, none⟩)) 41) := hb9
  clear hb9 hb
  cases b with
  | true =>
    go_upto_region 1 with fail
    refine wp_region_lit ?_
    refine sl_run rfl (.pointer (some ⟨Lg, 0, none⟩)) w1 (exec_load_cell 41 w1 _ rfl ⟨Bl, 0, none⟩ (by kernel_rfl) _ (hlw1.out.cell) (fun _ => by kernel_rfl)) ?_
    simp only [Act.put, fl1, fl2, fl3]
    refine sl_run rfl (.bool false) w1 (by kernel_rfl) ?_
    simp only [Act.put, fl1, fl2, fl3]
    refine sl_run rfl (.bool false) w1 (by kernel_rfl) ?_
    simp only [Act.put, fl1, fl2, fl3]
    refine sg_run (by kernel_rfl) (.pointer (some ⟨Lg, 0, none⟩)) w1 (exec_load_cell 41 w1 _ rfl ⟨Bl, 0, none⟩ (by kernel_rfl) _ (hlw1.out.cell) (fun _ => by kernel_rfl)) ?_
    simp only [Act.put, fl1, fl2, fl3]
    refine sg_run (by kernel_rfl) (.pointer (some ⟨Lg, 0, none⟩)) w1 (by kernel_rfl) ?_
    simp only [Act.put, fl1, fl2, fl3]
    refine sg_run (by kernel_rfl) (.pointer (some ⟨Lg, 2, none⟩)) w1 (by kernel_rfl) ?_
    simp only [Act.put, fl1, fl2, fl3]
    refine sg_run (by kernel_rfl) (.bool true) w1 (exec_load_cell 4 w1 _ rfl ⟨Lg, 2, none⟩ (by kernel_rfl) _ (by rw [cell_of_row _ _ _ _ _ _ hrw1.out]; rfl) (fun _ => by kernel_rfl)) ?_
    simp only [Act.put, fl1, fl2, fl3]
    refine sl_run rfl (.bool true) w1 (by kernel_rfl) ?_
    simp only [Act.put, fl1, fl2, fl3]
    refine wpList_nil ?_
    have hT2 : Hid (T = (d, g, 20)) := by
      show _ = _
      rw [hTH.out]; unfold chkW; rw [if_pos hbdH.out.symm]
    have hF1 : Hid (Below w.heap.size w w1) := hBw1.out
    clear hrow0 hpl0 hBw1 hrw1 hpw1 hlw1
    clear hTH hnpH hbdH hgbH hg9H
    go_wp2_with fail
    go_ret
    refine ⟨?_, ?_, hF1.out.mono hBle.out⟩
    · rw [hT2.out]; rfl
    · rw [hT2.out]; exact hLI.out.below hF1.out
  | false =>
    go_upto_region 1 with fail
    refine wp_region_lit ?_
    refine sl_run rfl (.pointer (some ⟨Lg, 0, none⟩)) w1 (exec_load_cell 41 w1 _ rfl ⟨Bl, 0, none⟩ (by kernel_rfl) _ (hlw1.out.cell) (fun _ => by kernel_rfl)) ?_
    simp only [Act.put, fl1, fl2, fl3]
    refine sl_run rfl (.bool false) w1 (by kernel_rfl) ?_
    simp only [Act.put, fl1, fl2, fl3]
    refine sl_run rfl (.bool false) w1 (by kernel_rfl) ?_
    simp only [Act.put, fl1, fl2, fl3]
    refine sg_run (by kernel_rfl) (.pointer (some ⟨Lg, 0, none⟩)) w1 (exec_load_cell 41 w1 _ rfl ⟨Bl, 0, none⟩ (by kernel_rfl) _ (hlw1.out.cell) (fun _ => by kernel_rfl)) ?_
    simp only [Act.put, fl1, fl2, fl3]
    refine sg_run (by kernel_rfl) (.pointer (some ⟨Lg, 0, none⟩)) w1 (by kernel_rfl) ?_
    simp only [Act.put, fl1, fl2, fl3]
    refine sg_run (by kernel_rfl) (.pointer (some ⟨Lg, 2, none⟩)) w1 (by kernel_rfl) ?_
    simp only [Act.put, fl1, fl2, fl3]
    refine sg_run (by kernel_rfl) (.bool false) w1 (exec_load_cell 4 w1 _ rfl ⟨Lg, 2, none⟩ (by kernel_rfl) _ (by rw [cell_of_row _ _ _ _ _ _ hrw1.out]; rfl) (fun _ => by kernel_rfl)) ?_
    simp only [Act.put, fl1, fl2, fl3]
    refine sl_run rfl (.bool false) w1 (by kernel_rfl) ?_
    simp only [Act.put, fl1, fl2, fl3]
    refine wpList_nil ?_
    go_upto_region 4 with fail
    have hLE0 : Hid (w.heap.size ≤ w1.heap.size) := hBw1.out.size
    generalize hX : World.alloc _ _ = w2
    have hb : Below w1.heap.size w1 w2 := by rw [← hX]; exact (Below.refl _ _).alloc (Nat.le_refl _) _
    obtain ⟨Bb, hBe⟩ : ∃ Bb, Bb = w1.heap.size := ⟨_, rfl⟩
    have hb9 : bx w2 Bb (.slice none 0 0) 22 := by rw [← hX, hBe]; exact heap_alloc_new _ _
    have hbbLE : w.heap.size ≤ Bb := by rw [hBe]; exact hLE0.out
    rw [← hBe]
    clear hLE0
    clear hX hBe
    have hBw2 : Hid (Below w.heap.size w w2) := (hBw1.out).trans ((hb).mono (hBw1.out).size)
    have hrw2 : Hid (w2.heap[Lg]? = some (.cells #[.pointer (some ⟨D, 0, none⟩), .slice Av np cv, .bool false] 71 (0, 0))) := heap_kept (hrw1.out) hb
    have hpw2 : Hid (PLr w2 (.slice Av np cv) g.ps) := (hpw1.out).below hb
    have hlw2 : Hid (bx w2 Bl (.pointer (some ⟨Lg, 0, none⟩)) 41) := heap_kept (hlw1.out) hb
    clear hBw1 hrw1 hpw1 hlw1
    have hbbw2 : Hid (bx w2 Bb (.slice none 0 0) 22) := hb9
    clear hb9 hb
    refine wp_region_lit ?_
    refine sl_run rfl (.pointer (some ⟨Lg, 0, none⟩)) w2 (exec_load_cell 41 w2 _ rfl ⟨Bl, 0, none⟩ (by kernel_rfl) _ (hlw2.out.cell) (fun _ => by kernel_rfl)) ?_
    simp only [Act.put, fl1, fl2, fl3]
    refine sl_run rfl (.pointer (some ⟨Lg, 0, none⟩)) w2 (by kernel_rfl) ?_
    simp only [Act.put, fl1, fl2, fl3]
    refine sl_run rfl (.pointer (some ⟨Lg, 1, none⟩)) w2 (by kernel_rfl) ?_
    simp only [Act.put, fl1, fl2, fl3]
    refine sl_run rfl (.slice Av np cv) w2 (exec_load_cell 30 w2 _ rfl ⟨Lg, 1, none⟩ (by kernel_rfl) _ (by rw [cell_of_row _ _ _ _ _ _ hrw2.out]; rfl) (fun _ => by kernel_rfl)) ?_
    simp only [Act.put, fl1, fl2, fl3]
    refine sl_run rfl (.int .i64 (np : Int)) w2 (by kernel_rfl) ?_
    simp only [Act.put, fl1, fl2, fl3]
    refine sl_run rfl (.int .i64 0) w2 (by kernel_rfl) ?_
    simp only [Act.put, fl1, fl2, fl3]
    refine wpList_nil ?_
    obtain ⟨V, hV⟩ : ∃ V, V = ckB 0 g.ps [] := ⟨_, rfl⟩
    have hVH : Hid (V = ckB 0 g.ps []) := hV
    have hTv : Hid (T = chkT d g V) := by
      show _ = _
      rw [hTH.out, hV]; unfold chkW; rw [if_neg (by rw [← hbdH.out]; decide)]
    have hlenH : Hid (w.heap.size ≤ Bb) := hbbLE
    have hOw2 : Hid (w2.ownsRow w.heap.size 5 1 (.slice none 0 0) ([] : List Nat).length (vals ([] : List Nat))) := World.ownsRow_nil _ _ _ _
    clear hbbLE hV
    go_wp2_with fail
    go_loopw [24] (fun p wr => ∃ (j : Nat) (bs : List Nat) (Ab : Option Addr) (nb cb : Nat), j ≤ np ∧ p = .int .i64 (j : Int) ∧ bs.length ≤ 1048576 ∧ Hid (nb = bs.length) ∧ Hid (ckB j (g.ps.drop j) bs = V) ∧ Hid (Below w.heap.size w wr) ∧ Hid (bx wr Bl (.pointer (some ⟨Lg, 0, none⟩)) 41) ∧ Hid (bx wr Bb (.slice Ab nb cb) 22) ∧ Hid (wr.ownsRow w.heap.size 5 1 (.slice Ab nb cb) bs.length (vals bs))) (fun p _ => np - (intOf p).toNat)
    case atStart => exact ⟨0, [], none, 0, 0, by omega, rfl, by decide, rfl, hVH.out.symm, hBw2, hlw2, hbbw2, hOw2⟩
    case round =>
      clear hBw2 hlw2 hbbw2 hOw2 hrw2 hpw2 hVH
      obtain ⟨j, bs, Ab, nb, cb, hj, rfl, hbs, hnb, hck, hBr, hlr, hbr, hOr⟩ := hrel
      obtain ⟨wo, rfl⟩ : ∃ v : World, v = wr := ⟨_, rfl⟩
      have hBwo : Hid (Below w.heap.size w wo) := hBr.out
      have hlwo : Hid (bx wo Bl (.pointer (some ⟨Lg, 0, none⟩)) 41) := hlr.out
      have hbbwo : Hid (bx wo Bb (.slice Ab nb cb) 22) := hbr.out
      have hOwo : Hid (wo.ownsRow w.heap.size 5 1 (.slice Ab nb cb) bs.length (vals bs)) := hOr.out
      have hckH : Hid (ckB j (g.ps.drop j) bs = V) := hck
      have hnbH : Hid (nb = bs.length) := hnb
      clear hBr hlr hbr hOr hck hnb
      by_cases h1 : j < np
      case pos =>
        have hI : (j : Int) < (np : Int) := by omega
        obtain ⟨gg, oo, x1, rfl, hnc, hel⟩ := hpl0.out.elem j (by rw [← hnpH.out]; exact h1)
        obtain ⟨x, hx⟩ : ∃ x, x = g.ps.getD j default := ⟨_, rfl⟩
        have hxb : Hid (∀ z ∈ x, z < 256) := by rw [hx]; exact hgbH.out.get j (by rw [← hnpH.out]; exact h1)
        have hx9 : x.length ≤ 1000000000 := by
          rw [hx, List.getD_eq_getElem?_getD, List.getElem?_eq_getElem (by rw [← hnpH.out]; exact h1)]
          exact hg9H.out _ (List.getElem_mem _)
        have hdr : Hid (g.ps.drop j = x :: g.ps.drop (j + 1)) := by
          show _ = _
          rw [hx]; exact drop_cons g.ps j (by rw [← hnpH.out]; exact h1)
        rw [← hx] at hel
        clear hx
        obtain ⟨hc0, hx0⟩ := hel.out wo hBwo.out
        obtain ⟨A1, c1, rfl⟩ := hx0.form
        obtain ⟨n1, hn1⟩ : ∃ k, k = x.length := ⟨_, rfl⟩
        rw [← hn1] at hc0 hx0
        have hn1H : Hid (n1 = x.length) := hn1
        have hc0H : Hid (wo.cell? ⟨gg, oo + j * 1, none⟩ = some (.slice A1 n1 c1)) := hc0
        have hx0H : Hid (Rw 1 encB wo (.slice A1 n1 c1) x) := hx0
        obtain ⟨rb, er, hrec⟩ : ∃ u v, recS ((j + 1 : Nat) : Int) x = (u, v) := ⟨_, _, rfl⟩
        have hrecH : Hid (recS ((j + 1 : Nat) : Int) x = (rb, er)) := hrec
        have hrl : rb.length ≤ 9000 := by have := recS_len ((j + 1 : Nat) : Int) x; rw [hrec] at this; exact this
        clear hel hc0 hx0 hn1 hrec
        go_upto_region 5 with fail
        refine wp_region_lit ?_
        refine sl_run rfl (.bool true) wo (exec_lss _ _ _ rfl (j : Int) (np : Int) (by kernel_rfl) (by kernel_rfl) true (decide_eq_true hI)) ?_
        simp only [Act.put, fl1, fl2, fl3]
        refine wpList_nil ?_
        go_upto_region 6 with fail
        refine wp_region_lit ?_
        refine sl_run rfl (.int .i64 (j : Int)) wo (by kernel_rfl) ?_
        simp only [Act.put, fl1, fl2, fl3]
        refine sl_run rfl (.pointer (some ⟨gg, oo + j * 1, none⟩)) wo (exec_index un30s sz30s _ _ rfl gg oo np cv j (by kernel_rfl) (by kernel_rfl) h1 wo) ?_
        simp only [Act.put, fl1, fl2, fl3]
        refine sl_run rfl (.slice A1 n1 c1) wo (exec_load_cell 22 wo _ rfl ⟨gg, oo + j * 1, none⟩ (by kernel_rfl) _ hc0H.out (fun _ => by kernel_rfl)) ?_
        simp only [Act.put, fl1, fl2, fl3]
        refine sl_run rfl (.int .i64 (j : Int)) wo (by kernel_rfl) ?_
        simp only [Act.put, fl1, fl2, fl3]
        refine sl_run rfl (.slice A1 n1 c1) wo (by kernel_rfl) ?_
        simp only [Act.put, fl1, fl2, fl3]
        refine wpList_nil ?_
        go_upto_region 7 with fail
        refine wp_region_lit ?_
        refine sl_run rfl (.int .i64 (j : Int)) wo (by kernel_rfl) ?_
        simp only [Act.put, fl1, fl2, fl3]
        refine sl_run rfl (.int .i64 ((j + 1 : Nat) : Int)) wo ((exec_add2 _ _ rfl (j : Int) 1 (by kernel_rfl) (by kernel_rfl) (by omega) (by omega) _).trans (by rw [Int.natCast_add]; rfl)) ?_
        simp only [Act.put, fl1, fl2, fl3]
        refine sl_run rfl (.slice A1 n1 c1) wo (by kernel_rfl) ?_
        simp only [Act.put, fl1, fl2, fl3]
        refine sg_call (by kernel_rfl) 10 #[.int .i64 ((j + 1 : Nat) : Int), .slice A1 n1 c1] (by kernel_rfl) (R := fun u w' => ∃ v, u = .tuple #[v, .int .i64 (er : Int)] ∧ Rw 1 encB w' v rb ∧ Below wo.heap.size wo w') ?hrc ?_
        case hrc =>
          have h8 := Record_calls ((j + 1 : Nat) : Int) (by omega) x hxb.out A1 n1 c1 hn1H.out (by have := hn1H.out; omega) wo hx0H.out
          rw [hrecH.out] at h8
          exact h8.mono fun e w' h => by
            obtain ⟨v, h1, h2, h3⟩ := h
            exact ⟨_, h1, v, rfl, h2, h3⟩
        rintro _ v1 ⟨r9, rfl, hr0, hb⟩
        simp only [Act.put, fl1, fl2, fl3]
        have hBv1 : Hid (Below w.heap.size w v1) := (hBwo.out).trans ((hb).mono (hBwo.out).size)
        have hlv1 : Hid (bx v1 Bl (.pointer (some ⟨Lg, 0, none⟩)) 41) := heap_kept (hlwo.out) hb
        have hbbv1 : Hid (bx v1 Bb (.slice Ab nb cb) 22) := heap_kept (hbbwo.out) hb
        have hOv1 : Hid (v1.ownsRow w.heap.size 5 1 (.slice Ab nb cb) bs.length (vals bs)) := own_keep (hOwo.out) (fun q hq => (hb).block q ((hOwo.out).lt q hq).2)
        clear hBwo hlwo hbbwo hOwo
        obtain ⟨A5, c5, rfl⟩ := hr0.form
        obtain ⟨n5, hn5⟩ : ∃ k, k = rb.length := ⟨_, rfl⟩
        rw [← hn5] at hr0 ⊢
        have hrbv1 : Hid (Rw 1 encB v1 (.slice A5 n5 c5) rb) := hr0
        clear hr0 hb hn5 hx0H hc0H
        refine sl_run rfl (.tuple #[.slice A5 n5 c5, .int .i64 (er : Int)]) v1 (by kernel_rfl) ?_
        simp only [Act.put, fl1, fl2, fl3]
        refine sl_run rfl (.slice A5 n5 c5) v1 (by kernel_rfl) ?_
        simp only [Act.put, fl1, fl2, fl3]
        refine sl_run rfl (.int .i64 (er : Int)) v1 (by kernel_rfl) ?_
        simp only [Act.put, fl1, fl2, fl3]
        refine sl_run rfl (.slice A5 n5 c5) v1 (by kernel_rfl) ?_
        simp only [Act.put, fl1, fl2, fl3]
        refine sl_run rfl (.int .i64 (er : Int)) v1 (by kernel_rfl) ?_
        simp only [Act.put, fl1, fl2, fl3]
        refine wpList_nil ?_
        go_upto_region 8 with fail
        refine wp_region_lit ?_
        refine sl_run rfl (.slice Ab nb cb) v1 (exec_load_cell 22 v1 _ rfl ⟨Bb, 0, none⟩ (by kernel_rfl) _ (hbbv1.out.cell) (fun _ => by kernel_rfl)) ?_
        simp only [Act.put, fl1, fl2, fl3]
        refine sl_run rfl (.slice A5 n5 c5) v1 (by kernel_rfl) ?_
        simp only [Act.put, fl1, fl2, fl3]
        refine Sha.append22 rfl _ _ rfl (w.heap.size) (.slice Ab nb cb) bs rb (by kernel_rfl) hOv1.out (.slice A5 n5 c5) (by kernel_rfl) (rw_bytes.1 hrbv1.out) (by omega) hBv1.out.size ?_
        intro vv v2 hO9 hg9 _
        simp only [Act.put, fl1, fl2, fl3]
        obtain ⟨Ac, cc, rfl⟩ := own_form hO9
        obtain ⟨nc, hncE⟩ : ∃ k, k = (bs ++ rb).length := ⟨_, rfl⟩
        have hncH : Hid (nc = (bs ++ rb).length) := hncE
        rw [← hncE] at hO9 ⊢
        have hO9' : v2.ownsRow w.heap.size 5 1 (.slice Ac nc cc) (bs ++ rb).length (vals (bs ++ rb)) := by rw [← hncE]; exact hO9
        have hBv2 : Hid (Below w.heap.size w v2) := hBv1.out.grown hg9 hBv1.out.size (fun q hq => (hOv1.out.lt q hq).1)
        have hlv2 : Hid (bx v2 Bl (.pointer (some ⟨Lg, 0, none⟩)) 41) := (hg9.block _ (Array.getElem?_eq_some_iff.1 hlv1.out).1 (own_kind hOv1.out hlv1.out (by decide))).trans hlv1.out
        have hbbv2 : Hid (bx v2 Bb (.slice Ab nb cb) 22) := (hg9.block _ (Array.getElem?_eq_some_iff.1 hbbv1.out).1 (own_kind hOv1.out hbbv1.out (by decide))).trans hbbv1.out
        have hOv2 : Hid (v2.ownsRow w.heap.size 5 1 (.slice Ac nc cc) (bs ++ rb).length (vals (bs ++ rb))) := hO9'
        clear hO9 hO9' hg9 hBv1 hlv1 hbbv1 hOv1 hrbv1 hncE
        refine sl_skipped (by kernel_rfl) (v2.setCell ⟨Bb, 0, none⟩ (.slice Ac nc cc)) ?hsb ?_
        case hsb => exact exec_store_cell 22 _ _ rfl Bb 0 (by kernel_rfl) (.slice Ac nc cc) (by kernel_rfl) (.slice Ab nb cb) hbbv2.out.cell (frozen_of_row _ _ _ _ _ hbbv2.out) (fun w => by kernel_rfl) (by rfl) rfl
        simp only [Act.put, fl1, fl2, fl3]
        have hBv3 : Hid (Below w.heap.size w (v2.setCell ⟨Bb, 0, none⟩ (.slice Ac nc cc))) := hBv2.out.setCell hlenH.out _
        have hlv3 : Hid (bx (v2.setCell ⟨Bb, 0, none⟩ (.slice Ac nc cc)) Bl (.pointer (some ⟨Lg, 0, none⟩)) 41) := hlv2.out.set hbbv2.out (by decide)
        have hbbv3 : Hid (bx (v2.setCell ⟨Bb, 0, none⟩ (.slice Ac nc cc)) Bb (.slice Ac nc cc) 22) := hbbv2.out.self
        have hOv3 : Hid ((v2.setCell ⟨Bb, 0, none⟩ (.slice Ac nc cc)).ownsRow w.heap.size 5 1 (.slice Ac nc cc) (bs ++ rb).length (vals (bs ++ rb))) := own_keep hOv2.out (fun q hq => setL_kp _ _ _ _ q (hOv2.out.lt q hq).2 (fun e => own_kind hOv2.out hbbv2.out (by decide) (by rw [← e, hq])))
        generalize (v2.setCell ⟨Bb, 0, none⟩ (.slice Ac nc cc)) = v3 at hBv3 hlv3 hbbv3 hOv3 ⊢
        clear hBv2 hlv2 hbbv2 hOv2
        refine wpList_nil ?_
        have hck2 : Hid ((if 1048576 < (bs ++ rb).length then none else ckB (j + 1) (g.ps.drop (j + 1)) (bs ++ rb)) = V) := by
          have h8 := hckH.out
          rw [hdr.out, ckB, hrecH.out] at h8
          exact h8
        clear hckH hdr hrecH
        by_cases hbig : 1048576 < nc
        case pos =>
          go_upto_region 9 with fail
          refine wp_region_lit ?_
          refine sl_run rfl (.slice Ac nc cc) v3 (exec_load_cell 22 v3 _ rfl ⟨Bb, 0, none⟩ (by kernel_rfl) _ (hbbv3.out.cell) (fun _ => by kernel_rfl)) ?_
          simp only [Act.put, fl1, fl2, fl3]
          refine sl_run rfl (.int .i64 (nc : Int)) v3 (by kernel_rfl) ?_
          simp only [Act.put, fl1, fl2, fl3]
          refine sl_run rfl (.bool true) v3 (exec_gtr _ _ _ rfl (nc : Int) 1048576 (by kernel_rfl) (by kernel_rfl) true (decide_eq_true (by omega))) ?_
          simp only [Act.put, fl1, fl2, fl3]
          refine wpList_nil ?_
          have hT2 : Hid (T = (d, g, 3)) := by
            have h8 := hck2.out
            rw [if_pos (by rw [← hncH.out]; exact hbig)] at h8
            show _ = _
            rw [hTv.out, ← h8]; rfl
          have hF1 : Hid (Below w.heap.size w v3) := hBv3.out
          clear hBv3 hlv3 hbbv3 hOv3 hrow0 hpl0 hTv hck2 hncH hxb hn1H hnbH
          clear hTH hnpH hbdH hgbH hg9H
          go_wp2_with fail
          go_ret
          refine ⟨?_, ?_, hF1.out.mono hBle.out⟩
          · rw [hT2.out]; rfl
          · rw [hT2.out]; exact hLI.out.below hF1.out
        case neg =>
        go_upto_region 9 with fail
        refine wp_region_lit ?_
        refine sl_run rfl (.slice Ac nc cc) v3 (exec_load_cell 22 v3 _ rfl ⟨Bb, 0, none⟩ (by kernel_rfl) _ (hbbv3.out.cell) (fun _ => by kernel_rfl)) ?_
        simp only [Act.put, fl1, fl2, fl3]
        refine sl_run rfl (.int .i64 (nc : Int)) v3 (by kernel_rfl) ?_
        simp only [Act.put, fl1, fl2, fl3]
        refine sl_run rfl (.bool false) v3 (exec_gtr _ _ _ rfl (nc : Int) 1048576 (by kernel_rfl) (by kernel_rfl) false (decide_eq_false (by omega))) ?_
        simp only [Act.put, fl1, fl2, fl3]
        refine wpList_nil ?_
        go_upto_region 11 with fail
        refine wp_region_lit ?_
        refine sl_run rfl (.int .i64 ((j : Int) + 1)) v3 (exec_add2 _ _ rfl (j : Int) 1 (by kernel_rfl) (by kernel_rfl) (by omega) (by omega) _) ?_
        simp only [Act.put, fl1, fl2, fl3]
        refine sl_run rfl (.int .i64 ((j : Int) + 1)) v3 (by kernel_rfl) ?_
        simp only [Act.put, fl1, fl2, fl3]
        refine wpList_nil ?_
        have hck3 : Hid (ckB (j + 1) (g.ps.drop (j + 1)) (bs ++ rb) = V) := by
          have h8 := hck2.out
          rw [if_neg (by rw [← hncH.out]; exact hbig)] at h8
          exact h8
        clear hck2
        have hbl3 : (bs ++ rb).length ≤ 1048576 := by rw [← hncH.out]; omega
        go_wp2_with fail
        go_roundw
        case rel => exact ⟨j + 1, bs ++ rb, Ac, nc, cc, by omega, by go_num, hbl3, hncH, hck3, hBv3, hlv3, hbbv3, hOv3⟩
        case measure => simp [intOf]; omega
      case neg =>
      have hI : ¬ (j : Int) < (np : Int) := by omega
      have hV2 : V = some bs := by
        have h8 := hckH.out
        rw [List.drop_of_length_le (by rw [← hnpH.out]; omega), ckB] at h8
        exact h8.symm
      have hT3 : Hid (T = if (actsS (ckActs bs) d).2 = 0 then ((actsS (ckActs bs) d).1, ⟨g.ps, false⟩, 0) else ((actsS (ckActs bs) d).1, ⟨g.ps, decide ((actsS (ckActs bs) d).2 = 20)⟩, (actsS (ckActs bs) d).2)) := by
        show _ = _
        rw [hTv.out, hV2]; rfl
      have hCKwo : Hid (CK w wo Bl Lg Bb (.slice Ab nb cb) bs) := ⟨hBwo.out, hlwo.out, hbbwo.out, TB.own hOwo.out⟩
      clear hTv hV2 hckH hBwo hlwo hbbwo hOwo
      go_upto_region 12 with fail
      refine wp_leaves (α := Nat × Nat × Nat) (fun (d : Nat × Nat × Nat) (a : Act) => ((((((((((((((((((a.put (some 43) (.pointer (some ⟨Lg, 0, none⟩))).put (some 44) (.pointer (some ⟨Lg, 0, none⟩))).put (some 45) (.pointer (some ⟨Lg, 0, none⟩))).put (some 46) (.pointer (some ⟨D, 0, none⟩))).put (some 47) (.func (.func 39) #[.pointer (some ⟨D, 0, none⟩)] #[])).put (some 48) (.pointer (some ⟨Lg, 0, none⟩))).put (some 49) (.pointer (some ⟨Lg, 0, none⟩))).put (some 50) (.pointer (some ⟨Lg, 0, none⟩))).put (some 51) (.pointer (some ⟨D, 0, none⟩))).put (some 52) (.func (.func 36) #[.pointer (some ⟨D, 0, none⟩)] #[])).put (some 53) (.pointer (some ⟨Lg, 0, none⟩))).put (some 54) (.pointer (some ⟨Lg, 0, none⟩))).put (some 55) (.pointer (some ⟨Lg, 0, none⟩))).put (some 56) (.pointer (some ⟨D, 0, none⟩))).put (some 57) (.func (.func 41) #[.pointer (some ⟨D, 0, none⟩)] #[])).put (some 8) (.pointer (some ⟨d.1, 0, none⟩))).put (some 9) (.pointer (some ⟨d.2.1, 0, none⟩))).put (some 10) (.pointer (some ⟨d.2.2, 0, none⟩)))) (fun d w' => CK w w' Bl Lg Bb (.slice Ab nb cb) bs ∧ bx w' d.1 (.func (.func 39) #[.pointer (some ⟨D, 0, none⟩)] #[]) 74 ∧ bx w' d.2.1 (.func (.func 36) #[.pointer (some ⟨D, 0, none⟩)] #[]) 69 ∧ bx w' d.2.2 (.func (.func 41) #[.pointer (some ⟨D, 0, none⟩)] #[]) 75) ?leaf ?after
      case leaf =>
        refine wp_normalG ?_
        refine wp_region_held_drew (S := fun w' => Below wo.heap.size wo w') (by kernel_rfl) (Below.refl _ _).drew (fun hS => ?_)
        change wpAnyH _ _ _ _ _ 21 (Array.replicate 21 false) _ _
        generalize hx : wo.drew = y at hS ⊢
        have hCy : Hid (CK w y Bl Lg Bb (.slice Ab nb cb) bs) := hCKwo.out.below hS
        have hZy : Hid (Below wo.heap.size wo y) := hS
        clear hx hS
        have hrd : Hid (∀ w', Below wo.heap.size wo w' → w'.cell? ⟨Bl, 0, none⟩ = some (.pointer (some ⟨Lg, 0, none⟩)) ∧ w'.cell? ⟨Lg, 0, none⟩ = some (.pointer (some ⟨D, 0, none⟩))) := fun w' hb =>
          And.intro (hCKwo.out.below hb).bl.cell (by rw [cell_of_row _ _ _ _ _ _ (heap_kept hrow0.out (hCKwo.out.below hb).bel)]; rfl)
        have hwz : w.heap.size ≤ wo.heap.size := hCKwo.out.bel.size
        refine held_take 0 rfl (by kernel_rfl) (by kernel_rfl) (by kernel_rfl) (.pointer (some ⟨Lg, 0, none⟩)) (fun _ _ _ h => nomatch h.1) (by kernel_rfl) (fun w' h => exec_load_cell 41 w' _ rfl ⟨Bl, 0, none⟩ (by kernel_rfl) _ (hrd.out w' h).1 (fun _ => by kernel_rfl)) hZy.out ?_
        simp only [Act.put, fl1, fl2, fl3, fl4, fl5, fl6]
        refine held_take 1 rfl (by kernel_rfl) (by kernel_rfl) (by kernel_rfl) (.pointer (some ⟨Lg, 0, none⟩)) (fun _ _ _ h => nomatch h.1) (by kernel_rfl) (fun w' h => (by kernel_rfl)) hZy.out ?_
        simp only [Act.put, fl1, fl2, fl3, fl4, fl5, fl6]
        refine held_take 2 rfl (by kernel_rfl) (by kernel_rfl) (by kernel_rfl) (.pointer (some ⟨Lg, 0, none⟩)) (fun _ _ _ h => nomatch h.1) (by kernel_rfl) (fun w' h => (by kernel_rfl)) hZy.out ?_
        simp only [Act.put, fl1, fl2, fl3, fl4, fl5, fl6]
        refine held_take 3 rfl (by kernel_rfl) (by kernel_rfl) (by kernel_rfl) (.pointer (some ⟨D, 0, none⟩)) (fun _ _ _ h => nomatch h.1) (by kernel_rfl) (fun w' h => exec_load_cell 39 w' _ rfl ⟨Lg, 0, none⟩ (by kernel_rfl) _ (hrd.out w' h).2 (fun _ => by kernel_rfl)) hZy.out ?_
        simp only [Act.put, fl1, fl2, fl3, fl4, fl5, fl6]
        refine held_take 4 rfl (by kernel_rfl) (by kernel_rfl) (by kernel_rfl) (.func (.func 39) #[.pointer (some ⟨D, 0, none⟩)] #[]) (fun _ _ _ h => nomatch h.1) (by kernel_rfl) (fun w' h => (by kernel_rfl)) hZy.out ?_
        simp only [Act.put, fl1, fl2, fl3, fl4, fl5, fl6]
        refine held_take 5 rfl (by kernel_rfl) (by kernel_rfl) (by kernel_rfl) (.pointer (some ⟨Lg, 0, none⟩)) (fun _ _ _ h => nomatch h.1) (by kernel_rfl) (fun w' h => exec_load_cell 41 w' _ rfl ⟨Bl, 0, none⟩ (by kernel_rfl) _ (hrd.out w' h).1 (fun _ => by kernel_rfl)) hZy.out ?_
        simp only [Act.put, fl1, fl2, fl3, fl4, fl5, fl6]
        refine held_take 6 rfl (by kernel_rfl) (by kernel_rfl) (by kernel_rfl) (.pointer (some ⟨Lg, 0, none⟩)) (fun _ _ _ h => nomatch h.1) (by kernel_rfl) (fun w' h => (by kernel_rfl)) hZy.out ?_
        simp only [Act.put, fl1, fl2, fl3, fl4, fl5, fl6]
        refine held_take 7 rfl (by kernel_rfl) (by kernel_rfl) (by kernel_rfl) (.pointer (some ⟨Lg, 0, none⟩)) (fun _ _ _ h => nomatch h.1) (by kernel_rfl) (fun w' h => (by kernel_rfl)) hZy.out ?_
        simp only [Act.put, fl1, fl2, fl3, fl4, fl5, fl6]
        refine held_take 8 rfl (by kernel_rfl) (by kernel_rfl) (by kernel_rfl) (.pointer (some ⟨D, 0, none⟩)) (fun _ _ _ h => nomatch h.1) (by kernel_rfl) (fun w' h => exec_load_cell 39 w' _ rfl ⟨Lg, 0, none⟩ (by kernel_rfl) _ (hrd.out w' h).2 (fun _ => by kernel_rfl)) hZy.out ?_
        simp only [Act.put, fl1, fl2, fl3, fl4, fl5, fl6]
        refine held_take 9 rfl (by kernel_rfl) (by kernel_rfl) (by kernel_rfl) (.func (.func 36) #[.pointer (some ⟨D, 0, none⟩)] #[]) (fun _ _ _ h => nomatch h.1) (by kernel_rfl) (fun w' h => (by kernel_rfl)) hZy.out ?_
        simp only [Act.put, fl1, fl2, fl3, fl4, fl5, fl6]
        refine held_take 10 rfl (by kernel_rfl) (by kernel_rfl) (by kernel_rfl) (.pointer (some ⟨Lg, 0, none⟩)) (fun _ _ _ h => nomatch h.1) (by kernel_rfl) (fun w' h => exec_load_cell 41 w' _ rfl ⟨Bl, 0, none⟩ (by kernel_rfl) _ (hrd.out w' h).1 (fun _ => by kernel_rfl)) hZy.out ?_
        simp only [Act.put, fl1, fl2, fl3, fl4, fl5, fl6]
        refine held_take 11 rfl (by kernel_rfl) (by kernel_rfl) (by kernel_rfl) (.pointer (some ⟨Lg, 0, none⟩)) (fun _ _ _ h => nomatch h.1) (by kernel_rfl) (fun w' h => (by kernel_rfl)) hZy.out ?_
        simp only [Act.put, fl1, fl2, fl3, fl4, fl5, fl6]
        refine held_take 12 rfl (by kernel_rfl) (by kernel_rfl) (by kernel_rfl) (.pointer (some ⟨Lg, 0, none⟩)) (fun _ _ _ h => nomatch h.1) (by kernel_rfl) (fun w' h => (by kernel_rfl)) hZy.out ?_
        simp only [Act.put, fl1, fl2, fl3, fl4, fl5, fl6]
        refine held_take 13 rfl (by kernel_rfl) (by kernel_rfl) (by kernel_rfl) (.pointer (some ⟨D, 0, none⟩)) (fun _ _ _ h => nomatch h.1) (by kernel_rfl) (fun w' h => exec_load_cell 39 w' _ rfl ⟨Lg, 0, none⟩ (by kernel_rfl) _ (hrd.out w' h).2 (fun _ => by kernel_rfl)) hZy.out ?_
        simp only [Act.put, fl1, fl2, fl3, fl4, fl5, fl6]
        refine held_take 14 rfl (by kernel_rfl) (by kernel_rfl) (by kernel_rfl) (.func (.func 41) #[.pointer (some ⟨D, 0, none⟩)] #[]) (fun _ _ _ h => nomatch h.1) (by kernel_rfl) (fun w' h => (by kernel_rfl)) hZy.out ?_
        simp only [Act.put, fl1, fl2, fl3, fl4, fl5, fl6]
        clear hrd
        refine held_three 15 16 17 rfl rfl rfl (by kernel_rfl) (by kernel_rfl) (by kernel_rfl) (by kernel_rfl) ?o1a ?o1b ?o1c
        case o1a =>
          intro K hK
          refine wp_ran (.pointer (some ⟨y.heap.size, 0, none⟩)) (y.alloc (.cells #[.nilFunc] 74)) (by kernel_rfl) ?_
          refine hK _ _ (hZy.out.alloc hZy.out.size _) ?_
          clear hK K
          simp only [Act.put, fl1, fl2, fl3, fl4, fl5, fl6]
          generalize hX : y.alloc (.cells #[.nilFunc] 74) = z1
          have hb : Below y.heap.size y z1 := by rw [← hX]; exact (Below.refl _ _).alloc (Nat.le_refl _) _
          obtain ⟨P5, hPe⟩ : ∃ E, E = y.heap.size := ⟨_, rfl⟩
          have hP0 : bx z1 P5 .nilFunc 74 := by rw [← hX, hPe]; exact heap_alloc_new _ _
          have hP5L : Hid (wo.heap.size ≤ P5) := by rw [hPe]; exact hZy.out.size
          rw [← hPe]
          clear hX hPe
          have hCz1 : Hid (CK w z1 Bl Lg Bb (.slice Ab nb cb) bs) := hCy.out.below hb
          have hZz1 : Hid (Below wo.heap.size wo z1) := hZy.out.trans (hb.mono hZy.out.size)
          have hP5z1 : Hid (bx z1 P5 .nilFunc 74) := hP0
          clear hb hP0 hCy hZy 
          refine held_both 16 17 rfl rfl (by kernel_rfl) (by kernel_rfl) (by kernel_rfl) ?o2a ?o2b
          case o2a =>
            intro K hK
            refine wp_ran (.pointer (some ⟨z1.heap.size, 0, none⟩)) (z1.alloc (.cells #[.nilFunc] 69)) (by kernel_rfl) ?_
            refine hK _ _ (hZz1.out.alloc hZz1.out.size _) ?_
            clear hK K
            simp only [Act.put, fl1, fl2, fl3, fl4, fl5, fl6]
            generalize hX : z1.alloc (.cells #[.nilFunc] 69) = z2
            have hb : Below z1.heap.size z1 z2 := by rw [← hX]; exact (Below.refl _ _).alloc (Nat.le_refl _) _
            obtain ⟨P6, hPe⟩ : ∃ E, E = z1.heap.size := ⟨_, rfl⟩
            have hP0 : bx z2 P6 .nilFunc 69 := by rw [← hX, hPe]; exact heap_alloc_new _ _
            have hP6L : Hid (wo.heap.size ≤ P6) := by rw [hPe]; exact hZz1.out.size
            rw [← hPe]
            clear hX hPe
            have hCz2 : Hid (CK w z2 Bl Lg Bb (.slice Ab nb cb) bs) := hCz1.out.below hb
            have hZz2 : Hid (Below wo.heap.size wo z2) := hZz1.out.trans (hb.mono hZz1.out.size)
            have hP6z2 : Hid (bx z2 P6 .nilFunc 69) := hP0
            have hP5z2 : Hid (bx z2 P5 (.nilFunc) 74) := heap_kept hP5z1.out hb
            clear hb hP0 hCz1 hZz1 hP5z1
            refine held_run 17 rfl (by kernel_rfl) (by kernel_rfl) (.pointer (some ⟨z2.heap.size, 0, none⟩)) (z2.alloc (.cells #[.nilFunc] 75)) (by kernel_rfl) (hZz2.out.alloc hZz2.out.size _) ?_
            simp only [Act.put, fl1, fl2, fl3, fl4, fl5, fl6]
            generalize hX : z2.alloc (.cells #[.nilFunc] 75) = z3
            have hb : Below z2.heap.size z2 z3 := by rw [← hX]; exact (Below.refl _ _).alloc (Nat.le_refl _) _
            obtain ⟨P7, hPe⟩ : ∃ E, E = z2.heap.size := ⟨_, rfl⟩
            have hP0 : bx z3 P7 .nilFunc 75 := by rw [← hX, hPe]; exact heap_alloc_new _ _
            have hP7L : Hid (wo.heap.size ≤ P7) := by rw [hPe]; exact hZz2.out.size
            rw [← hPe]
            clear hX hPe
            have hCz3 : Hid (CK w z3 Bl Lg Bb (.slice Ab nb cb) bs) := hCz2.out.below hb
            have hZz3 : Hid (Below wo.heap.size wo z3) := hZz2.out.trans (hb.mono hZz2.out.size)
            have hP7z3 : Hid (bx z3 P7 .nilFunc 75) := hP0
            have hP5z3 : Hid (bx z3 P5 (.nilFunc) 74) := heap_kept hP5z2.out hb
            have hP6z3 : Hid (bx z3 P6 (.nilFunc) 69) := heap_kept hP6z2.out hb
            clear hb hP0 hCz2 hZz2 hP5z2 hP6z2
            refine held_did 18 rfl (by kernel_rfl) (by kernel_rfl) (z3.setCell ⟨P5, 0, none⟩ (.func (.func 39) #[.pointer (some ⟨D, 0, none⟩)] #[])) (exec_store_cell 74 _ _ rfl P5 0 (by kernel_rfl) (.func (.func 39) #[.pointer (some ⟨D, 0, none⟩)] #[]) (by kernel_rfl) .nilFunc hP5z3.out.cell (frozen_of_row _ _ _ _ _ hP5z3.out) (fun w => by kernel_rfl) (by rfl) rfl) (hZz3.out.setCell hP5L.out _) ?_
            simp only [Act.put, fl1, fl2, fl3, fl4, fl5, fl6]
            have hCz4 : Hid (CK w (z3.setCell ⟨P5, 0, none⟩ (.func (.func 39) #[.pointer (some ⟨D, 0, none⟩)] #[])) Bl Lg Bb (.slice Ab nb cb) bs) := hCz3.out.set hP5z3.out (by decide) (by decide) (by decide) (Nat.le_trans hwz hP5L.out)
            have hZz4 : Hid (Below wo.heap.size wo (z3.setCell ⟨P5, 0, none⟩ (.func (.func 39) #[.pointer (some ⟨D, 0, none⟩)] #[]))) := (hZz3.out.setCell hP5L.out _)
            have hP5z4 : Hid (bx (z3.setCell ⟨P5, 0, none⟩ (.func (.func 39) #[.pointer (some ⟨D, 0, none⟩)] #[])) P5 (.func (.func 39) #[.pointer (some ⟨D, 0, none⟩)] #[]) 74) := hP5z3.out.self
            have hP6z4 : Hid (bx (z3.setCell ⟨P5, 0, none⟩ (.func (.func 39) #[.pointer (some ⟨D, 0, none⟩)] #[])) P6 (.nilFunc) 69) := hP6z3.out.set hP5z3.out (by decide)
            have hP7z4 : Hid (bx (z3.setCell ⟨P5, 0, none⟩ (.func (.func 39) #[.pointer (some ⟨D, 0, none⟩)] #[])) P7 (.nilFunc) 75) := hP7z3.out.set hP5z3.out (by decide)
            generalize (z3.setCell ⟨P5, 0, none⟩ (.func (.func 39) #[.pointer (some ⟨D, 0, none⟩)] #[])) = z4 at hCz4 hZz4 hP5z4 hP6z4 hP7z4 ⊢
            clear hCz3 hZz3 hP5z3 hP6z3 hP7z3
            refine held_did 19 rfl (by kernel_rfl) (by kernel_rfl) (z4.setCell ⟨P6, 0, none⟩ (.func (.func 36) #[.pointer (some ⟨D, 0, none⟩)] #[])) (exec_store_cell 69 _ _ rfl P6 0 (by kernel_rfl) (.func (.func 36) #[.pointer (some ⟨D, 0, none⟩)] #[]) (by kernel_rfl) .nilFunc hP6z4.out.cell (frozen_of_row _ _ _ _ _ hP6z4.out) (fun w => by kernel_rfl) (by rfl) rfl) (hZz4.out.setCell hP6L.out _) ?_
            simp only [Act.put, fl1, fl2, fl3, fl4, fl5, fl6]
            have hCz5 : Hid (CK w (z4.setCell ⟨P6, 0, none⟩ (.func (.func 36) #[.pointer (some ⟨D, 0, none⟩)] #[])) Bl Lg Bb (.slice Ab nb cb) bs) := hCz4.out.set hP6z4.out (by decide) (by decide) (by decide) (Nat.le_trans hwz hP6L.out)
            have hZz5 : Hid (Below wo.heap.size wo (z4.setCell ⟨P6, 0, none⟩ (.func (.func 36) #[.pointer (some ⟨D, 0, none⟩)] #[]))) := (hZz4.out.setCell hP6L.out _)
            have hP6z5 : Hid (bx (z4.setCell ⟨P6, 0, none⟩ (.func (.func 36) #[.pointer (some ⟨D, 0, none⟩)] #[])) P6 (.func (.func 36) #[.pointer (some ⟨D, 0, none⟩)] #[]) 69) := hP6z4.out.self
            have hP5z5 : Hid (bx (z4.setCell ⟨P6, 0, none⟩ (.func (.func 36) #[.pointer (some ⟨D, 0, none⟩)] #[])) P5 (.func (.func 39) #[.pointer (some ⟨D, 0, none⟩)] #[]) 74) := hP5z4.out.set hP6z4.out (by decide)
            have hP7z5 : Hid (bx (z4.setCell ⟨P6, 0, none⟩ (.func (.func 36) #[.pointer (some ⟨D, 0, none⟩)] #[])) P7 (.nilFunc) 75) := hP7z4.out.set hP6z4.out (by decide)
            generalize (z4.setCell ⟨P6, 0, none⟩ (.func (.func 36) #[.pointer (some ⟨D, 0, none⟩)] #[])) = z5 at hCz5 hZz5 hP5z5 hP6z5 hP7z5 ⊢
            clear hCz4 hZz4 hP5z4 hP6z4 hP7z4
            refine held_did 20 rfl (by kernel_rfl) (by kernel_rfl) (z5.setCell ⟨P7, 0, none⟩ (.func (.func 41) #[.pointer (some ⟨D, 0, none⟩)] #[])) (exec_store_cell 75 _ _ rfl P7 0 (by kernel_rfl) (.func (.func 41) #[.pointer (some ⟨D, 0, none⟩)] #[]) (by kernel_rfl) .nilFunc hP7z5.out.cell (frozen_of_row _ _ _ _ _ hP7z5.out) (fun w => by kernel_rfl) (by rfl) rfl) (hZz5.out.setCell hP7L.out _) ?_
            simp only [Act.put, fl1, fl2, fl3, fl4, fl5, fl6]
            have hCz6 : Hid (CK w (z5.setCell ⟨P7, 0, none⟩ (.func (.func 41) #[.pointer (some ⟨D, 0, none⟩)] #[])) Bl Lg Bb (.slice Ab nb cb) bs) := hCz5.out.set hP7z5.out (by decide) (by decide) (by decide) (Nat.le_trans hwz hP7L.out)
            have hZz6 : Hid (Below wo.heap.size wo (z5.setCell ⟨P7, 0, none⟩ (.func (.func 41) #[.pointer (some ⟨D, 0, none⟩)] #[]))) := (hZz5.out.setCell hP7L.out _)
            have hP7z6 : Hid (bx (z5.setCell ⟨P7, 0, none⟩ (.func (.func 41) #[.pointer (some ⟨D, 0, none⟩)] #[])) P7 (.func (.func 41) #[.pointer (some ⟨D, 0, none⟩)] #[]) 75) := hP7z5.out.self
            have hP5z6 : Hid (bx (z5.setCell ⟨P7, 0, none⟩ (.func (.func 41) #[.pointer (some ⟨D, 0, none⟩)] #[])) P5 (.func (.func 39) #[.pointer (some ⟨D, 0, none⟩)] #[]) 74) := hP5z5.out.set hP7z5.out (by decide)
            have hP6z6 : Hid (bx (z5.setCell ⟨P7, 0, none⟩ (.func (.func 41) #[.pointer (some ⟨D, 0, none⟩)] #[])) P6 (.func (.func 36) #[.pointer (some ⟨D, 0, none⟩)] #[]) 69) := hP6z5.out.set hP7z5.out (by decide)
            generalize (z5.setCell ⟨P7, 0, none⟩ (.func (.func 41) #[.pointer (some ⟨D, 0, none⟩)] #[])) = z6 at hCz6 hZz6 hP5z6 hP6z6 hP7z6 ⊢
            clear hCz5 hZz5 hP5z5 hP6z5 hP7z5
            refine wpAnyH_done (by kernel_rfl) ?_ _
            refine ⟨rfl, trivial, (P5, P6, P7), ?_, hCz6.out, hP5z6.out, hP6z6.out, hP7z6.out⟩
            kernel_rfl
          case o2b =>
            intro K hK
            refine wp_ran (.pointer (some ⟨z1.heap.size, 0, none⟩)) (z1.alloc (.cells #[.nilFunc] 75)) (by kernel_rfl) ?_
            refine hK _ _ (hZz1.out.alloc hZz1.out.size _) ?_
            clear hK K
            simp only [Act.put, fl1, fl2, fl3, fl4, fl5, fl6]
            generalize hX : z1.alloc (.cells #[.nilFunc] 75) = z7
            have hb : Below z1.heap.size z1 z7 := by rw [← hX]; exact (Below.refl _ _).alloc (Nat.le_refl _) _
            obtain ⟨P7, hPe⟩ : ∃ E, E = z1.heap.size := ⟨_, rfl⟩
            have hP0 : bx z7 P7 .nilFunc 75 := by rw [← hX, hPe]; exact heap_alloc_new _ _
            have hP7L : Hid (wo.heap.size ≤ P7) := by rw [hPe]; exact hZz1.out.size
            rw [← hPe]
            clear hX hPe
            have hCz7 : Hid (CK w z7 Bl Lg Bb (.slice Ab nb cb) bs) := hCz1.out.below hb
            have hZz7 : Hid (Below wo.heap.size wo z7) := hZz1.out.trans (hb.mono hZz1.out.size)
            have hP7z7 : Hid (bx z7 P7 .nilFunc 75) := hP0
            have hP5z7 : Hid (bx z7 P5 (.nilFunc) 74) := heap_kept hP5z1.out hb
            clear hb hP0 hCz1 hZz1 hP5z1
            refine held_run 16 rfl (by kernel_rfl) (by kernel_rfl) (.pointer (some ⟨z7.heap.size, 0, none⟩)) (z7.alloc (.cells #[.nilFunc] 69)) (by kernel_rfl) (hZz7.out.alloc hZz7.out.size _) ?_
            simp only [Act.put, fl1, fl2, fl3, fl4, fl5, fl6]
            generalize hX : z7.alloc (.cells #[.nilFunc] 69) = z8
            have hb : Below z7.heap.size z7 z8 := by rw [← hX]; exact (Below.refl _ _).alloc (Nat.le_refl _) _
            obtain ⟨P6, hPe⟩ : ∃ E, E = z7.heap.size := ⟨_, rfl⟩
            have hP0 : bx z8 P6 .nilFunc 69 := by rw [← hX, hPe]; exact heap_alloc_new _ _
            have hP6L : Hid (wo.heap.size ≤ P6) := by rw [hPe]; exact hZz7.out.size
            rw [← hPe]
            clear hX hPe
            have hCz8 : Hid (CK w z8 Bl Lg Bb (.slice Ab nb cb) bs) := hCz7.out.below hb
            have hZz8 : Hid (Below wo.heap.size wo z8) := hZz7.out.trans (hb.mono hZz7.out.size)
            have hP6z8 : Hid (bx z8 P6 .nilFunc 69) := hP0
            have hP5z8 : Hid (bx z8 P5 (.nilFunc) 74) := heap_kept hP5z7.out hb
            have hP7z8 : Hid (bx z8 P7 (.nilFunc) 75) := heap_kept hP7z7.out hb
            clear hb hP0 hCz7 hZz7 hP5z7 hP7z7
            refine held_did 18 rfl (by kernel_rfl) (by kernel_rfl) (z8.setCell ⟨P5, 0, none⟩ (.func (.func 39) #[.pointer (some ⟨D, 0, none⟩)] #[])) (exec_store_cell 74 _ _ rfl P5 0 (by kernel_rfl) (.func (.func 39) #[.pointer (some ⟨D, 0, none⟩)] #[]) (by kernel_rfl) .nilFunc hP5z8.out.cell (frozen_of_row _ _ _ _ _ hP5z8.out) (fun w => by kernel_rfl) (by rfl) rfl) (hZz8.out.setCell hP5L.out _) ?_
            simp only [Act.put, fl1, fl2, fl3, fl4, fl5, fl6]
            have hCz9 : Hid (CK w (z8.setCell ⟨P5, 0, none⟩ (.func (.func 39) #[.pointer (some ⟨D, 0, none⟩)] #[])) Bl Lg Bb (.slice Ab nb cb) bs) := hCz8.out.set hP5z8.out (by decide) (by decide) (by decide) (Nat.le_trans hwz hP5L.out)
            have hZz9 : Hid (Below wo.heap.size wo (z8.setCell ⟨P5, 0, none⟩ (.func (.func 39) #[.pointer (some ⟨D, 0, none⟩)] #[]))) := (hZz8.out.setCell hP5L.out _)
            have hP5z9 : Hid (bx (z8.setCell ⟨P5, 0, none⟩ (.func (.func 39) #[.pointer (some ⟨D, 0, none⟩)] #[])) P5 (.func (.func 39) #[.pointer (some ⟨D, 0, none⟩)] #[]) 74) := hP5z8.out.self
            have hP6z9 : Hid (bx (z8.setCell ⟨P5, 0, none⟩ (.func (.func 39) #[.pointer (some ⟨D, 0, none⟩)] #[])) P6 (.nilFunc) 69) := hP6z8.out.set hP5z8.out (by decide)
            have hP7z9 : Hid (bx (z8.setCell ⟨P5, 0, none⟩ (.func (.func 39) #[.pointer (some ⟨D, 0, none⟩)] #[])) P7 (.nilFunc) 75) := hP7z8.out.set hP5z8.out (by decide)
            generalize (z8.setCell ⟨P5, 0, none⟩ (.func (.func 39) #[.pointer (some ⟨D, 0, none⟩)] #[])) = z9 at hCz9 hZz9 hP5z9 hP6z9 hP7z9 ⊢
            clear hCz8 hZz8 hP5z8 hP6z8 hP7z8
            refine held_did 19 rfl (by kernel_rfl) (by kernel_rfl) (z9.setCell ⟨P6, 0, none⟩ (.func (.func 36) #[.pointer (some ⟨D, 0, none⟩)] #[])) (exec_store_cell 69 _ _ rfl P6 0 (by kernel_rfl) (.func (.func 36) #[.pointer (some ⟨D, 0, none⟩)] #[]) (by kernel_rfl) .nilFunc hP6z9.out.cell (frozen_of_row _ _ _ _ _ hP6z9.out) (fun w => by kernel_rfl) (by rfl) rfl) (hZz9.out.setCell hP6L.out _) ?_
            simp only [Act.put, fl1, fl2, fl3, fl4, fl5, fl6]
            have hCz10 : Hid (CK w (z9.setCell ⟨P6, 0, none⟩ (.func (.func 36) #[.pointer (some ⟨D, 0, none⟩)] #[])) Bl Lg Bb (.slice Ab nb cb) bs) := hCz9.out.set hP6z9.out (by decide) (by decide) (by decide) (Nat.le_trans hwz hP6L.out)
            have hZz10 : Hid (Below wo.heap.size wo (z9.setCell ⟨P6, 0, none⟩ (.func (.func 36) #[.pointer (some ⟨D, 0, none⟩)] #[]))) := (hZz9.out.setCell hP6L.out _)
            have hP6z10 : Hid (bx (z9.setCell ⟨P6, 0, none⟩ (.func (.func 36) #[.pointer (some ⟨D, 0, none⟩)] #[])) P6 (.func (.func 36) #[.pointer (some ⟨D, 0, none⟩)] #[]) 69) := hP6z9.out.self
            have hP5z10 : Hid (bx (z9.setCell ⟨P6, 0, none⟩ (.func (.func 36) #[.pointer (some ⟨D, 0, none⟩)] #[])) P5 (.func (.func 39) #[.pointer (some ⟨D, 0, none⟩)] #[]) 74) := hP5z9.out.set hP6z9.out (by decide)
            have hP7z10 : Hid (bx (z9.setCell ⟨P6, 0, none⟩ (.func (.func 36) #[.pointer (some ⟨D, 0, none⟩)] #[])) P7 (.nilFunc) 75) := hP7z9.out.set hP6z9.out (by decide)
            generalize (z9.setCell ⟨P6, 0, none⟩ (.func (.func 36) #[.pointer (some ⟨D, 0, none⟩)] #[])) = z10 at hCz10 hZz10 hP5z10 hP6z10 hP7z10 ⊢
            clear hCz9 hZz9 hP5z9 hP6z9 hP7z9
            refine held_did 20 rfl (by kernel_rfl) (by kernel_rfl) (z10.setCell ⟨P7, 0, none⟩ (.func (.func 41) #[.pointer (some ⟨D, 0, none⟩)] #[])) (exec_store_cell 75 _ _ rfl P7 0 (by kernel_rfl) (.func (.func 41) #[.pointer (some ⟨D, 0, none⟩)] #[]) (by kernel_rfl) .nilFunc hP7z10.out.cell (frozen_of_row _ _ _ _ _ hP7z10.out) (fun w => by kernel_rfl) (by rfl) rfl) (hZz10.out.setCell hP7L.out _) ?_
            simp only [Act.put, fl1, fl2, fl3, fl4, fl5, fl6]
            have hCz11 : Hid (CK w (z10.setCell ⟨P7, 0, none⟩ (.func (.func 41) #[.pointer (some ⟨D, 0, none⟩)] #[])) Bl Lg Bb (.slice Ab nb cb) bs) := hCz10.out.set hP7z10.out (by decide) (by decide) (by decide) (Nat.le_trans hwz hP7L.out)
            have hZz11 : Hid (Below wo.heap.size wo (z10.setCell ⟨P7, 0, none⟩ (.func (.func 41) #[.pointer (some ⟨D, 0, none⟩)] #[]))) := (hZz10.out.setCell hP7L.out _)
            have hP7z11 : Hid (bx (z10.setCell ⟨P7, 0, none⟩ (.func (.func 41) #[.pointer (some ⟨D, 0, none⟩)] #[])) P7 (.func (.func 41) #[.pointer (some ⟨D, 0, none⟩)] #[]) 75) := hP7z10.out.self
            have hP5z11 : Hid (bx (z10.setCell ⟨P7, 0, none⟩ (.func (.func 41) #[.pointer (some ⟨D, 0, none⟩)] #[])) P5 (.func (.func 39) #[.pointer (some ⟨D, 0, none⟩)] #[]) 74) := hP5z10.out.set hP7z10.out (by decide)
            have hP6z11 : Hid (bx (z10.setCell ⟨P7, 0, none⟩ (.func (.func 41) #[.pointer (some ⟨D, 0, none⟩)] #[])) P6 (.func (.func 36) #[.pointer (some ⟨D, 0, none⟩)] #[]) 69) := hP6z10.out.set hP7z10.out (by decide)
            generalize (z10.setCell ⟨P7, 0, none⟩ (.func (.func 41) #[.pointer (some ⟨D, 0, none⟩)] #[])) = z11 at hCz11 hZz11 hP5z11 hP6z11 hP7z11 ⊢
            clear hCz10 hZz10 hP5z10 hP6z10 hP7z10
            refine wpAnyH_done (by kernel_rfl) ?_ _
            refine ⟨rfl, trivial, (P5, P6, P7), ?_, hCz11.out, hP5z11.out, hP6z11.out, hP7z11.out⟩
            kernel_rfl
        case o1b =>
          intro K hK
          refine wp_ran (.pointer (some ⟨y.heap.size, 0, none⟩)) (y.alloc (.cells #[.nilFunc] 69)) (by kernel_rfl) ?_
          refine hK _ _ (hZy.out.alloc hZy.out.size _) ?_
          clear hK K
          simp only [Act.put, fl1, fl2, fl3, fl4, fl5, fl6]
          generalize hX : y.alloc (.cells #[.nilFunc] 69) = z12
          have hb : Below y.heap.size y z12 := by rw [← hX]; exact (Below.refl _ _).alloc (Nat.le_refl _) _
          obtain ⟨P6, hPe⟩ : ∃ E, E = y.heap.size := ⟨_, rfl⟩
          have hP0 : bx z12 P6 .nilFunc 69 := by rw [← hX, hPe]; exact heap_alloc_new _ _
          have hP6L : Hid (wo.heap.size ≤ P6) := by rw [hPe]; exact hZy.out.size
          rw [← hPe]
          clear hX hPe
          have hCz12 : Hid (CK w z12 Bl Lg Bb (.slice Ab nb cb) bs) := hCy.out.below hb
          have hZz12 : Hid (Below wo.heap.size wo z12) := hZy.out.trans (hb.mono hZy.out.size)
          have hP6z12 : Hid (bx z12 P6 .nilFunc 69) := hP0
          clear hb hP0 hCy hZy 
          refine held_both 15 17 rfl rfl (by kernel_rfl) (by kernel_rfl) (by kernel_rfl) ?o3a ?o3b
          case o3a =>
            intro K hK
            refine wp_ran (.pointer (some ⟨z12.heap.size, 0, none⟩)) (z12.alloc (.cells #[.nilFunc] 74)) (by kernel_rfl) ?_
            refine hK _ _ (hZz12.out.alloc hZz12.out.size _) ?_
            clear hK K
            simp only [Act.put, fl1, fl2, fl3, fl4, fl5, fl6]
            generalize hX : z12.alloc (.cells #[.nilFunc] 74) = z13
            have hb : Below z12.heap.size z12 z13 := by rw [← hX]; exact (Below.refl _ _).alloc (Nat.le_refl _) _
            obtain ⟨P5, hPe⟩ : ∃ E, E = z12.heap.size := ⟨_, rfl⟩
            have hP0 : bx z13 P5 .nilFunc 74 := by rw [← hX, hPe]; exact heap_alloc_new _ _
            have hP5L : Hid (wo.heap.size ≤ P5) := by rw [hPe]; exact hZz12.out.size
            rw [← hPe]
            clear hX hPe
            have hCz13 : Hid (CK w z13 Bl Lg Bb (.slice Ab nb cb) bs) := hCz12.out.below hb
            have hZz13 : Hid (Below wo.heap.size wo z13) := hZz12.out.trans (hb.mono hZz12.out.size)
            have hP5z13 : Hid (bx z13 P5 .nilFunc 74) := hP0
            have hP6z13 : Hid (bx z13 P6 (.nilFunc) 69) := heap_kept hP6z12.out hb
            clear hb hP0 hCz12 hZz12 hP6z12
            refine held_run 17 rfl (by kernel_rfl) (by kernel_rfl) (.pointer (some ⟨z13.heap.size, 0, none⟩)) (z13.alloc (.cells #[.nilFunc] 75)) (by kernel_rfl) (hZz13.out.alloc hZz13.out.size _) ?_
            simp only [Act.put, fl1, fl2, fl3, fl4, fl5, fl6]
            generalize hX : z13.alloc (.cells #[.nilFunc] 75) = z14
            have hb : Below z13.heap.size z13 z14 := by rw [← hX]; exact (Below.refl _ _).alloc (Nat.le_refl _) _
            obtain ⟨P7, hPe⟩ : ∃ E, E = z13.heap.size := ⟨_, rfl⟩
            have hP0 : bx z14 P7 .nilFunc 75 := by rw [← hX, hPe]; exact heap_alloc_new _ _
            have hP7L : Hid (wo.heap.size ≤ P7) := by rw [hPe]; exact hZz13.out.size
            rw [← hPe]
            clear hX hPe
            have hCz14 : Hid (CK w z14 Bl Lg Bb (.slice Ab nb cb) bs) := hCz13.out.below hb
            have hZz14 : Hid (Below wo.heap.size wo z14) := hZz13.out.trans (hb.mono hZz13.out.size)
            have hP7z14 : Hid (bx z14 P7 .nilFunc 75) := hP0
            have hP5z14 : Hid (bx z14 P5 (.nilFunc) 74) := heap_kept hP5z13.out hb
            have hP6z14 : Hid (bx z14 P6 (.nilFunc) 69) := heap_kept hP6z13.out hb
            clear hb hP0 hCz13 hZz13 hP5z13 hP6z13
            refine held_did 18 rfl (by kernel_rfl) (by kernel_rfl) (z14.setCell ⟨P5, 0, none⟩ (.func (.func 39) #[.pointer (some ⟨D, 0, none⟩)] #[])) (exec_store_cell 74 _ _ rfl P5 0 (by kernel_rfl) (.func (.func 39) #[.pointer (some ⟨D, 0, none⟩)] #[]) (by kernel_rfl) .nilFunc hP5z14.out.cell (frozen_of_row _ _ _ _ _ hP5z14.out) (fun w => by kernel_rfl) (by rfl) rfl) (hZz14.out.setCell hP5L.out _) ?_
            simp only [Act.put, fl1, fl2, fl3, fl4, fl5, fl6]
            have hCz15 : Hid (CK w (z14.setCell ⟨P5, 0, none⟩ (.func (.func 39) #[.pointer (some ⟨D, 0, none⟩)] #[])) Bl Lg Bb (.slice Ab nb cb) bs) := hCz14.out.set hP5z14.out (by decide) (by decide) (by decide) (Nat.le_trans hwz hP5L.out)
            have hZz15 : Hid (Below wo.heap.size wo (z14.setCell ⟨P5, 0, none⟩ (.func (.func 39) #[.pointer (some ⟨D, 0, none⟩)] #[]))) := (hZz14.out.setCell hP5L.out _)
            have hP5z15 : Hid (bx (z14.setCell ⟨P5, 0, none⟩ (.func (.func 39) #[.pointer (some ⟨D, 0, none⟩)] #[])) P5 (.func (.func 39) #[.pointer (some ⟨D, 0, none⟩)] #[]) 74) := hP5z14.out.self
            have hP6z15 : Hid (bx (z14.setCell ⟨P5, 0, none⟩ (.func (.func 39) #[.pointer (some ⟨D, 0, none⟩)] #[])) P6 (.nilFunc) 69) := hP6z14.out.set hP5z14.out (by decide)
            have hP7z15 : Hid (bx (z14.setCell ⟨P5, 0, none⟩ (.func (.func 39) #[.pointer (some ⟨D, 0, none⟩)] #[])) P7 (.nilFunc) 75) := hP7z14.out.set hP5z14.out (by decide)
            generalize (z14.setCell ⟨P5, 0, none⟩ (.func (.func 39) #[.pointer (some ⟨D, 0, none⟩)] #[])) = z15 at hCz15 hZz15 hP5z15 hP6z15 hP7z15 ⊢
            clear hCz14 hZz14 hP5z14 hP6z14 hP7z14
            refine held_did 19 rfl (by kernel_rfl) (by kernel_rfl) (z15.setCell ⟨P6, 0, none⟩ (.func (.func 36) #[.pointer (some ⟨D, 0, none⟩)] #[])) (exec_store_cell 69 _ _ rfl P6 0 (by kernel_rfl) (.func (.func 36) #[.pointer (some ⟨D, 0, none⟩)] #[]) (by kernel_rfl) .nilFunc hP6z15.out.cell (frozen_of_row _ _ _ _ _ hP6z15.out) (fun w => by kernel_rfl) (by rfl) rfl) (hZz15.out.setCell hP6L.out _) ?_
            simp only [Act.put, fl1, fl2, fl3, fl4, fl5, fl6]
            have hCz16 : Hid (CK w (z15.setCell ⟨P6, 0, none⟩ (.func (.func 36) #[.pointer (some ⟨D, 0, none⟩)] #[])) Bl Lg Bb (.slice Ab nb cb) bs) := hCz15.out.set hP6z15.out (by decide) (by decide) (by decide) (Nat.le_trans hwz hP6L.out)
            have hZz16 : Hid (Below wo.heap.size wo (z15.setCell ⟨P6, 0, none⟩ (.func (.func 36) #[.pointer (some ⟨D, 0, none⟩)] #[]))) := (hZz15.out.setCell hP6L.out _)
            have hP6z16 : Hid (bx (z15.setCell ⟨P6, 0, none⟩ (.func (.func 36) #[.pointer (some ⟨D, 0, none⟩)] #[])) P6 (.func (.func 36) #[.pointer (some ⟨D, 0, none⟩)] #[]) 69) := hP6z15.out.self
            have hP5z16 : Hid (bx (z15.setCell ⟨P6, 0, none⟩ (.func (.func 36) #[.pointer (some ⟨D, 0, none⟩)] #[])) P5 (.func (.func 39) #[.pointer (some ⟨D, 0, none⟩)] #[]) 74) := hP5z15.out.set hP6z15.out (by decide)
            have hP7z16 : Hid (bx (z15.setCell ⟨P6, 0, none⟩ (.func (.func 36) #[.pointer (some ⟨D, 0, none⟩)] #[])) P7 (.nilFunc) 75) := hP7z15.out.set hP6z15.out (by decide)
            generalize (z15.setCell ⟨P6, 0, none⟩ (.func (.func 36) #[.pointer (some ⟨D, 0, none⟩)] #[])) = z16 at hCz16 hZz16 hP5z16 hP6z16 hP7z16 ⊢
            clear hCz15 hZz15 hP5z15 hP6z15 hP7z15
            refine held_did 20 rfl (by kernel_rfl) (by kernel_rfl) (z16.setCell ⟨P7, 0, none⟩ (.func (.func 41) #[.pointer (some ⟨D, 0, none⟩)] #[])) (exec_store_cell 75 _ _ rfl P7 0 (by kernel_rfl) (.func (.func 41) #[.pointer (some ⟨D, 0, none⟩)] #[]) (by kernel_rfl) .nilFunc hP7z16.out.cell (frozen_of_row _ _ _ _ _ hP7z16.out) (fun w => by kernel_rfl) (by rfl) rfl) (hZz16.out.setCell hP7L.out _) ?_
            simp only [Act.put, fl1, fl2, fl3, fl4, fl5, fl6]
            have hCz17 : Hid (CK w (z16.setCell ⟨P7, 0, none⟩ (.func (.func 41) #[.pointer (some ⟨D, 0, none⟩)] #[])) Bl Lg Bb (.slice Ab nb cb) bs) := hCz16.out.set hP7z16.out (by decide) (by decide) (by decide) (Nat.le_trans hwz hP7L.out)
            have hZz17 : Hid (Below wo.heap.size wo (z16.setCell ⟨P7, 0, none⟩ (.func (.func 41) #[.pointer (some ⟨D, 0, none⟩)] #[]))) := (hZz16.out.setCell hP7L.out _)
            have hP7z17 : Hid (bx (z16.setCell ⟨P7, 0, none⟩ (.func (.func 41) #[.pointer (some ⟨D, 0, none⟩)] #[])) P7 (.func (.func 41) #[.pointer (some ⟨D, 0, none⟩)] #[]) 75) := hP7z16.out.self
            have hP5z17 : Hid (bx (z16.setCell ⟨P7, 0, none⟩ (.func (.func 41) #[.pointer (some ⟨D, 0, none⟩)] #[])) P5 (.func (.func 39) #[.pointer (some ⟨D, 0, none⟩)] #[]) 74) := hP5z16.out.set hP7z16.out (by decide)
            have hP6z17 : Hid (bx (z16.setCell ⟨P7, 0, none⟩ (.func (.func 41) #[.pointer (some ⟨D, 0, none⟩)] #[])) P6 (.func (.func 36) #[.pointer (some ⟨D, 0, none⟩)] #[]) 69) := hP6z16.out.set hP7z16.out (by decide)
            generalize (z16.setCell ⟨P7, 0, none⟩ (.func (.func 41) #[.pointer (some ⟨D, 0, none⟩)] #[])) = z17 at hCz17 hZz17 hP5z17 hP6z17 hP7z17 ⊢
            clear hCz16 hZz16 hP5z16 hP6z16 hP7z16
            refine wpAnyH_done (by kernel_rfl) ?_ _
            refine ⟨rfl, trivial, (P5, P6, P7), ?_, hCz17.out, hP5z17.out, hP6z17.out, hP7z17.out⟩
            kernel_rfl
          case o3b =>
            intro K hK
            refine wp_ran (.pointer (some ⟨z12.heap.size, 0, none⟩)) (z12.alloc (.cells #[.nilFunc] 75)) (by kernel_rfl) ?_
            refine hK _ _ (hZz12.out.alloc hZz12.out.size _) ?_
            clear hK K
            simp only [Act.put, fl1, fl2, fl3, fl4, fl5, fl6]
            generalize hX : z12.alloc (.cells #[.nilFunc] 75) = z18
            have hb : Below z12.heap.size z12 z18 := by rw [← hX]; exact (Below.refl _ _).alloc (Nat.le_refl _) _
            obtain ⟨P7, hPe⟩ : ∃ E, E = z12.heap.size := ⟨_, rfl⟩
            have hP0 : bx z18 P7 .nilFunc 75 := by rw [← hX, hPe]; exact heap_alloc_new _ _
            have hP7L : Hid (wo.heap.size ≤ P7) := by rw [hPe]; exact hZz12.out.size
            rw [← hPe]
            clear hX hPe
            have hCz18 : Hid (CK w z18 Bl Lg Bb (.slice Ab nb cb) bs) := hCz12.out.below hb
            have hZz18 : Hid (Below wo.heap.size wo z18) := hZz12.out.trans (hb.mono hZz12.out.size)
            have hP7z18 : Hid (bx z18 P7 .nilFunc 75) := hP0
            have hP6z18 : Hid (bx z18 P6 (.nilFunc) 69) := heap_kept hP6z12.out hb
            clear hb hP0 hCz12 hZz12 hP6z12
            refine held_run 15 rfl (by kernel_rfl) (by kernel_rfl) (.pointer (some ⟨z18.heap.size, 0, none⟩)) (z18.alloc (.cells #[.nilFunc] 74)) (by kernel_rfl) (hZz18.out.alloc hZz18.out.size _) ?_
            simp only [Act.put, fl1, fl2, fl3, fl4, fl5, fl6]
            generalize hX : z18.alloc (.cells #[.nilFunc] 74) = z19
            have hb : Below z18.heap.size z18 z19 := by rw [← hX]; exact (Below.refl _ _).alloc (Nat.le_refl _) _
            obtain ⟨P5, hPe⟩ : ∃ E, E = z18.heap.size := ⟨_, rfl⟩
            have hP0 : bx z19 P5 .nilFunc 74 := by rw [← hX, hPe]; exact heap_alloc_new _ _
            have hP5L : Hid (wo.heap.size ≤ P5) := by rw [hPe]; exact hZz18.out.size
            rw [← hPe]
            clear hX hPe
            have hCz19 : Hid (CK w z19 Bl Lg Bb (.slice Ab nb cb) bs) := hCz18.out.below hb
            have hZz19 : Hid (Below wo.heap.size wo z19) := hZz18.out.trans (hb.mono hZz18.out.size)
            have hP5z19 : Hid (bx z19 P5 .nilFunc 74) := hP0
            have hP6z19 : Hid (bx z19 P6 (.nilFunc) 69) := heap_kept hP6z18.out hb
            have hP7z19 : Hid (bx z19 P7 (.nilFunc) 75) := heap_kept hP7z18.out hb
            clear hb hP0 hCz18 hZz18 hP6z18 hP7z18
            refine held_did 18 rfl (by kernel_rfl) (by kernel_rfl) (z19.setCell ⟨P5, 0, none⟩ (.func (.func 39) #[.pointer (some ⟨D, 0, none⟩)] #[])) (exec_store_cell 74 _ _ rfl P5 0 (by kernel_rfl) (.func (.func 39) #[.pointer (some ⟨D, 0, none⟩)] #[]) (by kernel_rfl) .nilFunc hP5z19.out.cell (frozen_of_row _ _ _ _ _ hP5z19.out) (fun w => by kernel_rfl) (by rfl) rfl) (hZz19.out.setCell hP5L.out _) ?_
            simp only [Act.put, fl1, fl2, fl3, fl4, fl5, fl6]
            have hCz20 : Hid (CK w (z19.setCell ⟨P5, 0, none⟩ (.func (.func 39) #[.pointer (some ⟨D, 0, none⟩)] #[])) Bl Lg Bb (.slice Ab nb cb) bs) := hCz19.out.set hP5z19.out (by decide) (by decide) (by decide) (Nat.le_trans hwz hP5L.out)
            have hZz20 : Hid (Below wo.heap.size wo (z19.setCell ⟨P5, 0, none⟩ (.func (.func 39) #[.pointer (some ⟨D, 0, none⟩)] #[]))) := (hZz19.out.setCell hP5L.out _)
            have hP5z20 : Hid (bx (z19.setCell ⟨P5, 0, none⟩ (.func (.func 39) #[.pointer (some ⟨D, 0, none⟩)] #[])) P5 (.func (.func 39) #[.pointer (some ⟨D, 0, none⟩)] #[]) 74) := hP5z19.out.self
            have hP6z20 : Hid (bx (z19.setCell ⟨P5, 0, none⟩ (.func (.func 39) #[.pointer (some ⟨D, 0, none⟩)] #[])) P6 (.nilFunc) 69) := hP6z19.out.set hP5z19.out (by decide)
            have hP7z20 : Hid (bx (z19.setCell ⟨P5, 0, none⟩ (.func (.func 39) #[.pointer (some ⟨D, 0, none⟩)] #[])) P7 (.nilFunc) 75) := hP7z19.out.set hP5z19.out (by decide)
            generalize (z19.setCell ⟨P5, 0, none⟩ (.func (.func 39) #[.pointer (some ⟨D, 0, none⟩)] #[])) = z20 at hCz20 hZz20 hP5z20 hP6z20 hP7z20 ⊢
            clear hCz19 hZz19 hP5z19 hP6z19 hP7z19
            refine held_did 19 rfl (by kernel_rfl) (by kernel_rfl) (z20.setCell ⟨P6, 0, none⟩ (.func (.func 36) #[.pointer (some ⟨D, 0, none⟩)] #[])) (exec_store_cell 69 _ _ rfl P6 0 (by kernel_rfl) (.func (.func 36) #[.pointer (some ⟨D, 0, none⟩)] #[]) (by kernel_rfl) .nilFunc hP6z20.out.cell (frozen_of_row _ _ _ _ _ hP6z20.out) (fun w => by kernel_rfl) (by rfl) rfl) (hZz20.out.setCell hP6L.out _) ?_
            simp only [Act.put, fl1, fl2, fl3, fl4, fl5, fl6]
            have hCz21 : Hid (CK w (z20.setCell ⟨P6, 0, none⟩ (.func (.func 36) #[.pointer (some ⟨D, 0, none⟩)] #[])) Bl Lg Bb (.slice Ab nb cb) bs) := hCz20.out.set hP6z20.out (by decide) (by decide) (by decide) (Nat.le_trans hwz hP6L.out)
            have hZz21 : Hid (Below wo.heap.size wo (z20.setCell ⟨P6, 0, none⟩ (.func (.func 36) #[.pointer (some ⟨D, 0, none⟩)] #[]))) := (hZz20.out.setCell hP6L.out _)
            have hP6z21 : Hid (bx (z20.setCell ⟨P6, 0, none⟩ (.func (.func 36) #[.pointer (some ⟨D, 0, none⟩)] #[])) P6 (.func (.func 36) #[.pointer (some ⟨D, 0, none⟩)] #[]) 69) := hP6z20.out.self
            have hP5z21 : Hid (bx (z20.setCell ⟨P6, 0, none⟩ (.func (.func 36) #[.pointer (some ⟨D, 0, none⟩)] #[])) P5 (.func (.func 39) #[.pointer (some ⟨D, 0, none⟩)] #[]) 74) := hP5z20.out.set hP6z20.out (by decide)
            have hP7z21 : Hid (bx (z20.setCell ⟨P6, 0, none⟩ (.func (.func 36) #[.pointer (some ⟨D, 0, none⟩)] #[])) P7 (.nilFunc) 75) := hP7z20.out.set hP6z20.out (by decide)
            generalize (z20.setCell ⟨P6, 0, none⟩ (.func (.func 36) #[.pointer (some ⟨D, 0, none⟩)] #[])) = z21 at hCz21 hZz21 hP5z21 hP6z21 hP7z21 ⊢
            clear hCz20 hZz20 hP5z20 hP6z20 hP7z20
            refine held_did 20 rfl (by kernel_rfl) (by kernel_rfl) (z21.setCell ⟨P7, 0, none⟩ (.func (.func 41) #[.pointer (some ⟨D, 0, none⟩)] #[])) (exec_store_cell 75 _ _ rfl P7 0 (by kernel_rfl) (.func (.func 41) #[.pointer (some ⟨D, 0, none⟩)] #[]) (by kernel_rfl) .nilFunc hP7z21.out.cell (frozen_of_row _ _ _ _ _ hP7z21.out) (fun w => by kernel_rfl) (by rfl) rfl) (hZz21.out.setCell hP7L.out _) ?_
            simp only [Act.put, fl1, fl2, fl3, fl4, fl5, fl6]
            have hCz22 : Hid (CK w (z21.setCell ⟨P7, 0, none⟩ (.func (.func 41) #[.pointer (some ⟨D, 0, none⟩)] #[])) Bl Lg Bb (.slice Ab nb cb) bs) := hCz21.out.set hP7z21.out (by decide) (by decide) (by decide) (Nat.le_trans hwz hP7L.out)
            have hZz22 : Hid (Below wo.heap.size wo (z21.setCell ⟨P7, 0, none⟩ (.func (.func 41) #[.pointer (some ⟨D, 0, none⟩)] #[]))) := (hZz21.out.setCell hP7L.out _)
            have hP7z22 : Hid (bx (z21.setCell ⟨P7, 0, none⟩ (.func (.func 41) #[.pointer (some ⟨D, 0, none⟩)] #[])) P7 (.func (.func 41) #[.pointer (some ⟨D, 0, none⟩)] #[]) 75) := hP7z21.out.self
            have hP5z22 : Hid (bx (z21.setCell ⟨P7, 0, none⟩ (.func (.func 41) #[.pointer (some ⟨D, 0, none⟩)] #[])) P5 (.func (.func 39) #[.pointer (some ⟨D, 0, none⟩)] #[]) 74) := hP5z21.out.set hP7z21.out (by decide)
            have hP6z22 : Hid (bx (z21.setCell ⟨P7, 0, none⟩ (.func (.func 41) #[.pointer (some ⟨D, 0, none⟩)] #[])) P6 (.func (.func 36) #[.pointer (some ⟨D, 0, none⟩)] #[]) 69) := hP6z21.out.set hP7z21.out (by decide)
            generalize (z21.setCell ⟨P7, 0, none⟩ (.func (.func 41) #[.pointer (some ⟨D, 0, none⟩)] #[])) = z22 at hCz22 hZz22 hP5z22 hP6z22 hP7z22 ⊢
            clear hCz21 hZz21 hP5z21 hP6z21 hP7z21
            refine wpAnyH_done (by kernel_rfl) ?_ _
            refine ⟨rfl, trivial, (P5, P6, P7), ?_, hCz22.out, hP5z22.out, hP6z22.out, hP7z22.out⟩
            kernel_rfl
        case o1c =>
          intro K hK
          refine wp_ran (.pointer (some ⟨y.heap.size, 0, none⟩)) (y.alloc (.cells #[.nilFunc] 75)) (by kernel_rfl) ?_
          refine hK _ _ (hZy.out.alloc hZy.out.size _) ?_
          clear hK K
          simp only [Act.put, fl1, fl2, fl3, fl4, fl5, fl6]
          generalize hX : y.alloc (.cells #[.nilFunc] 75) = z23
          have hb : Below y.heap.size y z23 := by rw [← hX]; exact (Below.refl _ _).alloc (Nat.le_refl _) _
          obtain ⟨P7, hPe⟩ : ∃ E, E = y.heap.size := ⟨_, rfl⟩
          have hP0 : bx z23 P7 .nilFunc 75 := by rw [← hX, hPe]; exact heap_alloc_new _ _
          have hP7L : Hid (wo.heap.size ≤ P7) := by rw [hPe]; exact hZy.out.size
          rw [← hPe]
          clear hX hPe
          have hCz23 : Hid (CK w z23 Bl Lg Bb (.slice Ab nb cb) bs) := hCy.out.below hb
          have hZz23 : Hid (Below wo.heap.size wo z23) := hZy.out.trans (hb.mono hZy.out.size)
          have hP7z23 : Hid (bx z23 P7 .nilFunc 75) := hP0
          clear hb hP0 hCy hZy 
          refine held_both 15 16 rfl rfl (by kernel_rfl) (by kernel_rfl) (by kernel_rfl) ?o4a ?o4b
          case o4a =>
            intro K hK
            refine wp_ran (.pointer (some ⟨z23.heap.size, 0, none⟩)) (z23.alloc (.cells #[.nilFunc] 74)) (by kernel_rfl) ?_
            refine hK _ _ (hZz23.out.alloc hZz23.out.size _) ?_
            clear hK K
            simp only [Act.put, fl1, fl2, fl3, fl4, fl5, fl6]
            generalize hX : z23.alloc (.cells #[.nilFunc] 74) = z24
            have hb : Below z23.heap.size z23 z24 := by rw [← hX]; exact (Below.refl _ _).alloc (Nat.le_refl _) _
            obtain ⟨P5, hPe⟩ : ∃ E, E = z23.heap.size := ⟨_, rfl⟩
            have hP0 : bx z24 P5 .nilFunc 74 := by rw [← hX, hPe]; exact heap_alloc_new _ _
            have hP5L : Hid (wo.heap.size ≤ P5) := by rw [hPe]; exact hZz23.out.size
            rw [← hPe]
            clear hX hPe
            have hCz24 : Hid (CK w z24 Bl Lg Bb (.slice Ab nb cb) bs) := hCz23.out.below hb
            have hZz24 : Hid (Below wo.heap.size wo z24) := hZz23.out.trans (hb.mono hZz23.out.size)
            have hP5z24 : Hid (bx z24 P5 .nilFunc 74) := hP0
            have hP7z24 : Hid (bx z24 P7 (.nilFunc) 75) := heap_kept hP7z23.out hb
            clear hb hP0 hCz23 hZz23 hP7z23
            refine held_run 16 rfl (by kernel_rfl) (by kernel_rfl) (.pointer (some ⟨z24.heap.size, 0, none⟩)) (z24.alloc (.cells #[.nilFunc] 69)) (by kernel_rfl) (hZz24.out.alloc hZz24.out.size _) ?_
            simp only [Act.put, fl1, fl2, fl3, fl4, fl5, fl6]
            generalize hX : z24.alloc (.cells #[.nilFunc] 69) = z25
            have hb : Below z24.heap.size z24 z25 := by rw [← hX]; exact (Below.refl _ _).alloc (Nat.le_refl _) _
            obtain ⟨P6, hPe⟩ : ∃ E, E = z24.heap.size := ⟨_, rfl⟩
            have hP0 : bx z25 P6 .nilFunc 69 := by rw [← hX, hPe]; exact heap_alloc_new _ _
            have hP6L : Hid (wo.heap.size ≤ P6) := by rw [hPe]; exact hZz24.out.size
            rw [← hPe]
            clear hX hPe
            have hCz25 : Hid (CK w z25 Bl Lg Bb (.slice Ab nb cb) bs) := hCz24.out.below hb
            have hZz25 : Hid (Below wo.heap.size wo z25) := hZz24.out.trans (hb.mono hZz24.out.size)
            have hP6z25 : Hid (bx z25 P6 .nilFunc 69) := hP0
            have hP5z25 : Hid (bx z25 P5 (.nilFunc) 74) := heap_kept hP5z24.out hb
            have hP7z25 : Hid (bx z25 P7 (.nilFunc) 75) := heap_kept hP7z24.out hb
            clear hb hP0 hCz24 hZz24 hP5z24 hP7z24
            refine held_did 18 rfl (by kernel_rfl) (by kernel_rfl) (z25.setCell ⟨P5, 0, none⟩ (.func (.func 39) #[.pointer (some ⟨D, 0, none⟩)] #[])) (exec_store_cell 74 _ _ rfl P5 0 (by kernel_rfl) (.func (.func 39) #[.pointer (some ⟨D, 0, none⟩)] #[]) (by kernel_rfl) .nilFunc hP5z25.out.cell (frozen_of_row _ _ _ _ _ hP5z25.out) (fun w => by kernel_rfl) (by rfl) rfl) (hZz25.out.setCell hP5L.out _) ?_
            simp only [Act.put, fl1, fl2, fl3, fl4, fl5, fl6]
            have hCz26 : Hid (CK w (z25.setCell ⟨P5, 0, none⟩ (.func (.func 39) #[.pointer (some ⟨D, 0, none⟩)] #[])) Bl Lg Bb (.slice Ab nb cb) bs) := hCz25.out.set hP5z25.out (by decide) (by decide) (by decide) (Nat.le_trans hwz hP5L.out)
            have hZz26 : Hid (Below wo.heap.size wo (z25.setCell ⟨P5, 0, none⟩ (.func (.func 39) #[.pointer (some ⟨D, 0, none⟩)] #[]))) := (hZz25.out.setCell hP5L.out _)
            have hP5z26 : Hid (bx (z25.setCell ⟨P5, 0, none⟩ (.func (.func 39) #[.pointer (some ⟨D, 0, none⟩)] #[])) P5 (.func (.func 39) #[.pointer (some ⟨D, 0, none⟩)] #[]) 74) := hP5z25.out.self
            have hP6z26 : Hid (bx (z25.setCell ⟨P5, 0, none⟩ (.func (.func 39) #[.pointer (some ⟨D, 0, none⟩)] #[])) P6 (.nilFunc) 69) := hP6z25.out.set hP5z25.out (by decide)
            have hP7z26 : Hid (bx (z25.setCell ⟨P5, 0, none⟩ (.func (.func 39) #[.pointer (some ⟨D, 0, none⟩)] #[])) P7 (.nilFunc) 75) := hP7z25.out.set hP5z25.out (by decide)
            generalize (z25.setCell ⟨P5, 0, none⟩ (.func (.func 39) #[.pointer (some ⟨D, 0, none⟩)] #[])) = z26 at hCz26 hZz26 hP5z26 hP6z26 hP7z26 ⊢
            clear hCz25 hZz25 hP5z25 hP6z25 hP7z25
            refine held_did 19 rfl (by kernel_rfl) (by kernel_rfl) (z26.setCell ⟨P6, 0, none⟩ (.func (.func 36) #[.pointer (some ⟨D, 0, none⟩)] #[])) (exec_store_cell 69 _ _ rfl P6 0 (by kernel_rfl) (.func (.func 36) #[.pointer (some ⟨D, 0, none⟩)] #[]) (by kernel_rfl) .nilFunc hP6z26.out.cell (frozen_of_row _ _ _ _ _ hP6z26.out) (fun w => by kernel_rfl) (by rfl) rfl) (hZz26.out.setCell hP6L.out _) ?_
            simp only [Act.put, fl1, fl2, fl3, fl4, fl5, fl6]
            have hCz27 : Hid (CK w (z26.setCell ⟨P6, 0, none⟩ (.func (.func 36) #[.pointer (some ⟨D, 0, none⟩)] #[])) Bl Lg Bb (.slice Ab nb cb) bs) := hCz26.out.set hP6z26.out (by decide) (by decide) (by decide) (Nat.le_trans hwz hP6L.out)
            have hZz27 : Hid (Below wo.heap.size wo (z26.setCell ⟨P6, 0, none⟩ (.func (.func 36) #[.pointer (some ⟨D, 0, none⟩)] #[]))) := (hZz26.out.setCell hP6L.out _)
            have hP6z27 : Hid (bx (z26.setCell ⟨P6, 0, none⟩ (.func (.func 36) #[.pointer (some ⟨D, 0, none⟩)] #[])) P6 (.func (.func 36) #[.pointer (some ⟨D, 0, none⟩)] #[]) 69) := hP6z26.out.self
            have hP5z27 : Hid (bx (z26.setCell ⟨P6, 0, none⟩ (.func (.func 36) #[.pointer (some ⟨D, 0, none⟩)] #[])) P5 (.func (.func 39) #[.pointer (some ⟨D, 0, none⟩)] #[]) 74) := hP5z26.out.set hP6z26.out (by decide)
            have hP7z27 : Hid (bx (z26.setCell ⟨P6, 0, none⟩ (.func (.func 36) #[.pointer (some ⟨D, 0, none⟩)] #[])) P7 (.nilFunc) 75) := hP7z26.out.set hP6z26.out (by decide)
            generalize (z26.setCell ⟨P6, 0, none⟩ (.func (.func 36) #[.pointer (some ⟨D, 0, none⟩)] #[])) = z27 at hCz27 hZz27 hP5z27 hP6z27 hP7z27 ⊢
            clear hCz26 hZz26 hP5z26 hP6z26 hP7z26
            refine held_did 20 rfl (by kernel_rfl) (by kernel_rfl) (z27.setCell ⟨P7, 0, none⟩ (.func (.func 41) #[.pointer (some ⟨D, 0, none⟩)] #[])) (exec_store_cell 75 _ _ rfl P7 0 (by kernel_rfl) (.func (.func 41) #[.pointer (some ⟨D, 0, none⟩)] #[]) (by kernel_rfl) .nilFunc hP7z27.out.cell (frozen_of_row _ _ _ _ _ hP7z27.out) (fun w => by kernel_rfl) (by rfl) rfl) (hZz27.out.setCell hP7L.out _) ?_
            simp only [Act.put, fl1, fl2, fl3, fl4, fl5, fl6]
            have hCz28 : Hid (CK w (z27.setCell ⟨P7, 0, none⟩ (.func (.func 41) #[.pointer (some ⟨D, 0, none⟩)] #[])) Bl Lg Bb (.slice Ab nb cb) bs) := hCz27.out.set hP7z27.out (by decide) (by decide) (by decide) (Nat.le_trans hwz hP7L.out)
            have hZz28 : Hid (Below wo.heap.size wo (z27.setCell ⟨P7, 0, none⟩ (.func (.func 41) #[.pointer (some ⟨D, 0, none⟩)] #[]))) := (hZz27.out.setCell hP7L.out _)
            have hP7z28 : Hid (bx (z27.setCell ⟨P7, 0, none⟩ (.func (.func 41) #[.pointer (some ⟨D, 0, none⟩)] #[])) P7 (.func (.func 41) #[.pointer (some ⟨D, 0, none⟩)] #[]) 75) := hP7z27.out.self
            have hP5z28 : Hid (bx (z27.setCell ⟨P7, 0, none⟩ (.func (.func 41) #[.pointer (some ⟨D, 0, none⟩)] #[])) P5 (.func (.func 39) #[.pointer (some ⟨D, 0, none⟩)] #[]) 74) := hP5z27.out.set hP7z27.out (by decide)
            have hP6z28 : Hid (bx (z27.setCell ⟨P7, 0, none⟩ (.func (.func 41) #[.pointer (some ⟨D, 0, none⟩)] #[])) P6 (.func (.func 36) #[.pointer (some ⟨D, 0, none⟩)] #[]) 69) := hP6z27.out.set hP7z27.out (by decide)
            generalize (z27.setCell ⟨P7, 0, none⟩ (.func (.func 41) #[.pointer (some ⟨D, 0, none⟩)] #[])) = z28 at hCz28 hZz28 hP5z28 hP6z28 hP7z28 ⊢
            clear hCz27 hZz27 hP5z27 hP6z27 hP7z27
            refine wpAnyH_done (by kernel_rfl) ?_ _
            refine ⟨rfl, trivial, (P5, P6, P7), ?_, hCz28.out, hP5z28.out, hP6z28.out, hP7z28.out⟩
            kernel_rfl
          case o4b =>
            intro K hK
            refine wp_ran (.pointer (some ⟨z23.heap.size, 0, none⟩)) (z23.alloc (.cells #[.nilFunc] 69)) (by kernel_rfl) ?_
            refine hK _ _ (hZz23.out.alloc hZz23.out.size _) ?_
            clear hK K
            simp only [Act.put, fl1, fl2, fl3, fl4, fl5, fl6]
            generalize hX : z23.alloc (.cells #[.nilFunc] 69) = z29
            have hb : Below z23.heap.size z23 z29 := by rw [← hX]; exact (Below.refl _ _).alloc (Nat.le_refl _) _
            obtain ⟨P6, hPe⟩ : ∃ E, E = z23.heap.size := ⟨_, rfl⟩
            have hP0 : bx z29 P6 .nilFunc 69 := by rw [← hX, hPe]; exact heap_alloc_new _ _
            have hP6L : Hid (wo.heap.size ≤ P6) := by rw [hPe]; exact hZz23.out.size
            rw [← hPe]
            clear hX hPe
            have hCz29 : Hid (CK w z29 Bl Lg Bb (.slice Ab nb cb) bs) := hCz23.out.below hb
            have hZz29 : Hid (Below wo.heap.size wo z29) := hZz23.out.trans (hb.mono hZz23.out.size)
            have hP6z29 : Hid (bx z29 P6 .nilFunc 69) := hP0
            have hP7z29 : Hid (bx z29 P7 (.nilFunc) 75) := heap_kept hP7z23.out hb
            clear hb hP0 hCz23 hZz23 hP7z23
            refine held_run 15 rfl (by kernel_rfl) (by kernel_rfl) (.pointer (some ⟨z29.heap.size, 0, none⟩)) (z29.alloc (.cells #[.nilFunc] 74)) (by kernel_rfl) (hZz29.out.alloc hZz29.out.size _) ?_
            simp only [Act.put, fl1, fl2, fl3, fl4, fl5, fl6]
            generalize hX : z29.alloc (.cells #[.nilFunc] 74) = z30
            have hb : Below z29.heap.size z29 z30 := by rw [← hX]; exact (Below.refl _ _).alloc (Nat.le_refl _) _
            obtain ⟨P5, hPe⟩ : ∃ E, E = z29.heap.size := ⟨_, rfl⟩
            have hP0 : bx z30 P5 .nilFunc 74 := by rw [← hX, hPe]; exact heap_alloc_new _ _
            have hP5L : Hid (wo.heap.size ≤ P5) := by rw [hPe]; exact hZz29.out.size
            rw [← hPe]
            clear hX hPe
            have hCz30 : Hid (CK w z30 Bl Lg Bb (.slice Ab nb cb) bs) := hCz29.out.below hb
            have hZz30 : Hid (Below wo.heap.size wo z30) := hZz29.out.trans (hb.mono hZz29.out.size)
            have hP5z30 : Hid (bx z30 P5 .nilFunc 74) := hP0
            have hP6z30 : Hid (bx z30 P6 (.nilFunc) 69) := heap_kept hP6z29.out hb
            have hP7z30 : Hid (bx z30 P7 (.nilFunc) 75) := heap_kept hP7z29.out hb
            clear hb hP0 hCz29 hZz29 hP6z29 hP7z29
            refine held_did 18 rfl (by kernel_rfl) (by kernel_rfl) (z30.setCell ⟨P5, 0, none⟩ (.func (.func 39) #[.pointer (some ⟨D, 0, none⟩)] #[])) (exec_store_cell 74 _ _ rfl P5 0 (by kernel_rfl) (.func (.func 39) #[.pointer (some ⟨D, 0, none⟩)] #[]) (by kernel_rfl) .nilFunc hP5z30.out.cell (frozen_of_row _ _ _ _ _ hP5z30.out) (fun w => by kernel_rfl) (by rfl) rfl) (hZz30.out.setCell hP5L.out _) ?_
            simp only [Act.put, fl1, fl2, fl3, fl4, fl5, fl6]
            have hCz31 : Hid (CK w (z30.setCell ⟨P5, 0, none⟩ (.func (.func 39) #[.pointer (some ⟨D, 0, none⟩)] #[])) Bl Lg Bb (.slice Ab nb cb) bs) := hCz30.out.set hP5z30.out (by decide) (by decide) (by decide) (Nat.le_trans hwz hP5L.out)
            have hZz31 : Hid (Below wo.heap.size wo (z30.setCell ⟨P5, 0, none⟩ (.func (.func 39) #[.pointer (some ⟨D, 0, none⟩)] #[]))) := (hZz30.out.setCell hP5L.out _)
            have hP5z31 : Hid (bx (z30.setCell ⟨P5, 0, none⟩ (.func (.func 39) #[.pointer (some ⟨D, 0, none⟩)] #[])) P5 (.func (.func 39) #[.pointer (some ⟨D, 0, none⟩)] #[]) 74) := hP5z30.out.self
            have hP6z31 : Hid (bx (z30.setCell ⟨P5, 0, none⟩ (.func (.func 39) #[.pointer (some ⟨D, 0, none⟩)] #[])) P6 (.nilFunc) 69) := hP6z30.out.set hP5z30.out (by decide)
            have hP7z31 : Hid (bx (z30.setCell ⟨P5, 0, none⟩ (.func (.func 39) #[.pointer (some ⟨D, 0, none⟩)] #[])) P7 (.nilFunc) 75) := hP7z30.out.set hP5z30.out (by decide)
            generalize (z30.setCell ⟨P5, 0, none⟩ (.func (.func 39) #[.pointer (some ⟨D, 0, none⟩)] #[])) = z31 at hCz31 hZz31 hP5z31 hP6z31 hP7z31 ⊢
            clear hCz30 hZz30 hP5z30 hP6z30 hP7z30
            refine held_did 19 rfl (by kernel_rfl) (by kernel_rfl) (z31.setCell ⟨P6, 0, none⟩ (.func (.func 36) #[.pointer (some ⟨D, 0, none⟩)] #[])) (exec_store_cell 69 _ _ rfl P6 0 (by kernel_rfl) (.func (.func 36) #[.pointer (some ⟨D, 0, none⟩)] #[]) (by kernel_rfl) .nilFunc hP6z31.out.cell (frozen_of_row _ _ _ _ _ hP6z31.out) (fun w => by kernel_rfl) (by rfl) rfl) (hZz31.out.setCell hP6L.out _) ?_
            simp only [Act.put, fl1, fl2, fl3, fl4, fl5, fl6]
            have hCz32 : Hid (CK w (z31.setCell ⟨P6, 0, none⟩ (.func (.func 36) #[.pointer (some ⟨D, 0, none⟩)] #[])) Bl Lg Bb (.slice Ab nb cb) bs) := hCz31.out.set hP6z31.out (by decide) (by decide) (by decide) (Nat.le_trans hwz hP6L.out)
            have hZz32 : Hid (Below wo.heap.size wo (z31.setCell ⟨P6, 0, none⟩ (.func (.func 36) #[.pointer (some ⟨D, 0, none⟩)] #[]))) := (hZz31.out.setCell hP6L.out _)
            have hP6z32 : Hid (bx (z31.setCell ⟨P6, 0, none⟩ (.func (.func 36) #[.pointer (some ⟨D, 0, none⟩)] #[])) P6 (.func (.func 36) #[.pointer (some ⟨D, 0, none⟩)] #[]) 69) := hP6z31.out.self
            have hP5z32 : Hid (bx (z31.setCell ⟨P6, 0, none⟩ (.func (.func 36) #[.pointer (some ⟨D, 0, none⟩)] #[])) P5 (.func (.func 39) #[.pointer (some ⟨D, 0, none⟩)] #[]) 74) := hP5z31.out.set hP6z31.out (by decide)
            have hP7z32 : Hid (bx (z31.setCell ⟨P6, 0, none⟩ (.func (.func 36) #[.pointer (some ⟨D, 0, none⟩)] #[])) P7 (.nilFunc) 75) := hP7z31.out.set hP6z31.out (by decide)
            generalize (z31.setCell ⟨P6, 0, none⟩ (.func (.func 36) #[.pointer (some ⟨D, 0, none⟩)] #[])) = z32 at hCz32 hZz32 hP5z32 hP6z32 hP7z32 ⊢
            clear hCz31 hZz31 hP5z31 hP6z31 hP7z31
            refine held_did 20 rfl (by kernel_rfl) (by kernel_rfl) (z32.setCell ⟨P7, 0, none⟩ (.func (.func 41) #[.pointer (some ⟨D, 0, none⟩)] #[])) (exec_store_cell 75 _ _ rfl P7 0 (by kernel_rfl) (.func (.func 41) #[.pointer (some ⟨D, 0, none⟩)] #[]) (by kernel_rfl) .nilFunc hP7z32.out.cell (frozen_of_row _ _ _ _ _ hP7z32.out) (fun w => by kernel_rfl) (by rfl) rfl) (hZz32.out.setCell hP7L.out _) ?_
            simp only [Act.put, fl1, fl2, fl3, fl4, fl5, fl6]
            have hCz33 : Hid (CK w (z32.setCell ⟨P7, 0, none⟩ (.func (.func 41) #[.pointer (some ⟨D, 0, none⟩)] #[])) Bl Lg Bb (.slice Ab nb cb) bs) := hCz32.out.set hP7z32.out (by decide) (by decide) (by decide) (Nat.le_trans hwz hP7L.out)
            have hZz33 : Hid (Below wo.heap.size wo (z32.setCell ⟨P7, 0, none⟩ (.func (.func 41) #[.pointer (some ⟨D, 0, none⟩)] #[]))) := (hZz32.out.setCell hP7L.out _)
            have hP7z33 : Hid (bx (z32.setCell ⟨P7, 0, none⟩ (.func (.func 41) #[.pointer (some ⟨D, 0, none⟩)] #[])) P7 (.func (.func 41) #[.pointer (some ⟨D, 0, none⟩)] #[]) 75) := hP7z32.out.self
            have hP5z33 : Hid (bx (z32.setCell ⟨P7, 0, none⟩ (.func (.func 41) #[.pointer (some ⟨D, 0, none⟩)] #[])) P5 (.func (.func 39) #[.pointer (some ⟨D, 0, none⟩)] #[]) 74) := hP5z32.out.set hP7z32.out (by decide)
            have hP6z33 : Hid (bx (z32.setCell ⟨P7, 0, none⟩ (.func (.func 41) #[.pointer (some ⟨D, 0, none⟩)] #[])) P6 (.func (.func 36) #[.pointer (some ⟨D, 0, none⟩)] #[]) 69) := hP6z32.out.set hP7z32.out (by decide)
            generalize (z32.setCell ⟨P7, 0, none⟩ (.func (.func 41) #[.pointer (some ⟨D, 0, none⟩)] #[])) = z33 at hCz33 hZz33 hP5z33 hP6z33 hP7z33 ⊢
            clear hCz32 hZz32 hP5z32 hP6z32 hP7z32
            refine wpAnyH_done (by kernel_rfl) ?_ _
            refine ⟨rfl, trivial, (P5, P6, P7), ?_, hCz33.out, hP5z33.out, hP6z33.out, hP7z33.out⟩
            kernel_rfl
      case after =>
        rintro ⟨P5, P6, P7⟩ W ⟨hC0, h50, h60, h70⟩
        have hCW : Hid (CK w W Bl Lg Bb (.slice Ab nb cb) bs) := hC0
        have hP5W : Hid (bx W P5 (.func (.func 39) #[.pointer (some ⟨D, 0, none⟩)] #[]) 74) := h50
        have hP6W : Hid (bx W P6 (.func (.func 36) #[.pointer (some ⟨D, 0, none⟩)] #[]) 69) := h60
        have hP7W : Hid (bx W P7 (.func (.func 41) #[.pointer (some ⟨D, 0, none⟩)] #[]) 75) := h70
        clear hC0 h50 h60 h70 hCKwo
        simp only [Act.put, fl1, fl2, fl3]
        go_upto_region 13 with fail
        refine wp_region_lit ?_
        refine sl_run rfl (.pointer (some ⟨Lg, 0, none⟩)) W (exec_load_cell 41 W _ rfl ⟨Bl, 0, none⟩ (by kernel_rfl) _ (hCW.out.bl.cell) (fun _ => by kernel_rfl)) ?_
        simp only [Act.put, fl1, fl2, fl3]
        refine sl_run rfl (.func (.func 42) #[] #[.pointer (some ⟨P5, 0, none⟩), .pointer (some ⟨Bb, 0, none⟩)]) W (by kernel_rfl) ?_
        simp only [Act.put, fl1, fl2, fl3]
        refine sl_run rfl (.func (.func 43) #[] #[.pointer (some ⟨P6, 0, none⟩)]) W (by kernel_rfl) ?_
        simp only [Act.put, fl1, fl2, fl3]
        refine sl_run rfl (.func (.func 44) #[] #[.pointer (some ⟨P7, 0, none⟩)]) W (by kernel_rfl) ?_
        simp only [Act.put, fl1, fl2, fl3]
        refine sl_run rfl (.func (.func 45) #[] #[.pointer (some ⟨Bl, 0, none⟩)]) W (by kernel_rfl) ?_
        simp only [Act.put, fl1, fl2, fl3]
        refine sl_run rfl (.slice (some ⟨W.heap.size, 0, none⟩) 4 4) (W.alloc (.cells #[.func (.func 42) #[] #[.pointer (some ⟨P5, 0, none⟩), .pointer (some ⟨Bb, 0, none⟩)], .func (.func 43) #[] #[.pointer (some ⟨P6, 0, none⟩)], .func (.func 44) #[] #[.pointer (some ⟨P7, 0, none⟩)], .func (.func 45) #[] #[.pointer (some ⟨Bl, 0, none⟩)]] 45)) (by kernel_rfl) ?_
        simp only [Act.put, fl1, fl2, fl3]
        generalize hX : W.alloc (.cells #[.func (.func 42) #[] #[.pointer (some ⟨P5, 0, none⟩), .pointer (some ⟨Bb, 0, none⟩)], .func (.func 43) #[] #[.pointer (some ⟨P6, 0, none⟩)], .func (.func 44) #[] #[.pointer (some ⟨P7, 0, none⟩)], .func (.func 45) #[] #[.pointer (some ⟨Bl, 0, none⟩)]] 45) = x1
        have hb : Below W.heap.size W x1 := by rw [← hX]; exact (Below.refl _ _).alloc (Nat.le_refl _) _
        obtain ⟨gf, hEe⟩ : ∃ E, E = W.heap.size := ⟨_, rfl⟩
        have he9 : x1.heap[gf]? = some (.cells #[.func (.func 42) #[] #[.pointer (some ⟨P5, 0, none⟩), .pointer (some ⟨Bb, 0, none⟩)], .func (.func 43) #[] #[.pointer (some ⟨P6, 0, none⟩)], .func (.func 44) #[] #[.pointer (some ⟨P7, 0, none⟩)], .func (.func 45) #[] #[.pointer (some ⟨Bl, 0, none⟩)]] 45 (0, 0)) := by rw [← hX, hEe]; exact heap_alloc_new _ _
        rw [← hEe]
        clear hX hEe
        have hCx1 : Hid (CK w x1 Bl Lg Bb (.slice Ab nb cb) bs) := (hCW.out).below hb
        have hP5x1 : Hid (bx x1 P5 (.func (.func 39) #[.pointer (some ⟨D, 0, none⟩)] #[]) 74) := heap_kept (hP5W.out) hb
        have hP6x1 : Hid (bx x1 P6 (.func (.func 36) #[.pointer (some ⟨D, 0, none⟩)] #[]) 69) := heap_kept (hP6W.out) hb
        have hP7x1 : Hid (bx x1 P7 (.func (.func 41) #[.pointer (some ⟨D, 0, none⟩)] #[]) 75) := heap_kept (hP7W.out) hb
        clear hCW hP5W hP6W hP7W
        have hgfx1 : Hid (x1.heap[gf]? = some (.cells #[.func (.func 42) #[] #[.pointer (some ⟨P5, 0, none⟩), .pointer (some ⟨Bb, 0, none⟩)], .func (.func 43) #[] #[.pointer (some ⟨P6, 0, none⟩)], .func (.func 44) #[] #[.pointer (some ⟨P7, 0, none⟩)], .func (.func 45) #[] #[.pointer (some ⟨Bl, 0, none⟩)]] 45 (0, 0))) := he9
        clear he9 hb
        obtain ⟨d1, e1, hac⟩ : ∃ x y, actsS (ckActs bs) d = (x, y) := ⟨_, _, rfl⟩
        have hacH : Hid (actsS (ckActs bs) d = (d1, e1)) := hac
        clear hac
        have hD0 : DiskI x1 D mb d := hLI.out.disk.below hCx1.out.bel
        have hr0 : x1.heap[Lg]? = some (.cells #[.pointer (some ⟨D, 0, none⟩), .slice Av np cv, .bool false] 71 (0, 0)) := heap_kept hrow0.out hCx1.out.bel
        refine sg_call (by kernel_rfl) 37 #[.pointer (some ⟨Lg, 0, none⟩), .slice (some ⟨gf, 0, none⟩) 4 4] (by kernel_rfl) (R := fun u w' => ∃ w2, u = .int .i64 (e1 : Int) ∧ DiskI w2 D mb d1 ∧ KpS (TD D mb) x1 w2 ∧ w' = if e1 = 0 then w2 else w2.setCell ⟨Lg, 2, none⟩ (.bool (decide (e1 = 20)))) ?hac ?_
        case hac =>
          have h8 := acts_calls hD0 _ _ _ hr0 [⟨42, #[.pointer (some ⟨P5, 0, none⟩), .pointer (some ⟨Bb, 0, none⟩)]⟩, ⟨43, #[.pointer (some ⟨P6, 0, none⟩)]⟩, ⟨44, #[.pointer (some ⟨P7, 0, none⟩)]⟩, ⟨45, #[.pointer (some ⟨Bl, 0, none⟩)]⟩] gf 4 rfl (by decide) (ckActs bs) rfl hgfx1.out (fun j hj w => by
            match j, hj with
            | 0, _ => exact (by kernel_rfl : (callFunc 42 #[.pointer (some ⟨P5, 0, none⟩), .pointer (some ⟨Bb, 0, none⟩)]).run Try.prog w = .ok (.enter 42 #[.pointer (some ⟨P5, 0, none⟩), .pointer (some ⟨Bb, 0, none⟩)]) w)
            | 1, _ => exact (by kernel_rfl : (callFunc 43 #[.pointer (some ⟨P6, 0, none⟩)]).run Try.prog w = .ok (.enter 43 #[.pointer (some ⟨P6, 0, none⟩)]) w)
            | 2, _ => exact (by kernel_rfl : (callFunc 44 #[.pointer (some ⟨P7, 0, none⟩)]).run Try.prog w = .ok (.enter 44 #[.pointer (some ⟨P7, 0, none⟩)]) w)
            | 3, _ => exact (by kernel_rfl : (callFunc 45 #[.pointer (some ⟨Bl, 0, none⟩)]).run Try.prog w = .ok (.enter 45 #[.pointer (some ⟨Bl, 0, none⟩)]) w)) (fun j hj W' d' hk hd' => by
            match j, hj with
            | 0, _ => exact chk1_calls hd' P5 Bb (hP5x1.out.kp hD0 (by decide) hk) Ab nb cb bs hnbH.out (by have := hnbH.out; omega) (hCx1.out.bb.kp hD0 (by decide) hk) (rw_kpS hD0 hCx1.out.tb.1 hk)
            | 1, _ => exact chk2_calls hd' P6 (hP6x1.out.kp hD0 (by decide) hk)
            | 2, _ => exact chk3_calls hd' P7 (hP7x1.out.kp hD0 (by decide) hk)
            | 3, _ => exact chk4_calls hd' Bl Lg (hCx1.out.bl.kp hD0 (by decide) hk) _ _ (hk.heap hr0 (rw_other hD0 hr0 (by decide))))
          rw [hacH.out] at h8
          exact h8.mono fun e w' h => by
            obtain ⟨w2, h1, h2⟩ := h
            exact ⟨_, h1, w2, rfl, h2⟩
        rintro _ x2 ⟨w2, rfl, hd2, hk2, hw2⟩
        simp only [Act.put, fl1, fl2, fl3]
        have hLW : LogI x1 B D mb Lg d g := hLI.out.below hCx1.out.bel
        have hL2 : Hid (LogI w2 B D mb Lg d1 g) := hLW.kpS hk2 hd2
        have hF2 : Hid (Below B w w2) := (hCx1.out.bel.mono hBle.out).trans (hk2.lo hLW)
        have hw9 : Hid (x2 = if e1 = 0 then w2 else w2.setCell ⟨Lg, 2, none⟩ (.bool (decide (e1 = 20)))) := hw2
        clear hd2 hk2 hw2 hD0 hr0 hLW hgfx1 hCx1 hP5x1 hP6x1 hP7x1
        refine sl_run rfl (.int .i64 (e1 : Int)) x2 (by kernel_rfl) ?_
        simp only [Act.put, fl1, fl2, fl3]
        refine wpList_nil ?_
        have hgd : g = ⟨g.ps, false⟩ := by
          obtain ⟨a, b⟩ := g
          have := hbdH.out
          simp only at this
          rw [← this]
        have hEnd : Hid ((T.2.2 = e1) ∧ LogI x2 B D mb Lg T.1 T.2.1 ∧ Below B w x2) := by
          by_cases he1 : e1 = 0
          · have hW9 : x2 = w2 := by have := hw9.out; rwa [if_pos he1] at this
            have hT9 : T = (d1, ⟨g.ps, false⟩, 0) := by rw [hT3.out, hacH.out, if_pos he1]
            rw [hW9, hT9, ← hgd]
            exact ⟨he1.symm, hL2.out, hF2.out⟩
          · have hW9 : x2 = w2.setCell ⟨Lg, 2, none⟩ (.bool (decide (e1 = 20))) := by have := hw9.out; rwa [if_neg he1] at this
            have hT9 : T = (d1, ⟨g.ps, decide (e1 = 20)⟩, e1) := by rw [hT3.out, hacH.out, if_neg he1]
            rw [hW9, hT9]
            exact ⟨rfl, hL2.out.mark _, hF2.out.setCell hLI.out.lo.2.2.1 _⟩
        clear hgd hw9 hT3 hacH hL2 hF2 hTH hnpH hbdH hgbH hg9H hrow0 hpl0 hnbH hlenH
        go_wp2_with fail
        go_ret
        refine ⟨?_, hEnd.out.2.1, hEnd.out.2.2⟩
        rw [hEnd.out.1]; rfl
end Go.Proofs.Ytdkaaieenbmihaa
namespace Go.Proofs.Ytdkaaieenbmihaa
open Go.RowKit
open Sha (vals Bytes Lies bytesC sumB)
open Go.Proofs.Ytdkaaieenbmihaa.Pure (nameB)
theorem scanS_fit (l : List Nat) (hb : ∀ x ∈ l, x < 256) : ∀ (m f : Nat) (ps : List (List Nat)) (e : Nat), l.length - e ≤ m → e ≤ l.length → ps.length * 17 ≤ e → Byt ps → f ≤ 1099511627776 →
    (scanS l f ps e).2.1.length * 17 ≤ (scanS l f ps e).2.2 ∧ (scanS l f ps e).2.2 ≤ l.length ∧ Byt (scanS l f ps e).2.1 ∧ (scanS l f ps e).1 ≤ 1099511627776 := by
  intro m
  induction m with
  | zero =>
    intro f ps e hm he hp hB hf
    have hn : oneS (l.drop e) = none := by
      unfold oneS; rw [if_pos (by rw [List.length_drop]; omega)]
    rw [scanS_none hn]; exact ⟨hp, he, hB, hf⟩
  | succ m ih =>
    intro f ps e hm he hp hB hf
    cases h : oneS (l.drop e) with
    | none => rw [scanS_none h]; exact ⟨hp, he, hB, hf⟩
    | some x =>
      obtain ⟨n, p, k⟩ := x
      have hk := oneS_len h
      rw [List.length_drop] at hk
      rw [scanS_some h]
      split
      · exact ⟨hp, he, hB, hf⟩
      · rename_i hc
        refine ih _ _ _ (by omega) (by omega) (by simp; omega) (fun q hq x hx => ?_) (by split <;> omega)
        rcases List.mem_append.1 hq with hq | hq
        · exact hB q hq x hx
        · rw [List.mem_singleton.1 hq] at hx
          unfold oneS at h
          split at h
          · cases h
          · split at h
            · cases h
            · split at h
              · cases h
              · simp only [Option.some.injEq, Prod.mk.injEq] at h
                obtain ⟨_, rfl, _⟩ := h
                exact hb x (List.mem_of_mem_drop (List.mem_of_mem_drop (List.mem_of_mem_take (List.mem_of_mem_drop hx))))
theorem scan0_fit (l : List Nat) (hb : ∀ x ∈ l, x < 256) : (scan0 l).2.1.length * 17 ≤ (scan0 l).2.2 ∧ (scan0 l).2.2 ≤ l.length ∧ Byt (scan0 l).2.1 ∧ (scan0 l).1 ≤ 1099511627776 :=
  scanS_fit l hb l.length 0 [] 0 (by omega) (by omega) (by simp) (fun p hp => by cases hp) (by decide)
/-- All files hold bytes. -/
def DB (d : DS) : Prop := ∀ f ∈ d.L, ∀ x ∈ f.bs, x < 256
theorem DB.read {d : DS} (h : DB d) (s : ByteArray) : ∀ x ∈ (readS d s).1, x < 256 := by
  unfold readS
  split
  · simp
  · unfold DS.read
    split
    · simp
    · cases hg : d.get s with
      | none => simp
      | some f => exact h f (List.mem_of_find?_eq_some hg)
theorem DiskI.read_len {w : World} {D mb : Nat} {d : DS} (h : DiskI w D mb d) (s : ByteArray) : (readS d s).1.length ≤ 1048576 := by
  unfold readS
  split
  · simp
  · unfold DS.read
    split
    · simp
    · cases hg : d.get s with
      | none => simp
      | some f => exact (h.fine f (List.mem_of_find?_eq_some hg)).2
def openA (d : DS) : DS × Nat := if (readS d nNext).2.2 = 0 ∧ (readS d nNext).2.1 = true then d.rem nNext else (d, (readS d nNext).2.2)
theorem DB.openA {d : DS} (h : DB d) : DB (openA d).1 := by
  unfold Proofs.Ytdkaaieenbmihaa.openA
  split
  · unfold DS.rem
    split
    · exact h
    · split
      · exact h
      · unfold DS.one
        split
        · intro f hf
          exact h f (List.mem_filter.1 hf).1
        · intro f hf
          rw [used_L] at hf
          exact h f hf
  · exact h
def openSnap (bs : List Nat) : List (List Nat) := if (scan0 bs).1 = 1 then (scan0 bs).2.1 else []
def mixOk (ps : List (List Nat)) (s : Nat × List (List Nat) × Nat) : Bool := decide (1 ≤ s.1) && (decide (s.1 ≤ ps.length + 1) && decide (ps.length + 1 ≤ s.1 + s.2.1.length))
def openMix (ps : List (List Nat)) (s : Nat × List (List Nat) × Nat) : List (List Nat) × Nat := if mixOk ps s = true then (ps ++ s.2.1.drop (ps.length + 1 - s.1), s.2.2) else (ps, 0)
def openCut (d : DS) (n : Nat) (m : List (List Nat) × Nat) : DS × List (List Nat) × Nat :=
  if m.2 < n then (if (d.cut nLog m.2).2 ≠ 0 then ((d.cut nLog m.2).1, [], (d.cut nLog m.2).2) else ((d.cut nLog m.2).1, m.1, 0)) else (d, m.1, 0)
def openB (d : DS) : DS × List (List Nat) × Nat :=
  if (readS d nSnap).2.2 ≠ 0 then (d, [], (readS d nSnap).2.2)
  else if (readS d nLog).2.2 ≠ 0 then (d, [], (readS d nLog).2.2)
  else openCut d (readS d nLog).1.length (openMix (openSnap (readS d nSnap).1) (scan0 (readS d nLog).1))
def openW (d : DS) : DS × List (List Nat) × Nat := if (openA d).2 ≠ 0 then ((openA d).1, [], (openA d).2) else openB (openA d).1
/-- What Open answers. -/
def OpenR (w : World) (D mb : Nat) (T : DS × List (List Nat) × Nat) (e : Ending) (w' : World) : Prop :=
  KpS (TD D mb) w w' ∧ (T.2.2 ≠ 0 → e = .returned (.tuple #[.pointer none, .int .i64 (T.2.2 : Int)]) ∧ DiskI w' D mb T.1) ∧
  (T.2.2 = 0 → ∃ Lg, e = .returned (.tuple #[.pointer (some ⟨Lg, 0, none⟩), .int .i64 0]) ∧ w.heap.size ≤ Lg ∧ DiskI w' D mb T.1 ∧ ∃ v, w'.heap[Lg]? = some (.cells #[.pointer (some ⟨D, 0, none⟩), v, .bool false] 71 (0, 0)) ∧ PLo w' w.heap.size v T.2.1)
theorem PLo.tail {w : World} {base : Nat} {A : Option Addr} {n c : Nat} {ps : List (List Nat)} (h : PLo w base (.slice A n c) ps) (hn : n = ps.length) (q : Nat) (hq : q ≤ n) :
    ∃ xs : List SLV, Rw 1 encV w (.slice (if c = q then A else A.map (·.add (q * 1))) (n - q) (c - q)) xs ∧ xs.length = (ps.drop q).length ∧ ∀ i, i < (ps.drop q).length → TB w (xs.getD i default).v ((ps.drop q).getD i default) := by
  obtain ⟨us, ⟨h1, _⟩, h2, h3⟩ := h
  refine ⟨us.drop q, rw_drop (by omega) (Rw.own encV_size (by decide) h1) q hq, by simp [h2], fun i hi => ?_⟩
  have e1 : (us.drop q).getD i default = us.getD (q + i) default := by simp [List.getD_eq_getElem?_getD]
  have e2 : (ps.drop q).getD i default = ps.getD (q + i) default := by simp [List.getD_eq_getElem?_getD]
  rw [e1, e2]
  exact h3 _ (by simp at hi; omega)
set_option maxRecDepth 100000 in
set_option maxHeartbeats 32000000 in
theorem Open_calls {w : World} {D mb : Nat} {d : DS} (h : DiskI w D mb d) (hdb : DB d) : Calls Try.prog 16 #[.pointer (some ⟨D, 0, none⟩)] w fun e w' => OpenR w D mb (openW d) e w' := by
  obtain ⟨T, hT⟩ : ∃ T, T = openW d := ⟨_, rfl⟩
  rw [← hT]
  have hDw : Hid (DiskI w D mb d) := h
  obtain ⟨b1, hf, e1, hr1⟩ : ∃ x y z, readS d nNext = (x, y, z) := ⟨_, _, _, rfl⟩
  have hr1H : Hid (readS d nNext = (b1, hf, e1)) := hr1
  obtain ⟨dA, eA, hA⟩ : ∃ x y, openA d = (x, y) := ⟨_, _, rfl⟩
  have hAd : Hid ((if e1 = 0 ∧ hf = true then d.rem nNext else (d, e1)) = (dA, eA)) := by
    rw [← hA]; unfold openA; rw [hr1]; rfl
  have hdbA : Hid (DB dA) := by have := hdb.openA; rw [hA] at this; exact this
  have hTA : Hid (T = if eA ≠ 0 then (dA, [], eA) else openB dA) := by
    show _ = _
    rw [hT]; unfold openW; rw [hA]
  clear h hT hr1 hA hdb
  go_enter Try.func16, Try.ntmps16
  go_upto_region 1 with fail
  refine wp_region_lit ?_
  have hKw : Hid (KpS (TD D mb) w w) := KpS.of (Below.refl _ _)
  refine sl_run rfl (.pointer (some ⟨D, 0, none⟩)) w (by kernel_rfl) ?_
  simp only [Act.put, fl1, fl2, fl3]
  refine sg_call (by kernel_rfl) 33 #[.pointer (some ⟨D, 0, none⟩), .string nNext] (by kernel_rfl) (R := fun u w' => ∃ v, u = .tuple #[v, .bool hf, .int .i64 (e1 : Int)] ∧ Rw 1 encB w' v b1 ∧ Below w.heap.size w w') ?hb1 ?_
  case hb1 =>
    have h8 := read_calls hDw.out nNext
    rw [hr1H.out] at h8
    exact h8.mono fun e w' h => by
      obtain ⟨v, h1, h2, h3⟩ := h
      exact ⟨_, h1, v, rfl, h2, h3⟩
  rintro _ w1 ⟨r9, rfl, hr0, hb⟩
  simp only [Act.put, fl1, fl2, fl3]
  have hDw1 : Hid (DiskI w1 D mb d) := (hDw.out).below hb
  have hKw1 : Hid (KpS (TD D mb) w w1) := (hKw.out).trans (KpS.of hb)
  clear hDw hKw
  obtain ⟨Ab1, cb1, rfl⟩ := hr0.form
  obtain ⟨nb1, hn5⟩ : ∃ k, k = b1.length := ⟨_, rfl⟩
  rw [← hn5] at hr0 ⊢
  have hnb1 : Hid (nb1 = b1.length) := hn5
  have hx1w1 : Hid (Rw 1 encB w1 (.slice Ab1 nb1 cb1) b1) := hr0
  clear hr0 hb hn5
  clear hx1w1 hnb1
  refine sl_run rfl (.tuple #[.slice Ab1 nb1 cb1, .bool hf, .int .i64 (e1 : Int)]) w1 (by kernel_rfl) ?_
  simp only [Act.put, fl1, fl2, fl3]
  refine sl_run rfl (.slice Ab1 nb1 cb1) w1 (by kernel_rfl) ?_
  simp only [Act.put, fl1, fl2, fl3]
  refine sl_run rfl (.bool hf) w1 (by kernel_rfl) ?_
  simp only [Act.put, fl1, fl2, fl3]
  refine sl_run rfl (.int .i64 (e1 : Int)) w1 (by kernel_rfl) ?_
  simp only [Act.put, fl1, fl2, fl3]
  refine sl_run rfl (.slice Ab1 nb1 cb1) w1 (by kernel_rfl) ?_
  simp only [Act.put, fl1, fl2, fl3]
  refine sl_run rfl (.bool hf) w1 (by kernel_rfl) ?_
  simp only [Act.put, fl1, fl2, fl3]
  refine sl_run rfl (.int .i64 (e1 : Int)) w1 (by kernel_rfl) ?_
  simp only [Act.put, fl1, fl2, fl3]
  refine wpList_nil ?_
  obtain ⟨cn, hcn⟩ : ∃ b, b = (decide (e1 = 0) && hf) := ⟨_, rfl⟩
  have hcnH : Hid (cn = (decide (e1 = 0) && hf)) := hcn
  clear hcn
  go_upto_region 2 with fail
  go_cut [31] from 27 to 30 (fun s31 wc => s31 = .bool cn ∧ wc = w1)
  case first =>
    refine wp_region_lit ?_
    by_cases h0 : e1 = 0
    case pos =>
      refine sl_run rfl (.int .i64 (e1 : Int)) w1 (by kernel_rfl) ?_
      simp only [Act.put, fl1, fl2, fl3]
      refine sl_run rfl (.bool true) w1 (exec_eqn _ _ _ rfl e1 0 (by kernel_rfl) (by kernel_rfl) true (decide_eq_true h0)) ?_
      simp only [Act.put, fl1, fl2, fl3]
      refine sl_run rfl (.bool true) w1 (by kernel_rfl) ?_
      simp only [Act.put, fl1, fl2, fl3]
      refine sg_run (by kernel_rfl) (.bool hf) w1 (by kernel_rfl) ?_
      simp only [Act.put, fl1, fl2, fl3]
      refine sl_run rfl (.bool hf) w1 (by kernel_rfl) ?_
      simp only [Act.put, fl1, fl2, fl3]
      refine wpList_nil ?_
      go_wp2_with fail
      go_meet
      case rel => exact ⟨by rw [hcnH.out, decide_eq_true h0]; simp, rfl⟩
    case neg =>
      refine sl_run rfl (.int .i64 (e1 : Int)) w1 (by kernel_rfl) ?_
      simp only [Act.put, fl1, fl2, fl3]
      refine sl_run rfl (.bool false) w1 (exec_eqn _ _ _ rfl e1 0 (by kernel_rfl) (by kernel_rfl) false (decide_eq_false h0)) ?_
      simp only [Act.put, fl1, fl2, fl3]
      refine sl_run rfl (.bool false) w1 (by kernel_rfl) ?_
      simp only [Act.put, fl1, fl2, fl3]
      rw [wpList, if_neg (by rw [show Region.wanted _ _ = false by kernel_rfl]; decide)]
      simp only [Act.put, fl1, fl2, fl3]
      refine sl_run rfl (.bool false) w1 (by kernel_rfl) ?_
      simp only [Act.put, fl1, fl2, fl3]
      refine wpList_nil ?_
      go_wp2_with fail
      go_meet
      case rel => exact ⟨by rw [hcnH.out, decide_eq_false h0]; simp, rfl⟩
  case rest =>
  obtain ⟨rfl, hwc⟩ := hcut
  obtain rfl := hwc.symm
  go_upto_if 31 with fail
  go_cut [6] from 32 to 33 (fun s6 wc => s6 = .int .i64 (eA : Int) ∧ Hid (DiskI wc D mb dA) ∧ Hid (KpS (TD D mb) w wc))
  case first =>
    cases cn with
    | true =>
      have hc2 : e1 = 0 ∧ hf = true := by have := hcnH.out; simpa using this.symm
      have hrem : Hid (d.rem nNext = (dA, eA)) := by have := hAd.out; rwa [if_pos hc2] at this
      clear hc2
      go_upto_region 3 with fail
      refine wp_region_lit ?_
      refine sl_run rfl (.pointer (some ⟨D, 0, none⟩)) w1 (by kernel_rfl) ?_
      simp only [Act.put, fl1, fl2, fl3]
      refine sg_call (by kernel_rfl) 34 #[.pointer (some ⟨D, 0, none⟩), .string nNext] (by kernel_rfl) (R := fun v w' => v = .int .i64 (eA : Int) ∧ DiskI w' D mb dA ∧ KpS (TD D mb) w1 w') ?hrm ?_
      case hrm =>
        have h8 := Remove_calls hDw1.out nNext
        rw [hrem.out] at h8
        exact h8.mono fun e w' h => ⟨_, h.1, rfl, h.2⟩
      rintro _ wr ⟨rfl, hD9, hK9⟩
      simp only [Act.put, fl1, fl2, fl3]
      have hD8 : Hid (DiskI wr D mb dA) := hD9
      have hK8 : Hid (KpS (TD D mb) w wr) := hKw1.out.trans hK9
      clear hD9 hK9 hrem hDw1 hKw1
      refine sl_run rfl (.int .i64 (eA : Int)) wr (by kernel_rfl) ?_
      simp only [Act.put, fl1, fl2, fl3]
      refine wpList_nil ?_
      go_wp2_with fail
      go_meet
      case rel => exact ⟨rfl, hD8, hK8⟩
    | false =>
      have hc2 : ¬ (e1 = 0 ∧ hf = true) := by have := hcnH.out; simpa using this.symm
      have hdd : (d, e1) = (dA, eA) := by have := hAd.out; rwa [if_neg hc2] at this
      injection hdd with hd1 hd2
      subst hd1 hd2
      have hD8 := hDw1
      have hK8 := hKw1
      clear hc2 hDw1 hKw1
      go_wp2_with fail
      go_meet
      case rel => exact ⟨rfl, hD8, hK8⟩
  case rest =>
  obtain ⟨rfl, hDc, hKc⟩ := hcut
  obtain ⟨wA, rfl⟩ : ∃ v : World, v = wc := ⟨_, rfl⟩
  have hDwA : Hid (DiskI wA D mb dA) := hDc.out
  have hKwA : Hid (KpS (TD D mb) w wA) := hKc.out
  clear hDc hKc hDw1 hKw1 hr1H hAd hcnH
  by_cases hz : eA = 0
  case neg =>
    go_upto_region 4 with fail
    refine wp_region_lit ?_
    refine sl_run rfl (.int .i64 (eA : Int)) wA (by kernel_rfl) ?_
    simp only [Act.put, fl1, fl2, fl3]
    refine sl_run rfl (.bool true) wA (exec_nen _ _ _ rfl eA 0 (by kernel_rfl) (by kernel_rfl) true (decide_eq_true hz)) ?_
    simp only [Act.put, fl1, fl2, fl3]
    refine wpList_nil ?_
    have hT9 : T = (dA, [], eA) := by rw [hTA.out, if_pos hz]
    have hne : Hid (eA ≠ 0) := hz
    have hT2 : Hid (T = (dA, [], eA)) := hT9
    have hD8 := hDwA
    have hK8 := hKwA
    clear hT9 hDwA hKwA hTA hdbA hz
    go_wp2_with fail
    go_ret2
    refine ⟨hK8.out, fun h => ?_, fun h => ?_⟩
    · rw [hT2.out]; exact ⟨rfl, hD8.out⟩
    · rw [hT2.out] at h; exact absurd h hne.out
  case pos =>
  have hTB : Hid (T = openB dA) := by show _ = _; rw [hTA.out, if_neg (fun h => h hz)]
  clear hTA
  go_upto_region 4 with fail
  refine wp_region_lit ?_
  refine sl_run rfl (.int .i64 (eA : Int)) wA (by kernel_rfl) ?_
  simp only [Act.put, fl1, fl2, fl3]
  refine sl_run rfl (.bool false) wA (exec_nen _ _ _ rfl eA 0 (by kernel_rfl) (by kernel_rfl) false (decide_eq_false (fun h => h hz))) ?_
  simp only [Act.put, fl1, fl2, fl3]
  refine wpList_nil ?_
  have hzH : Hid (eA = 0) := hz
  clear hz
  go_upto_region 6 with fail
  refine wp_region_lit ?_
  refine sl_run rfl (.pointer (some ⟨D, 0, none⟩)) wA (by kernel_rfl) ?_
  simp only [Act.put, fl1, fl2, fl3]
  refine sl_build rfl 71 _ rfl #[.pointer (some ⟨D, 0, none⟩), .slice none 0 0, .bool false] (by kernel_rfl) ?_
  simp only [Act.put, fl1, fl2, fl3]
  refine sl_run rfl (.pointer (some ⟨wA.heap.size, 0, none⟩)) (wA.alloc (.cells #[.pointer (some ⟨D, 0, none⟩), .slice none 0 0, .bool false] 71)) (by kernel_rfl) ?_
  simp only [Act.put, fl1, fl2, fl3]
  generalize hX : wA.alloc (.cells #[.pointer (some ⟨D, 0, none⟩), .slice none 0 0, .bool false] 71) = wB
  have hb : Below wA.heap.size wA wB := by rw [← hX]; exact (Below.refl _ _).alloc (Nat.le_refl _) _
  obtain ⟨Lg, hLe⟩ : ∃ E, E = wA.heap.size := ⟨_, rfl⟩
  have hr9 : wB.heap[Lg]? = some (.cells #[.pointer (some ⟨D, 0, none⟩), .slice none 0 0, .bool false] 71 (0, 0)) := by rw [← hX, hLe]; exact heap_alloc_new _ _
  have hLgle : Hid (w.heap.size ≤ Lg) := by rw [hLe]; exact hKwA.out.size
  rw [← hLe]
  clear hX hLe
  have hDwB : Hid (DiskI wB D mb dA) := (hDwA.out).below hb
  have hKwB : Hid (KpS (TD D mb) w wB) := (hKwA.out).trans (KpS.of hb)
  clear hDwA hKwA
  have hrwB : Hid (wB.heap[Lg]? = some (.cells #[.pointer (some ⟨D, 0, none⟩), .slice none 0 0, .bool false] 71 (0, 0))) := hr9
  clear hr9 hb
  refine sl_run rfl (.pointer (some ⟨Lg, 0, none⟩)) wB (by kernel_rfl) ?_
  simp only [Act.put, fl1, fl2, fl3]
  refine wpList_nil ?_
  obtain ⟨b2, hf2, e2, hr2⟩ : ∃ x y z, readS dA nSnap = (x, y, z) := ⟨_, _, _, rfl⟩
  have hr2H : Hid (readS dA nSnap = (b2, hf2, e2)) := hr2
  have hb2 : Hid (∀ x ∈ b2, x < 256) := by have := hdbA.out.read nSnap; rw [hr2] at this; exact this
  have hb2l : b2.length ≤ 1048576 := by have := hDwB.out.read_len nSnap; rw [hr2] at this; exact this
  clear hr2
  go_upto_region 7 with fail
  refine wp_region_lit ?_
  refine sl_run rfl (.pointer (some ⟨D, 0, none⟩)) wB (by kernel_rfl) ?_
  simp only [Act.put, fl1, fl2, fl3]
  refine sg_call (by kernel_rfl) 33 #[.pointer (some ⟨D, 0, none⟩), .string nSnap] (by kernel_rfl) (R := fun u w' => ∃ v, u = .tuple #[v, .bool hf2, .int .i64 (e2 : Int)] ∧ Rw 1 encB w' v b2 ∧ Below wB.heap.size wB w') ?hb2 ?_
  case hb2 =>
    have h8 := read_calls hDwB.out nSnap
    rw [hr2H.out] at h8
    exact h8.mono fun e w' h => by
      obtain ⟨v, h1, h2, h3⟩ := h
      exact ⟨_, h1, v, rfl, h2, h3⟩
  rintro _ w21 ⟨r9, rfl, hr0, hb⟩
  simp only [Act.put, fl1, fl2, fl3]
  have hDw21 : Hid (DiskI w21 D mb dA) := (hDwB.out).below hb
  have hKw21 : Hid (KpS (TD D mb) w w21) := (hKwB.out).trans (KpS.of hb)
  have hrw21 : Hid (w21.heap[Lg]? = some (.cells #[.pointer (some ⟨D, 0, none⟩), .slice none 0 0, .bool false] 71 (0, 0))) := heap_kept (hrwB.out) hb
  clear hDwB hKwB hrwB
  obtain ⟨Ab2, cb2, rfl⟩ := hr0.form
  obtain ⟨nb2, hn5⟩ : ∃ k, k = b2.length := ⟨_, rfl⟩
  rw [← hn5] at hr0 ⊢
  have hnb2 : Hid (nb2 = b2.length) := hn5
  have hx2w21 : Hid (Rw 1 encB w21 (.slice Ab2 nb2 cb2) b2) := hr0
  clear hr0 hb hn5
  refine sl_run rfl (.tuple #[.slice Ab2 nb2 cb2, .bool hf2, .int .i64 (e2 : Int)]) w21 (by kernel_rfl) ?_
  simp only [Act.put, fl1, fl2, fl3]
  refine sl_run rfl (.slice Ab2 nb2 cb2) w21 (by kernel_rfl) ?_
  simp only [Act.put, fl1, fl2, fl3]
  refine sl_run rfl (.bool hf2) w21 (by kernel_rfl) ?_
  simp only [Act.put, fl1, fl2, fl3]
  refine sl_run rfl (.int .i64 (e2 : Int)) w21 (by kernel_rfl) ?_
  simp only [Act.put, fl1, fl2, fl3]
  refine sl_run rfl (.slice Ab2 nb2 cb2) w21 (by kernel_rfl) ?_
  simp only [Act.put, fl1, fl2, fl3]
  refine sl_run rfl (.bool hf2) w21 (by kernel_rfl) ?_
  simp only [Act.put, fl1, fl2, fl3]
  refine sl_run rfl (.int .i64 (e2 : Int)) w21 (by kernel_rfl) ?_
  simp only [Act.put, fl1, fl2, fl3]
  refine wpList_nil ?_
  by_cases hz2 : e2 = 0
  case neg =>
    go_upto_region 8 with fail
    refine wp_region_lit ?_
    refine sl_run rfl (.int .i64 (e2 : Int)) w21 (by kernel_rfl) ?_
    simp only [Act.put, fl1, fl2, fl3]
    refine sl_run rfl (.bool true) w21 (exec_nen _ _ _ rfl e2 0 (by kernel_rfl) (by kernel_rfl) true (decide_eq_true hz2)) ?_
    simp only [Act.put, fl1, fl2, fl3]
    refine wpList_nil ?_
    have hT9 : T = (dA, [], e2) := by rw [hTB.out]; unfold openB; rw [hr2H.out, if_pos hz2]
    have hne : Hid (e2 ≠ 0) := hz2
    have hT2 : Hid (T = (dA, [], e2)) := hT9
    have hD8 := hDw21
    have hK8 := hKw21
    clear hT9 hDw21 hKw21 hTB hdbA hzH hz2 hr2H hb2 hnb2 hrw21 hx2w21 hLgle
    go_wp2_with fail
    go_ret2
    refine ⟨hK8.out, fun h => ?_, fun h => ?_⟩
    · rw [hT2.out]; exact ⟨rfl, hD8.out⟩
    · rw [hT2.out] at h; exact absurd h hne.out
  case pos =>
  go_upto_region 8 with fail
  refine wp_region_lit ?_
  refine sl_run rfl (.int .i64 (e2 : Int)) w21 (by kernel_rfl) ?_
  simp only [Act.put, fl1, fl2, fl3]
  refine sl_run rfl (.bool false) w21 (exec_nen _ _ _ rfl e2 0 (by kernel_rfl) (by kernel_rfl) false (decide_eq_false (fun h => h hz2))) ?_
  simp only [Act.put, fl1, fl2, fl3]
  refine wpList_nil ?_
  have hz2H : Hid (e2 = 0) := hz2
  clear hz2
  go_upto_region 10 with fail
  refine wp_region_lit ?_
  refine sl_run rfl (.slice Ab2 nb2 cb2) w21 (by kernel_rfl) ?_
  simp only [Act.put, fl1, fl2, fl3]
  obtain ⟨f2, ps2, en2, hsc⟩ : ∃ x y z, scan0 b2 = (x, y, z) := ⟨_, _, _, rfl⟩
  have hsb2 : Hid (scan0 b2 = (f2, ps2, en2)) := hsc
  have hfit : ps2.length * 17 ≤ en2 ∧ en2 ≤ b2.length ∧ Byt ps2 ∧ f2 ≤ 1099511627776 := by have := scan0_fit b2 hb2.out; rw [hsc] at this; exact this
  have hftps2 : ps2.length * 17 ≤ en2 ∧ en2 ≤ b2.length ∧ f2 ≤ 1099511627776 := ⟨hfit.1, hfit.2.1, hfit.2.2.2⟩
  clear hsc hfit
  refine sg_call (by kernel_rfl) 12 #[.slice Ab2 nb2 cb2] (by kernel_rfl) (R := fun u w' => ∃ v, u = .tuple #[.int .i64 (f2 : Int), v, .int .i64 (en2 : Int)] ∧ PLo w' w21.heap.size v ps2 ∧ Below w21.heap.size w21 w') ?hscb2 ?_
  case hscb2 =>
    have h8 := Scan_calls b2 hb2.out Ab2 nb2 cb2 hnb2.out (by have := hnb2.out; omega) w21 hx2w21.out
    rw [hsb2.out] at h8
    exact h8.mono fun e w' h => by
      obtain ⟨v, h1, h2, h3⟩ := h
      exact ⟨_, h1, v, rfl, h2, h3⟩
  rintro _ w22 ⟨r9, rfl, hp0, hb⟩
  simp only [Act.put, fl1, fl2, fl3]
  have hp1 := hp0.mono hKw21.out.size
  have hDw22 : Hid (DiskI w22 D mb dA) := (hDw21.out).below hb
  have hKw22 : Hid (KpS (TD D mb) w w22) := (hKw21.out).trans (KpS.of hb)
  have hrw22 : Hid (w22.heap[Lg]? = some (.cells #[.pointer (some ⟨D, 0, none⟩), .slice none 0 0, .bool false] 71 (0, 0))) := heap_kept (hrw21.out) hb
  have hx2w22 : Hid (Rw 1 encB w22 (.slice Ab2 nb2 cb2) b2) := (hx2w21.out).below hb
  clear hDw21 hKw21 hrw21 hx2w21
  obtain ⟨Aps2, cps2, rfl⟩ := hp1.form
  obtain ⟨nps2, hn5⟩ : ∃ k, k = ps2.length := ⟨_, rfl⟩
  rw [← hn5] at hp1 ⊢
  have hnps2 : Hid (nps2 = ps2.length) := hn5
  have hppw22 : Hid (PLo w22 w.heap.size (.slice Aps2 nps2 cps2) ps2) := hp1
  clear hp0 hp1 hb hn5 hx2w22
  refine sl_run rfl (.tuple #[.int .i64 (f2 : Int), .slice Aps2 nps2 cps2, .int .i64 (en2 : Int)]) w22 (by kernel_rfl) ?_
  simp only [Act.put, fl1, fl2, fl3]
  refine sl_run rfl (.int .i64 (f2 : Int)) w22 (by kernel_rfl) ?_
  simp only [Act.put, fl1, fl2, fl3]
  refine sl_run rfl (.slice Aps2 nps2 cps2) w22 (by kernel_rfl) ?_
  simp only [Act.put, fl1, fl2, fl3]
  refine sl_run rfl (.int .i64 (en2 : Int)) w22 (by kernel_rfl) ?_
  simp only [Act.put, fl1, fl2, fl3]
  refine sl_run rfl (.int .i64 (f2 : Int)) w22 (by kernel_rfl) ?_
  simp only [Act.put, fl1, fl2, fl3]
  refine sl_run rfl (.slice Aps2 nps2 cps2) w22 (by kernel_rfl) ?_
  simp only [Act.put, fl1, fl2, fl3]
  refine sl_run rfl (.int .i64 (en2 : Int)) w22 (by kernel_rfl) ?_
  simp only [Act.put, fl1, fl2, fl3]
  refine wpList_nil ?_
  obtain ⟨psA, hpsA⟩ : ∃ p, p = openSnap b2 := ⟨_, rfl⟩
  have hpsAH : Hid (psA = if f2 = 1 then ps2 else []) := by show _ = _; rw [hpsA]; unfold openSnap; rw [hsb2.out]
  have hpsA2 : Hid (psA = openSnap b2) := hpsA
  clear hpsA
  go_upto_region 11 with fail
  refine wp_region_lit ?_
  refine sl_run rfl (.int .i64 (f2 : Int)) w22 (by kernel_rfl) ?_
  simp only [Act.put, fl1, fl2, fl3]
  refine sl_run rfl (.bool (decide (f2 = 1))) w22 (exec_eqn _ _ _ rfl f2 1 (by kernel_rfl) (by kernel_rfl) _ rfl) ?_
  simp only [Act.put, fl1, fl2, fl3]
  refine wpList_nil ?_
  obtain ⟨q1, hq1⟩ : ∃ b, b = decide (f2 = 1) := ⟨_, rfl⟩
  rw [← hq1]
  have hq1H : Hid (q1 = decide (f2 = 1)) := hq1
  clear hq1
  go_upto_if 56 with fail
  go_cut [57] from 58 to 60 (fun s57 wc => ∃ (Aa : Option Addr) (na ca : Nat), Hid (na = psA.length) ∧ Hid (wc.heap[Lg]? = some (.cells #[.pointer (some ⟨D, 0, none⟩), .slice Aa na ca, .bool false] 71 (0, 0))) ∧ Hid (PLo wc w.heap.size (.slice Aa na ca) psA) ∧ Hid (DiskI wc D mb dA) ∧ Hid (KpS (TD D mb) w wc))
  case first =>
    cases q1 with
    | true =>
      have hps : psA = ps2 := by rw [hpsAH.out, if_pos (of_decide_eq_true hq1H.out.symm)]
      go_upto_region 12 with fail
      refine wp_region_lit ?_
      refine sl_run rfl (.pointer (some ⟨Lg, 0, none⟩)) w22 (by kernel_rfl) ?_
      simp only [Act.put, fl1, fl2, fl3]
      refine sl_run rfl (.slice Aps2 nps2 cps2) w22 (by kernel_rfl) ?_
      simp only [Act.put, fl1, fl2, fl3]
      refine sl_run rfl (.pointer (some ⟨Lg, 0, none⟩)) w22 (by kernel_rfl) ?_
      simp only [Act.put, fl1, fl2, fl3]
      refine sl_run rfl (.pointer (some ⟨Lg, 1, none⟩)) w22 (by kernel_rfl) ?_
      simp only [Act.put, fl1, fl2, fl3]
      refine sl_skipped (by kernel_rfl) (w22.setCell ⟨Lg, 1, none⟩ (.slice Aps2 nps2 cps2)) ?hsl ?_
      case hsl => exact exec_store_cell 30 _ _ rfl Lg 1 (by kernel_rfl) (.slice Aps2 nps2 cps2) (by kernel_rfl) (.slice none 0 0) (by rw [cell_of_row _ _ _ _ _ _ hrw22.out]; rfl) (frozen_of_row _ _ _ _ _ hrw22.out) (fun w => by kernel_rfl) (by rfl) rfl
      simp only [Act.put, fl1, fl2, fl3]
      have hS0 : (w22.setCell ⟨Lg, 1, none⟩ (.slice Aps2 nps2 cps2)).heap.size = w22.heap.size := by simp [World.setCell]
      have hr8 : Hid ((w22.setCell ⟨Lg, 1, none⟩ (.slice Aps2 nps2 cps2)).heap[Lg]? = some (.cells #[.pointer (some ⟨D, 0, none⟩), (.slice Aps2 nps2 cps2), .bool false] 71 (0, 0))) := by
        show _ = _
        rw [setCell_eq_setRow w22 Lg 1 _ _ (0, 0) _ hrw22.out]
        exact setRow_heap _ _ _ _ _ _ hrw22.out
      have hp8 : Hid (PLo (w22.setCell ⟨Lg, 1, none⟩ (.slice Aps2 nps2 cps2)) w.heap.size (.slice Aps2 nps2 cps2) (ps2)) := hppw22.out.kept hrw22.out (by decide) (by decide) ⟨rfl, rfl, rfl, by rw [hS0]; exact Nat.le_refl _, fun j hj hne => setL_kp _ _ _ _ j hj (fun e => hne (by rw [e]))⟩
      have hD8 : Hid (DiskI (w22.setCell ⟨Lg, 1, none⟩ (.slice Aps2 nps2 cps2)) D mb dA) := hDw22.out.grown hrw22.out (by decide) no_bytes (by rw [hS0]; exact Nat.le_refl _) (setL_kp _ _ _ _)
      have hK8 : Hid (KpS (TD D mb) w (w22.setCell ⟨Lg, 1, none⟩ (.slice Aps2 nps2 cps2))) := hKw22.out.set _ _ _ (.inr hLgle.out)
      generalize (w22.setCell ⟨Lg, 1, none⟩ (.slice Aps2 nps2 cps2)) = ws at hr8 hp8 hD8 hK8 ⊢
      clear hS0
      clear hrw22 hppw22 hDw22 hKw22
      refine wpList_nil ?_
      have hp7 : Hid (PLo ws w.heap.size (.slice Aps2 nps2 cps2) psA) := by rw [hps]; exact hp8.out
      have hn8 : Hid (nps2 = psA.length) := by rw [hps]; exact hnps2.out
      clear hps hp8
      go_wp2_with fail
      go_meet
      case rel => exact ⟨Aps2, nps2, cps2, hn8, hr8, hp7, hD8, hK8⟩
    | false =>
      have hps : psA = [] := by rw [hpsAH.out, if_neg (of_decide_eq_false hq1H.out.symm)]
      have hr8 := hrw22
      have hD8 := hDw22
      have hK8 := hKw22
      have hp8 : Hid (PLo w22 w.heap.size (.slice none 0 0) psA) := by rw [hps]; exact PLo.nil _ _
      have hn8 : Hid (0 = psA.length) := by rw [hps]; rfl
      clear hps hrw22 hDw22 hKw22 hppw22
      go_wp2_with fail
      go_meet
      case rel => exact ⟨none, 0, 0, hn8, hr8, hp8, hD8, hK8⟩
  case rest =>
  obtain ⟨Aa, na, ca, hnaH, hr8, hp8, hD8, hK8⟩ := hcut
  obtain ⟨wC, rfl⟩ : ∃ v : World, v = wc := ⟨_, rfl⟩
  have hrwC : Hid (wC.heap[Lg]? = some (.cells #[.pointer (some ⟨D, 0, none⟩), .slice Aa na ca, .bool false] 71 (0, 0))) := hr8.out
  have hpwC : Hid (PLo wC w.heap.size (.slice Aa na ca) psA) := hp8.out
  have hDwC : Hid (DiskI wC D mb dA) := hD8.out
  have hKwC : Hid (KpS (TD D mb) w wC) := hK8.out
  have hpsl : psA.length * 17 ≤ 1048576 := by
    rw [hpsAH.out]
    split
    · have := hftps2; omega
    · simp
  clear hr8 hp8 hD8 hK8 hrw22 hppw22 hDw22 hKw22 hq1H hpsAH hsb2 hftps2 hnps2 hb2 hnb2
  obtain ⟨b3, hf3, e3, hr3⟩ : ∃ x y z, readS dA nLog = (x, y, z) := ⟨_, _, _, rfl⟩
  have hr3H : Hid (readS dA nLog = (b3, hf3, e3)) := hr3
  have hb3 : Hid (∀ x ∈ b3, x < 256) := by have := hdbA.out.read nLog; rw [hr3] at this; exact this
  have hb3l : b3.length ≤ 1048576 := by have := hDwC.out.read_len nLog; rw [hr3] at this; exact this
  clear hr3
  go_upto_region 13 with fail
  refine wp_region_lit ?_
  refine sl_run rfl (.pointer (some ⟨D, 0, none⟩)) wC (by kernel_rfl) ?_
  simp only [Act.put, fl1, fl2, fl3]
  refine sg_call (by kernel_rfl) 33 #[.pointer (some ⟨D, 0, none⟩), .string nLog] (by kernel_rfl) (R := fun u w' => ∃ v, u = .tuple #[v, .bool hf3, .int .i64 (e3 : Int)] ∧ Rw 1 encB w' v b3 ∧ Below wC.heap.size wC w') ?hb3 ?_
  case hb3 =>
    have h8 := read_calls hDwC.out nLog
    rw [hr3H.out] at h8
    exact h8.mono fun e w' h => by
      obtain ⟨v, h1, h2, h3⟩ := h
      exact ⟨_, h1, v, rfl, h2, h3⟩
  rintro _ w41 ⟨r9, rfl, hr0, hb⟩
  simp only [Act.put, fl1, fl2, fl3]
  have hDw41 : Hid (DiskI w41 D mb dA) := (hDwC.out).below hb
  have hKw41 : Hid (KpS (TD D mb) w w41) := (hKwC.out).trans (KpS.of hb)
  have hrw41 : Hid (w41.heap[Lg]? = some (.cells #[.pointer (some ⟨D, 0, none⟩), .slice Aa na ca, .bool false] 71 (0, 0))) := heap_kept (hrwC.out) hb
  have hpw41 : Hid (PLo w41 w.heap.size (.slice Aa na ca) psA) := (hpwC.out).below hb
  clear hDwC hKwC hrwC hpwC
  obtain ⟨Ab3, cb3, rfl⟩ := hr0.form
  obtain ⟨nb3, hn5⟩ : ∃ k, k = b3.length := ⟨_, rfl⟩
  rw [← hn5] at hr0 ⊢
  have hnb3 : Hid (nb3 = b3.length) := hn5
  have hx3w41 : Hid (Rw 1 encB w41 (.slice Ab3 nb3 cb3) b3) := hr0
  clear hr0 hb hn5
  refine sl_run rfl (.tuple #[.slice Ab3 nb3 cb3, .bool hf3, .int .i64 (e3 : Int)]) w41 (by kernel_rfl) ?_
  simp only [Act.put, fl1, fl2, fl3]
  refine sl_run rfl (.slice Ab3 nb3 cb3) w41 (by kernel_rfl) ?_
  simp only [Act.put, fl1, fl2, fl3]
  refine sl_run rfl (.bool hf3) w41 (by kernel_rfl) ?_
  simp only [Act.put, fl1, fl2, fl3]
  refine sl_run rfl (.int .i64 (e3 : Int)) w41 (by kernel_rfl) ?_
  simp only [Act.put, fl1, fl2, fl3]
  refine sl_run rfl (.slice Ab3 nb3 cb3) w41 (by kernel_rfl) ?_
  simp only [Act.put, fl1, fl2, fl3]
  refine sl_run rfl (.bool hf3) w41 (by kernel_rfl) ?_
  simp only [Act.put, fl1, fl2, fl3]
  refine sl_run rfl (.int .i64 (e3 : Int)) w41 (by kernel_rfl) ?_
  simp only [Act.put, fl1, fl2, fl3]
  refine wpList_nil ?_
  by_cases hz3 : e3 = 0
  case neg =>
    go_upto_region 14 with fail
    refine wp_region_lit ?_
    refine sl_run rfl (.int .i64 (e3 : Int)) w41 (by kernel_rfl) ?_
    simp only [Act.put, fl1, fl2, fl3]
    refine sl_run rfl (.bool true) w41 (exec_nen _ _ _ rfl e3 0 (by kernel_rfl) (by kernel_rfl) true (decide_eq_true hz3)) ?_
    simp only [Act.put, fl1, fl2, fl3]
    refine wpList_nil ?_
    have hT9 : T = (dA, [], e3) := by rw [hTB.out]; unfold openB; rw [hr2H.out, if_neg (fun h => h hz2H.out), hr3H.out, if_pos hz3]
    have hne : Hid (e3 ≠ 0) := hz3
    have hT2 : Hid (T = (dA, [], e3)) := hT9
    have hD8 := hDw41
    have hK8 := hKw41
    clear hT9 hDw41 hKw41 hTB hdbA hzH hz2H hz3 hr2H hr3H hb3 hnb3 hrw41 hpw41 hx3w41 hLgle hpsA2 hnaH
    go_wp2_with fail
    go_ret2
    refine ⟨hK8.out, fun h => ?_, fun h => ?_⟩
    · rw [hT2.out]; exact ⟨rfl, hD8.out⟩
    · rw [hT2.out] at h; exact absurd h hne.out
  case pos =>
  go_upto_region 14 with fail
  refine wp_region_lit ?_
  refine sl_run rfl (.int .i64 (e3 : Int)) w41 (by kernel_rfl) ?_
  simp only [Act.put, fl1, fl2, fl3]
  refine sl_run rfl (.bool false) w41 (exec_nen _ _ _ rfl e3 0 (by kernel_rfl) (by kernel_rfl) false (decide_eq_false (fun h => h hz3))) ?_
  simp only [Act.put, fl1, fl2, fl3]
  refine wpList_nil ?_
  have hz3H : Hid (e3 = 0) := hz3
  clear hz3
  go_upto_region 16 with fail
  refine wp_region_lit ?_
  refine sl_run rfl (.pointer (some ⟨Lg, 0, none⟩)) w41 (by kernel_rfl) ?_
  simp only [Act.put, fl1, fl2, fl3]
  refine sl_run rfl (.pointer (some ⟨Lg, 0, none⟩)) w41 (by kernel_rfl) ?_
  simp only [Act.put, fl1, fl2, fl3]
  refine sl_run rfl (.pointer (some ⟨Lg, 1, none⟩)) w41 (by kernel_rfl) ?_
  simp only [Act.put, fl1, fl2, fl3]
  refine sl_run rfl (.slice Aa na ca) w41 (exec_load_cell 30 w41 _ rfl ⟨Lg, 1, none⟩ (by kernel_rfl) _ (by rw [cell_of_row _ _ _ _ _ _ hrw41.out]; rfl) (fun _ => by kernel_rfl)) ?_
  simp only [Act.put, fl1, fl2, fl3]
  refine sl_run rfl (.int .i64 (na : Int)) w41 (by kernel_rfl) ?_
  simp only [Act.put, fl1, fl2, fl3]
  refine sl_run rfl (.int .i64 (na : Int)) w41 (by kernel_rfl) ?_
  simp only [Act.put, fl1, fl2, fl3]
  refine wpList_nil ?_
  go_upto_region 17 with fail
  refine wp_region_lit ?_
  refine sl_run rfl (.slice Ab3 nb3 cb3) w41 (by kernel_rfl) ?_
  simp only [Act.put, fl1, fl2, fl3]
  obtain ⟨f3, ps3, en3, hsc⟩ : ∃ x y z, scan0 b3 = (x, y, z) := ⟨_, _, _, rfl⟩
  have hsb3 : Hid (scan0 b3 = (f3, ps3, en3)) := hsc
  have hfit : ps3.length * 17 ≤ en3 ∧ en3 ≤ b3.length ∧ Byt ps3 ∧ f3 ≤ 1099511627776 := by have := scan0_fit b3 hb3.out; rw [hsc] at this; exact this
  have hftps3 : ps3.length * 17 ≤ en3 ∧ en3 ≤ b3.length ∧ f3 ≤ 1099511627776 := ⟨hfit.1, hfit.2.1, hfit.2.2.2⟩
  clear hsc hfit
  refine sg_call (by kernel_rfl) 12 #[.slice Ab3 nb3 cb3] (by kernel_rfl) (R := fun u w' => ∃ v, u = .tuple #[.int .i64 (f3 : Int), v, .int .i64 (en3 : Int)] ∧ PLo w' w41.heap.size v ps3 ∧ Below w41.heap.size w41 w') ?hscb3 ?_
  case hscb3 =>
    have h8 := Scan_calls b3 hb3.out Ab3 nb3 cb3 hnb3.out (by have := hnb3.out; omega) w41 hx3w41.out
    rw [hsb3.out] at h8
    exact h8.mono fun e w' h => by
      obtain ⟨v, h1, h2, h3⟩ := h
      exact ⟨_, h1, v, rfl, h2, h3⟩
  rintro _ w42 ⟨r9, rfl, hp0, hb⟩
  simp only [Act.put, fl1, fl2, fl3]
  have hp1 := hp0.mono hKw41.out.size
  have hDw42 : Hid (DiskI w42 D mb dA) := (hDw41.out).below hb
  have hKw42 : Hid (KpS (TD D mb) w w42) := (hKw41.out).trans (KpS.of hb)
  have hrw42 : Hid (w42.heap[Lg]? = some (.cells #[.pointer (some ⟨D, 0, none⟩), .slice Aa na ca, .bool false] 71 (0, 0))) := heap_kept (hrw41.out) hb
  have hpw42 : Hid (PLo w42 w.heap.size (.slice Aa na ca) psA) := (hpw41.out).below hb
  have hx3w42 : Hid (Rw 1 encB w42 (.slice Ab3 nb3 cb3) b3) := (hx3w41.out).below hb
  clear hDw41 hKw41 hrw41 hpw41 hx3w41
  obtain ⟨Aps3, cps3, rfl⟩ := hp1.form
  obtain ⟨nps3, hn5⟩ : ∃ k, k = ps3.length := ⟨_, rfl⟩
  rw [← hn5] at hp1 ⊢
  have hnps3 : Hid (nps3 = ps3.length) := hn5
  have hpqw42 : Hid (PLo w42 w.heap.size (.slice Aps3 nps3 cps3) ps3) := hp1
  clear hp0 hp1 hb hn5 hx3w42
  refine sl_run rfl (.tuple #[.int .i64 (f3 : Int), .slice Aps3 nps3 cps3, .int .i64 (en3 : Int)]) w42 (by kernel_rfl) ?_
  simp only [Act.put, fl1, fl2, fl3]
  refine sl_run rfl (.int .i64 (f3 : Int)) w42 (by kernel_rfl) ?_
  simp only [Act.put, fl1, fl2, fl3]
  refine sl_run rfl (.slice Aps3 nps3 cps3) w42 (by kernel_rfl) ?_
  simp only [Act.put, fl1, fl2, fl3]
  refine sl_run rfl (.int .i64 (en3 : Int)) w42 (by kernel_rfl) ?_
  simp only [Act.put, fl1, fl2, fl3]
  refine sl_run rfl (.int .i64 (f3 : Int)) w42 (by kernel_rfl) ?_
  simp only [Act.put, fl1, fl2, fl3]
  refine sl_run rfl (.slice Aps3 nps3 cps3) w42 (by kernel_rfl) ?_
  simp only [Act.put, fl1, fl2, fl3]
  refine sl_run rfl (.int .i64 (en3 : Int)) w42 (by kernel_rfl) ?_
  simp only [Act.put, fl1, fl2, fl3]
  refine wpList_nil ?_
  obtain ⟨M, hM⟩ : ∃ M, M = openMix psA (f3, ps3, en3) := ⟨_, rfl⟩
  obtain ⟨ok, hok⟩ : ∃ b, b = mixOk psA (f3, ps3, en3) := ⟨_, rfl⟩
  have hMH : Hid (M = if ok = true then (psA ++ ps3.drop (psA.length + 1 - f3), en3) else (psA, 0)) := by show _ = _; rw [hM, hok]; rfl
  have hokH : Hid (ok = (decide (1 ≤ f3) && (decide (f3 ≤ na + 1) && decide (na + 1 ≤ f3 + nps3)))) := by show _ = _; rw [hok, hnaH.out, hnps3.out]; rfl
  have hTC : Hid (T = openCut dA b3.length M) := by
    show _ = _
    rw [hTB.out]; unfold openB
    rw [hr2H.out, if_neg (fun h => h hz2H.out), hr3H.out, if_neg (fun h => h hz3H.out), hsb3.out, ← hpsA2.out, ← hM]
  have hnp3 : nps3 * 17 ≤ 1048576 := by have := hftps3; have := hnps3.out; omega
  have hna9 : na * 17 ≤ 1048576 := by rw [hnaH.out]; exact hpsl
  have hf39 : f3 ≤ 1099511627776 := hftps3.2.2
  clear hM hok hTB hr2H hr3H hsb3 hpsA2
  go_upto_region 18 with fail
  refine wp_region_lit ?_
  refine sl_run rfl (.int .i64 (f3 : Int)) w42 (by kernel_rfl) ?_
  simp only [Act.put, fl1, fl2, fl3]
  refine sl_run rfl (.slice Aps3 nps3 cps3) w42 (by kernel_rfl) ?_
  simp only [Act.put, fl1, fl2, fl3]
  refine sl_run rfl (.int .i64 (nps3 : Int)) w42 (by kernel_rfl) ?_
  simp only [Act.put, fl1, fl2, fl3]
  refine sl_run rfl (.int .i64 ((f3 : Int) + (nps3 : Int))) w42 (exec_add2 _ _ rfl (f3 : Int) (nps3 : Int) (by kernel_rfl) (by kernel_rfl) (by omega) (by omega) _) ?_
  simp only [Act.put, fl1, fl2, fl3]
  refine sl_run rfl (.int .i64 ((f3 : Int) + (nps3 : Int) - 1)) w42 (exec_sub2 _ _ rfl ((f3 : Int) + (nps3 : Int)) 1 (by kernel_rfl) (by kernel_rfl) (by omega) (by omega)) ?_
  simp only [Act.put, fl1, fl2, fl3]
  refine sl_run rfl (.int .i64 ((f3 : Int) + (nps3 : Int) - 1)) w42 (by kernel_rfl) ?_
  simp only [Act.put, fl1, fl2, fl3]
  refine wpList_nil ?_
  go_upto_region 19 with fail
  go_cut [98] from 86 to 97 (fun s98 wc => s98 = .bool ok ∧ wc = w42)
  case first =>
    refine wp_region_lit ?_
    by_cases hc1 : 1 ≤ f3
    case neg =>
      refine sl_run rfl (.int .i64 (f3 : Int)) w42 (by kernel_rfl) ?_
      simp only [Act.put, fl1, fl2, fl3]
      refine sl_run rfl (.bool false) w42 (exec_geq _ _ _ rfl ((f3 : Int)) (1) (by kernel_rfl) (by kernel_rfl) false (decide_eq_false (by omega))) ?_
      simp only [Act.put, fl1, fl2, fl3]
      refine sl_run rfl (.bool false) w42 (by kernel_rfl) ?_
      simp only [Act.put, fl1, fl2, fl3]
      rw [wpList, if_neg (by rw [show Region.wanted _ _ = false by kernel_rfl]; decide)]
      simp only [Act.put, fl1, fl2, fl3]
      rw [wpList, if_neg (by rw [show Region.wanted _ _ = false by kernel_rfl]; decide)]
      simp only [Act.put, fl1, fl2, fl3]
      rw [wpList, if_neg (by rw [show Region.wanted _ _ = false by kernel_rfl]; decide)]
      simp only [Act.put, fl1, fl2, fl3]
      rw [wpList, if_neg (by rw [show Region.wanted _ _ = false by kernel_rfl]; decide)]
      simp only [Act.put, fl1, fl2, fl3]
      refine sl_run rfl (.bool false) w42 (by kernel_rfl) ?_
      simp only [Act.put, fl1, fl2, fl3]
      refine sl_run rfl (.bool false) w42 (by kernel_rfl) ?_
      simp only [Act.put, fl1, fl2, fl3]
      rw [wpList, if_neg (by rw [show Region.wanted _ _ = false by kernel_rfl]; decide)]
      simp only [Act.put, fl1, fl2, fl3]
      rw [wpList, if_neg (by rw [show Region.wanted _ _ = false by kernel_rfl]; decide)]
      simp only [Act.put, fl1, fl2, fl3]
      rw [wpList, if_neg (by rw [show Region.wanted _ _ = false by kernel_rfl]; decide)]
      simp only [Act.put, fl1, fl2, fl3]
      refine sl_run rfl (.bool false) w42 (by kernel_rfl) ?_
      simp only [Act.put, fl1, fl2, fl3]
      refine wpList_nil ?_
      have hv : ok = false := by rw [hokH.out]; simp; omega
      clear hokH
      subst hv
      go_wp2_with fail
      go_meet
      case rel => exact ⟨rfl, rfl⟩
    case pos =>
    by_cases hc2 : f3 ≤ na + 1
    case neg =>
      refine sl_run rfl (.int .i64 (f3 : Int)) w42 (by kernel_rfl) ?_
      simp only [Act.put, fl1, fl2, fl3]
      refine sl_run rfl (.bool true) w42 (exec_geq _ _ _ rfl ((f3 : Int)) (1) (by kernel_rfl) (by kernel_rfl) true (decide_eq_true (by omega))) ?_
      simp only [Act.put, fl1, fl2, fl3]
      refine sl_run rfl (.bool true) w42 (by kernel_rfl) ?_
      simp only [Act.put, fl1, fl2, fl3]
      refine sg_run (by kernel_rfl) (.int .i64 (f3 : Int)) w42 (by kernel_rfl) ?_
      simp only [Act.put, fl1, fl2, fl3]
      refine sg_run (by kernel_rfl) (.int .i64 (na : Int)) w42 (by kernel_rfl) ?_
      simp only [Act.put, fl1, fl2, fl3]
      refine sg_run (by kernel_rfl) (.int .i64 ((na : Int) + 1)) w42 (exec_add2 _ _ rfl (na : Int) 1 (by kernel_rfl) (by kernel_rfl) (by omega) (by omega) _) ?_
      simp only [Act.put, fl1, fl2, fl3]
      refine sg_run (by kernel_rfl) (.bool false) w42 (exec_leq _ _ _ rfl ((f3 : Int)) ((na : Int) + 1) (by kernel_rfl) (by kernel_rfl) false (decide_eq_false (by omega))) ?_
      simp only [Act.put, fl1, fl2, fl3]
      refine sl_run rfl (.bool false) w42 (by kernel_rfl) ?_
      simp only [Act.put, fl1, fl2, fl3]
      refine sl_run rfl (.bool false) w42 (by kernel_rfl) ?_
      simp only [Act.put, fl1, fl2, fl3]
      rw [wpList, if_neg (by rw [show Region.wanted _ _ = false by kernel_rfl]; decide)]
      simp only [Act.put, fl1, fl2, fl3]
      rw [wpList, if_neg (by rw [show Region.wanted _ _ = false by kernel_rfl]; decide)]
      simp only [Act.put, fl1, fl2, fl3]
      rw [wpList, if_neg (by rw [show Region.wanted _ _ = false by kernel_rfl]; decide)]
      simp only [Act.put, fl1, fl2, fl3]
      refine sl_run rfl (.bool false) w42 (by kernel_rfl) ?_
      simp only [Act.put, fl1, fl2, fl3]
      refine wpList_nil ?_
      have hv : ok = false := by rw [hokH.out]; simp; omega
      clear hokH
      subst hv
      go_wp2_with fail
      go_meet
      case rel => exact ⟨rfl, rfl⟩
    case pos =>
    by_cases hc3 : na + 1 ≤ f3 + nps3
    case neg =>
      refine sl_run rfl (.int .i64 (f3 : Int)) w42 (by kernel_rfl) ?_
      simp only [Act.put, fl1, fl2, fl3]
      refine sl_run rfl (.bool true) w42 (exec_geq _ _ _ rfl ((f3 : Int)) (1) (by kernel_rfl) (by kernel_rfl) true (decide_eq_true (by omega))) ?_
      simp only [Act.put, fl1, fl2, fl3]
      refine sl_run rfl (.bool true) w42 (by kernel_rfl) ?_
      simp only [Act.put, fl1, fl2, fl3]
      refine sg_run (by kernel_rfl) (.int .i64 (f3 : Int)) w42 (by kernel_rfl) ?_
      simp only [Act.put, fl1, fl2, fl3]
      refine sg_run (by kernel_rfl) (.int .i64 (na : Int)) w42 (by kernel_rfl) ?_
      simp only [Act.put, fl1, fl2, fl3]
      refine sg_run (by kernel_rfl) (.int .i64 ((na : Int) + 1)) w42 (exec_add2 _ _ rfl (na : Int) 1 (by kernel_rfl) (by kernel_rfl) (by omega) (by omega) _) ?_
      simp only [Act.put, fl1, fl2, fl3]
      refine sg_run (by kernel_rfl) (.bool true) w42 (exec_leq _ _ _ rfl ((f3 : Int)) ((na : Int) + 1) (by kernel_rfl) (by kernel_rfl) true (decide_eq_true (by omega))) ?_
      simp only [Act.put, fl1, fl2, fl3]
      refine sl_run rfl (.bool true) w42 (by kernel_rfl) ?_
      simp only [Act.put, fl1, fl2, fl3]
      refine sl_run rfl (.bool true) w42 (by kernel_rfl) ?_
      simp only [Act.put, fl1, fl2, fl3]
      refine sg_run (by kernel_rfl) (.int .i64 ((f3 : Int) + (nps3 : Int) - 1)) w42 (by kernel_rfl) ?_
      simp only [Act.put, fl1, fl2, fl3]
      refine sg_run (by kernel_rfl) (.int .i64 (na : Int)) w42 (by kernel_rfl) ?_
      simp only [Act.put, fl1, fl2, fl3]
      refine sg_run (by kernel_rfl) (.bool false) w42 (exec_geq _ _ _ rfl ((f3 : Int) + (nps3 : Int) - 1) ((na : Int)) (by kernel_rfl) (by kernel_rfl) false (decide_eq_false (by omega))) ?_
      simp only [Act.put, fl1, fl2, fl3]
      refine sl_run rfl (.bool false) w42 (by kernel_rfl) ?_
      simp only [Act.put, fl1, fl2, fl3]
      refine wpList_nil ?_
      have hv : ok = false := by rw [hokH.out]; simp; omega
      clear hokH
      subst hv
      go_wp2_with fail
      go_meet
      case rel => exact ⟨rfl, rfl⟩
    case pos =>
      refine sl_run rfl (.int .i64 (f3 : Int)) w42 (by kernel_rfl) ?_
      simp only [Act.put, fl1, fl2, fl3]
      refine sl_run rfl (.bool true) w42 (exec_geq _ _ _ rfl ((f3 : Int)) (1) (by kernel_rfl) (by kernel_rfl) true (decide_eq_true (by omega))) ?_
      simp only [Act.put, fl1, fl2, fl3]
      refine sl_run rfl (.bool true) w42 (by kernel_rfl) ?_
      simp only [Act.put, fl1, fl2, fl3]
      refine sg_run (by kernel_rfl) (.int .i64 (f3 : Int)) w42 (by kernel_rfl) ?_
      simp only [Act.put, fl1, fl2, fl3]
      refine sg_run (by kernel_rfl) (.int .i64 (na : Int)) w42 (by kernel_rfl) ?_
      simp only [Act.put, fl1, fl2, fl3]
      refine sg_run (by kernel_rfl) (.int .i64 ((na : Int) + 1)) w42 (exec_add2 _ _ rfl (na : Int) 1 (by kernel_rfl) (by kernel_rfl) (by omega) (by omega) _) ?_
      simp only [Act.put, fl1, fl2, fl3]
      refine sg_run (by kernel_rfl) (.bool true) w42 (exec_leq _ _ _ rfl ((f3 : Int)) ((na : Int) + 1) (by kernel_rfl) (by kernel_rfl) true (decide_eq_true (by omega))) ?_
      simp only [Act.put, fl1, fl2, fl3]
      refine sl_run rfl (.bool true) w42 (by kernel_rfl) ?_
      simp only [Act.put, fl1, fl2, fl3]
      refine sl_run rfl (.bool true) w42 (by kernel_rfl) ?_
      simp only [Act.put, fl1, fl2, fl3]
      refine sg_run (by kernel_rfl) (.int .i64 ((f3 : Int) + (nps3 : Int) - 1)) w42 (by kernel_rfl) ?_
      simp only [Act.put, fl1, fl2, fl3]
      refine sg_run (by kernel_rfl) (.int .i64 (na : Int)) w42 (by kernel_rfl) ?_
      simp only [Act.put, fl1, fl2, fl3]
      refine sg_run (by kernel_rfl) (.bool true) w42 (exec_geq _ _ _ rfl ((f3 : Int) + (nps3 : Int) - 1) ((na : Int)) (by kernel_rfl) (by kernel_rfl) true (decide_eq_true (by omega))) ?_
      simp only [Act.put, fl1, fl2, fl3]
      refine sl_run rfl (.bool true) w42 (by kernel_rfl) ?_
      simp only [Act.put, fl1, fl2, fl3]
      refine wpList_nil ?_
      have hv : ok = true := by rw [hokH.out]; simp; omega
      clear hokH
      subst hv
      go_wp2_with fail
      go_meet
      case rel => exact ⟨rfl, rfl⟩
  case rest =>
  obtain ⟨rfl, hwc⟩ := hcut
  obtain rfl := hwc.symm
  go_upto_if 98 with fail
  go_cut [18] from 99 to 112 (fun s18 wc => s18 = .int .i64 (M.2 : Int) ∧ ∃ v, Hid (wc.heap[Lg]? = some (.cells #[.pointer (some ⟨D, 0, none⟩), v, .bool false] 71 (0, 0))) ∧ Hid (PLo wc w.heap.size v M.1) ∧ Hid (DiskI wc D mb dA) ∧ Hid (KpS (TD D mb) w wc))
  case first =>
    cases ok with
    | true =>
      have hc : 1 ≤ f3 ∧ f3 ≤ na + 1 ∧ na + 1 ≤ f3 + nps3 := by have := hokH.out; simpa using this.symm
      have hM2 : Hid (M = (psA ++ ps3.drop (na + 1 - f3), en3)) := by show _ = _; rw [hMH.out, if_pos rfl, hnaH.out]
      obtain ⟨hc1, hc2, hc3⟩ := hc
      go_upto_region 20 with fail
      refine wp_normalG ?_
      refine wp_region_held_drew (S := fun w' => KpS (fun q => q = Lg ∨ some q = (Value.slice Aa na ca).ownBlock) w42 w') (by kernel_rfl) (KpS.of (Below.refl _ _).drew) (fun hS => ?_)
      change wpAnyH _ _ _ _ _ 15 (Array.replicate 15 false) _ _
      have hb : Below w42.heap.size w42 w42.drew := (Below.refl _ _).drew
      generalize hx : w42.drew = yr at hS hb ⊢
      clear hx
      have hZy : Hid (KpS (fun q => q = Lg ∨ some q = (Value.slice Aa na ca).ownBlock) w42 yr) := hS
      have hDy : Hid (DiskI yr D mb dA) := (hDw42.out).below hb
      have hKy : Hid (KpS (TD D mb) w yr) := (hKw42.out).trans (KpS.of hb)
      have hry : Hid (yr.heap[Lg]? = some (.cells #[.pointer (some ⟨D, 0, none⟩), .slice Aa na ca, .bool false] 71 (0, 0))) := heap_kept (hrw42.out) hb
      have hpy : Hid (PLo yr w.heap.size (.slice Aa na ca) psA) := (hpw42.out).below hb
      have hpqy : Hid (PLo yr w.heap.size (.slice Aps3 nps3 cps3) ps3) := (hpqw42.out).below hb
      clear hb hS hDw42 hKw42 hrw42 hpw42 hpqw42
      refine held_take 0 rfl (by kernel_rfl) (by kernel_rfl) (by kernel_rfl) (.pointer (some ⟨Lg, 0, none⟩)) (fun _ _ _ h => nomatch h.1) (by kernel_rfl) (fun w' h => (by kernel_rfl)) hZy.out ?_
      simp only [Act.put, fl1, fl2, fl3, fl4, fl5, fl6]
      refine held_take 1 rfl (by kernel_rfl) (by kernel_rfl) (by kernel_rfl) (.pointer (some ⟨Lg, 0, none⟩)) (fun _ _ _ h => nomatch h.1) (by kernel_rfl) (fun w' h => (by kernel_rfl)) hZy.out ?_
      simp only [Act.put, fl1, fl2, fl3, fl4, fl5, fl6]
      refine held_take 2 rfl (by kernel_rfl) (by kernel_rfl) (by kernel_rfl) (.pointer (some ⟨Lg, 0, none⟩)) (fun _ _ _ h => nomatch h.1) (by kernel_rfl) (fun w' h => (by kernel_rfl)) hZy.out ?_
      simp only [Act.put, fl1, fl2, fl3, fl4, fl5, fl6]
      refine held_take 3 rfl (by kernel_rfl) (by kernel_rfl) (by kernel_rfl) (.pointer (some ⟨Lg, 1, none⟩)) (fun _ _ _ h => nomatch h.1) (by kernel_rfl) (fun w' h => (by kernel_rfl)) hZy.out ?_
      simp only [Act.put, fl1, fl2, fl3, fl4, fl5, fl6]
      refine held_take 5 rfl (by kernel_rfl) (by kernel_rfl) (by kernel_rfl) (.slice Aps3 nps3 cps3) (fun _ _ _ h => nomatch h.1) (by kernel_rfl) (fun w' h => (by kernel_rfl)) hZy.out ?_
      simp only [Act.put, fl1, fl2, fl3, fl4, fl5, fl6]
      refine held_take 6 rfl (by kernel_rfl) (by kernel_rfl) (by kernel_rfl) (.int .i64 (na : Int)) (fun _ _ _ h => nomatch h.1) (by kernel_rfl) (fun w' h => (by kernel_rfl)) hZy.out ?_
      simp only [Act.put, fl1, fl2, fl3, fl4, fl5, fl6]
      refine held_take 7 rfl (by kernel_rfl) (by kernel_rfl) (by kernel_rfl) (.int .i64 ((na : Int) + 1)) (fun _ _ _ h => nomatch h.1) (by kernel_rfl) (fun w' h => (exec_add2 _ _ rfl (na : Int) 1 (by kernel_rfl) (by kernel_rfl) (by omega) (by omega) _)) hZy.out ?_
      simp only [Act.put, fl1, fl2, fl3, fl4, fl5, fl6]
      refine held_take 8 rfl (by kernel_rfl) (by kernel_rfl) (by kernel_rfl) (.int .i64 (f3 : Int)) (fun _ _ _ h => nomatch h.1) (by kernel_rfl) (fun w' h => (by kernel_rfl)) hZy.out ?_
      simp only [Act.put, fl1, fl2, fl3, fl4, fl5, fl6]
      refine held_take 9 rfl (by kernel_rfl) (by kernel_rfl) (by kernel_rfl) (.int .i64 ((na + 1 - f3 : Nat) : Int)) (fun _ _ _ h => nomatch h.1) (by kernel_rfl) (fun w' h => ((exec_sub2 _ _ rfl ((na : Int) + 1) (f3 : Int) (by kernel_rfl) (by kernel_rfl) (by omega) (by omega)).trans (by rw [show (na : Int) + 1 - (f3 : Int) = ((na + 1 - f3 : Nat) : Int) by omega]))) hZy.out ?_
      simp only [Act.put, fl1, fl2, fl3, fl4, fl5, fl6]
      refine held_take 10 rfl (by kernel_rfl) (by kernel_rfl) (by kernel_rfl) (.slice (if cps3 = (na + 1 - f3) then Aps3 else Aps3.map (·.add ((na + 1 - f3) * 1))) (nps3 - (na + 1 - f3)) (cps3 - (na + 1 - f3))) (fun _ _ _ h => nomatch h.1) (by kernel_rfl) (fun w' h => (exec_fromS un30s sz30s _ _ rfl Aps3 nps3 cps3 (na + 1 - f3) (by kernel_rfl) (by kernel_rfl) (by omega) w')) hZy.out ?_
      simp only [Act.put, fl1, fl2, fl3, fl4, fl5, fl6]
      refine held_run 4 rfl (by kernel_rfl) (by kernel_rfl) (.slice Aa na ca) yr (exec_load_cell 30 yr _ rfl ⟨Lg, 1, none⟩ (by kernel_rfl) _ (by rw [cell_of_row _ _ _ _ _ _ hry.out]; rfl) (fun _ => by kernel_rfl)) hZy.out ?_
      simp only [Act.put, fl1, fl2, fl3, fl4, fl5, fl6]
      obtain ⟨xs, hx1, hx2, hx3⟩ := hpqy.out.tail hnps3.out (na + 1 - f3) (by omega)
      obtain ⟨A8, hA8⟩ : ∃ a, a = (if cps3 = (na + 1 - f3) then Aps3 else Aps3.map (·.add ((na + 1 - f3) * 1))) := ⟨_, rfl⟩
      rw [← hA8] at hx1 ⊢
      clear hA8
      obtain ⟨vz, wz, hea, hPz, hgz, hob⟩ := exec_appP (w := yr) (.tmp 103) (.tmp 109) w.heap.size (.slice Aa na ca) psA (ps3.drop (na + 1 - f3)) hpy.out _ xs hx1 hx2 hx3 (by have := hnaH.out; have := hnps3.out; simp; omega) hKy.out.size
      clear hob hx1 hx2 hx3
      obtain ⟨Az, cz, rfl⟩ := hPz.form
      obtain ⟨nz, hnz⟩ : ∃ k, k = (psA ++ ps3.drop (na + 1 - f3)).length := ⟨_, rfl⟩
      rw [← hnz] at hPz hea
      clear hnz
      have hrwz : Hid (wz.heap[Lg]? = some (.cells #[.pointer (some ⟨D, 0, none⟩), .slice Aa na ca, .bool false] 71 (0, 0))) := (hgz.block Lg (Array.getElem?_eq_some_iff.1 hry.out).1 (hpy.out.kind hry.out (by decide))).trans hry.out
      have hDwz : Hid (DiskI wz D mb dA) := hDy.out.grownP hpy.out hgz
      have hpwz : Hid (PLo wz w.heap.size (.slice Az nz cz) (psA ++ ps3.drop (na + 1 - f3))) := hPz
      have hKwz : Hid (KpS (TD D mb) w wz) := ⟨hgz.os.trans hKy.out.os, hgz.tape.trans hKy.out.tape, hgz.output.trans hKy.out.output, Nat.le_trans hKy.out.size hgz.size, fun k hk hn => (hgz.block k (Nat.lt_of_lt_of_le hk hKy.out.size) (fun e => by have := (hpy.out.lt k e.symm).1; omega)).trans (hKy.out.block k hk hn)⟩
      have hZz : Hid (KpS (fun q => q = Lg ∨ some q = (Value.slice Aa na ca).ownBlock) w42 wz) := hZy.out.trans ⟨hgz.os, hgz.tape, hgz.output, hgz.size, fun k hk hn => hgz.block k hk (fun e => hn (.inr e))⟩
      refine held_run 11 rfl (by kernel_rfl) (by kernel_rfl) (.slice Az nz cz) wz (hea rfl (by kernel_rfl) (by kernel_rfl)) hZz.out ?_
      clear hea hgz hPz hDy hpy hry hKy hpqy hZy
      simp only [Act.put, fl1, fl2, fl3, fl4, fl5, fl6]
      refine held_take 12 rfl (by kernel_rfl) (by kernel_rfl) (by kernel_rfl) (.pointer (some ⟨Lg, 0, none⟩)) (fun _ _ _ h => nomatch h.1) (by kernel_rfl) (fun w' h => (by kernel_rfl)) hZz.out ?_
      simp only [Act.put, fl1, fl2, fl3, fl4, fl5, fl6]
      refine held_take 13 rfl (by kernel_rfl) (by kernel_rfl) (by kernel_rfl) (.pointer (some ⟨Lg, 1, none⟩)) (fun _ _ _ h => nomatch h.1) (by kernel_rfl) (fun w' h => (by kernel_rfl)) hZz.out ?_
      simp only [Act.put, fl1, fl2, fl3, fl4, fl5, fl6]
      have hS9 : KpS (fun q => q = Lg ∨ some q = (Value.slice Aa na ca).ownBlock) w42 (wz.setCell ⟨Lg, 1, none⟩ (.slice Az nz cz)) := hZz.out.set _ _ _ (.inl (.inl rfl))
      refine held_did 14 rfl (by kernel_rfl) (by kernel_rfl) (wz.setCell ⟨Lg, 1, none⟩ (.slice Az nz cz)) (exec_store_cell 30 _ _ rfl Lg 1 (by kernel_rfl) (.slice Az nz cz) (by kernel_rfl) (.slice Aa na ca) (by rw [cell_of_row _ _ _ _ _ _ hrwz.out]; rfl) (frozen_of_row _ _ _ _ _ hrwz.out) (fun w => by kernel_rfl) (by rfl) rfl) hS9 ?_
      clear hS9
      simp only [Act.put, fl1, fl2, fl3, fl4, fl5, fl6]
      have hS0 : (wz.setCell ⟨Lg, 1, none⟩ (.slice Az nz cz)).heap.size = wz.heap.size := by simp [World.setCell]
      have hr8 : Hid ((wz.setCell ⟨Lg, 1, none⟩ (.slice Az nz cz)).heap[Lg]? = some (.cells #[.pointer (some ⟨D, 0, none⟩), (.slice Az nz cz), .bool false] 71 (0, 0))) := by
        show _ = _
        rw [setCell_eq_setRow wz Lg 1 _ _ (0, 0) _ hrwz.out]
        exact setRow_heap _ _ _ _ _ _ hrwz.out
      have hp8 : Hid (PLo (wz.setCell ⟨Lg, 1, none⟩ (.slice Az nz cz)) w.heap.size (.slice Az nz cz) (psA ++ ps3.drop (na + 1 - f3))) := hpwz.out.kept hrwz.out (by decide) (by decide) ⟨rfl, rfl, rfl, by rw [hS0]; exact Nat.le_refl _, fun j hj hne => setL_kp _ _ _ _ j hj (fun e => hne (by rw [e]))⟩
      have hD8 : Hid (DiskI (wz.setCell ⟨Lg, 1, none⟩ (.slice Az nz cz)) D mb dA) := hDwz.out.grown hrwz.out (by decide) no_bytes (by rw [hS0]; exact Nat.le_refl _) (setL_kp _ _ _ _)
      have hK8 : Hid (KpS (TD D mb) w (wz.setCell ⟨Lg, 1, none⟩ (.slice Az nz cz))) := hKwz.out.set _ _ _ (.inr hLgle.out)
      generalize (wz.setCell ⟨Lg, 1, none⟩ (.slice Az nz cz)) = ws at hr8 hp8 hD8 hK8 ⊢
      clear hS0
      have hp7 : Hid (PLo ws w.heap.size (.slice Az nz cz) M.1) := by rw [hM2.out]; exact hp8.out
      have hEn : Hid (en3 = M.2) := by show _ = _; rw [hM2.out]
      clear hrwz hpwz hDwz hKwz hM2 hp8 hZz
      refine wpAnyH_done (by kernel_rfl) ?_ _
      refine ⟨rfl, ?_⟩
      go_wp2_with fail
      go_meet
      case rel => exact ⟨by rw [← hEn.out], _, hr8, hp7, hD8, hK8⟩
    | false =>
      have hM2 : Hid (M = (psA, 0)) := by show _ = _; rw [hMH.out, if_neg (by decide)]
      have hr8 := hrw42
      have hD8 := hDw42
      have hK8 := hKw42
      have hp8 : Hid (PLo w42 w.heap.size (.slice Aa na ca) M.1) := by rw [hM2.out]; exact hpw42.out
      have hEn : Hid (0 = M.2) := by show _ = _; rw [hM2.out]
      clear hM2 hrw42 hDw42 hKw42 hpw42 hpqw42
      go_wp2_with fail
      go_meet
      case rel => exact ⟨by rw [← hEn.out]; rfl, _, hr8, hp8, hD8, hK8⟩
  case rest =>
  obtain ⟨rfl, v, hr8, hp8, hD8, hK8⟩ := hcut
  obtain ⟨wE, rfl⟩ : ∃ v : World, v = wc := ⟨_, rfl⟩
  have hMle : M.2 ≤ 1048576 := by
    rw [hMH.out]
    split
    · have := hftps3; show en3 ≤ _; omega
    · show 0 ≤ _; omega
  obtain ⟨mps, mn⟩ := M
  have hrwE : Hid (wE.heap[Lg]? = some (.cells #[.pointer (some ⟨D, 0, none⟩), v, .bool false] 71 (0, 0))) := hr8.out
  have hpwE : Hid (PLo wE w.heap.size v mps) := hp8.out
  have hDwE : Hid (DiskI wE D mb dA) := hD8.out
  have hKwE : Hid (KpS (TD D mb) w wE) := hK8.out
  have hMle2 : mn ≤ 1048576 := hMle
  have hT5 : Hid (T = if mn < nb3 then (if (dA.cut nLog mn).2 ≠ 0 then ((dA.cut nLog mn).1, [], (dA.cut nLog mn).2) else ((dA.cut nLog mn).1, mps, 0)) else (dA, mps, 0)) := by
    show _ = _
    rw [hTC.out, hnb3.out]; rfl
  clear hMle hr8 hp8 hD8 hK8 hTC hMH hokH hrw42 hpw42 hpqw42 hDw42 hKw42
  by_cases hlt : mn < nb3
  case neg =>
    go_upto_region 22 with fail
    refine wp_region_lit ?_
    refine sl_run rfl (.slice Ab3 nb3 cb3) wE (by kernel_rfl) ?_
    simp only [Act.put, fl1, fl2, fl3]
    refine sl_run rfl (.int .i64 (nb3 : Int)) wE (by kernel_rfl) ?_
    simp only [Act.put, fl1, fl2, fl3]
    refine sl_run rfl (.int .i64 (mn : Int)) wE (by kernel_rfl) ?_
    simp only [Act.put, fl1, fl2, fl3]
    refine sl_run rfl (.bool false) wE (exec_gtr _ _ _ rfl (nb3 : Int) (mn : Int) (by kernel_rfl) (by kernel_rfl) false (decide_eq_false (by omega))) ?_
    simp only [Act.put, fl1, fl2, fl3]
    refine wpList_nil ?_
    have hT9 : T = (dA, mps, 0) := by rw [hT5.out, if_neg hlt]
    have hT2 : Hid (T = (dA, mps, 0)) := hT9
    have hr8 := hrwE
    have hp8 := hpwE
    have hD8 := hDwE
    have hK8 := hKwE
    have hL8 := hLgle
    clear hT9 hrwE hpwE hDwE hKwE hLgle hT5 hlt hdbA hnaH hb3 hnb3 hnps3 hftps3
    go_wp2_with fail
    go_ret2
    refine ⟨hK8.out, fun h => ?_, fun h => ?_⟩
    · rw [hT2.out] at h; exact absurd rfl h
    · rw [hT2.out]; exact ⟨Lg, rfl, hL8.out, hD8.out, v, hr8.out, hp8.out⟩
  case pos =>
  obtain ⟨dC, eC, hC⟩ : ∃ x y, dA.cut nLog mn = (x, y) := ⟨_, _, rfl⟩
  have hCH : Hid (dA.cut nLog mn = (dC, eC)) := hC
  have hT6 : Hid (T = if eC ≠ 0 then (dC, [], eC) else (dC, mps, 0)) := by show _ = _; rw [hT5.out, if_pos hlt, hC]
  clear hC hT5
  go_upto_region 22 with fail
  refine wp_region_lit ?_
  refine sl_run rfl (.slice Ab3 nb3 cb3) wE (by kernel_rfl) ?_
  simp only [Act.put, fl1, fl2, fl3]
  refine sl_run rfl (.int .i64 (nb3 : Int)) wE (by kernel_rfl) ?_
  simp only [Act.put, fl1, fl2, fl3]
  refine sl_run rfl (.int .i64 (mn : Int)) wE (by kernel_rfl) ?_
  simp only [Act.put, fl1, fl2, fl3]
  refine sl_run rfl (.bool true) wE (exec_gtr _ _ _ rfl (nb3 : Int) (mn : Int) (by kernel_rfl) (by kernel_rfl) true (decide_eq_true (by omega))) ?_
  simp only [Act.put, fl1, fl2, fl3]
  refine wpList_nil ?_
  go_upto_region 23 with fail
  refine wp_region_lit ?_
  refine sl_run rfl (.pointer (some ⟨D, 0, none⟩)) wE (by kernel_rfl) ?_
  simp only [Act.put, fl1, fl2, fl3]
  refine sl_run rfl (.int .i64 (mn : Int)) wE (by kernel_rfl) ?_
  simp only [Act.put, fl1, fl2, fl3]
  refine sg_call (by kernel_rfl) 35 #[.pointer (some ⟨D, 0, none⟩), .string nLog, .int .i64 (mn : Int)] (by kernel_rfl) (R := fun v w' => v = .int .i64 (eC : Int) ∧ DiskI w' D mb dC ∧ KpS (TD D mb) wE w') ?hct ?_
  case hct =>
    have h8 := Cut_calls hDwE.out nLog (mn : Int)
    rw [hCH.out] at h8
    exact h8.mono fun e w' h => ⟨_, h.1, rfl, h.2⟩
  rintro _ wF ⟨rfl, hD9, hK9⟩
  simp only [Act.put, fl1, fl2, fl3]
  have hrwF : Hid (wF.heap[Lg]? = some (.cells #[.pointer (some ⟨D, 0, none⟩), v, .bool false] 71 (0, 0))) := hK9.heap hrwE.out (rw_other hDwE.out hrwE.out (by decide))
  have hpwF : Hid (PLo wF w.heap.size v mps) := hpwE.out.kpS hDwE.out hK9
  have hKwF : Hid (KpS (TD D mb) w wF) := hKwE.out.trans hK9
  have hDwF : Hid (DiskI wF D mb dC) := hD9
  clear hD9 hK9 hCH hrwE hpwE hDwE hKwE
  refine sl_run rfl (.int .i64 (eC : Int)) wF (by kernel_rfl) ?_
  simp only [Act.put, fl1, fl2, fl3]
  refine wpList_nil ?_
  by_cases hz4 : eC = 0
  case neg =>
    go_upto_region 24 with fail
    refine wp_region_lit ?_
    refine sl_run rfl (.int .i64 (eC : Int)) wF (by kernel_rfl) ?_
    simp only [Act.put, fl1, fl2, fl3]
    refine sl_run rfl (.bool true) wF (exec_nen _ _ _ rfl eC 0 (by kernel_rfl) (by kernel_rfl) true (decide_eq_true hz4)) ?_
    simp only [Act.put, fl1, fl2, fl3]
    refine wpList_nil ?_
    have hT9 : T = (dC, [], eC) := by rw [hT6.out, if_pos hz4]
    have hne : Hid (eC ≠ 0) := hz4
    have hT2 : Hid (T = (dC, [], eC)) := hT9
    have hD8 := hDwF
    have hK8 := hKwF
    clear hT9 hDwF hKwF hT6 hlt hz4 hrwF hpwF hLgle hdbA hnaH hb3 hnb3 hnps3 hftps3
    go_wp2_with fail
    go_ret2
    refine ⟨hK8.out, fun h => ?_, fun h => ?_⟩
    · rw [hT2.out]; exact ⟨rfl, hD8.out⟩
    · rw [hT2.out] at h; exact absurd h hne.out
  case pos =>
    go_upto_region 24 with fail
    refine wp_region_lit ?_
    refine sl_run rfl (.int .i64 (eC : Int)) wF (by kernel_rfl) ?_
    simp only [Act.put, fl1, fl2, fl3]
    refine sl_run rfl (.bool false) wF (exec_nen _ _ _ rfl eC 0 (by kernel_rfl) (by kernel_rfl) false (decide_eq_false (fun h => h hz4))) ?_
    simp only [Act.put, fl1, fl2, fl3]
    refine wpList_nil ?_
    have hT9 : T = (dC, mps, 0) := by rw [hT6.out, if_neg (fun h => h hz4)]
    have hT2 : Hid (T = (dC, mps, 0)) := hT9
    have hr8 := hrwF
    have hp8 := hpwF
    have hD8 := hDwF
    have hK8 := hKwF
    have hL8 := hLgle
    clear hT9 hrwF hpwF hDwF hKwF hLgle hT6 hlt hz4 hdbA hnaH hb3 hnb3 hnps3 hftps3
    go_wp2_with fail
    go_ret2
    refine ⟨hK8.out, fun h => ?_, fun h => ?_⟩
    · rw [hT2.out] at h; exact absurd rfl h
    · rw [hT2.out]; exact ⟨Lg, rfl, hL8.out, hD8.out, v, hr8.out, hp8.out⟩
end Go.Proofs.Ytdkaaieenbmihaa
namespace Go.Proofs.Ytdkaaieenbmihaa
open Go.RowKit
open Sha (vals Bytes Lies bytesC sumB)
open Go.Proofs.Ytdkaaieenbmihaa.Pure (nameB)
theorem PLo.made (w : World) (n : Nat) (hn : n ≤ 1000000) : PLo (w.alloc (.cells (madeCells (Value.slice none 0 0).cells (n * 1)) 22)) w.heap.size (.slice (some ⟨w.heap.size, 0, none⟩) 0 n) [] := by
  refine ⟨[], ⟨World.ownsRow_made w _ n (Nat.le_refl _) (by unfold maxLen; omega) (by rw [size_madeCells]), fun q hq => ?_⟩, rfl, fun i h => by simp at h⟩
  simp [Value.ownBlock] at hq
  subst hq
  refine ⟨_, heap_alloc_new w _, fun x hx => ?_⟩
  rw [show (Value.slice none 0 0).cells = #[Value.slice none 0 0] from rfl, toList_madeCells_one] at hx
  exact ⟨_, _, _, List.eq_of_mem_replicate hx⟩
theorem Len_nil (w : World) : Calls Try.prog 22 #[.pointer none] w fun e w' => e = .returned (.int .i64 0) ∧ w = w' := by
  go_enter Try.func22, Try.ntmps22
  go_wp2_with fail
  go_ret
  exact ⟨rfl, rfl⟩
theorem All_nil (w : World) : Calls Try.prog 19 #[.pointer none] w fun e w' => e = .returned (.slice none 0 0) ∧ w = w' := by
  go_enter Try.func19, Try.ntmps19
  go_wp2_with fail
  go_ret
  exact ⟨rfl, rfl⟩
set_option maxRecDepth 100000 in
theorem Len_calls {w : World} {B D mb Lg : Nat} {d : DS} {g : LG} (h : LogI w B D mb Lg d g) : Calls Try.prog 22 #[.pointer (some ⟨Lg, 0, none⟩)] w fun e w' => e = .returned (.int .i64 (g.ps.length : Int)) ∧ w = w' := by
  obtain ⟨v, hr, hp⟩ := h.row
  obtain ⟨Av, cv, rfl⟩ := hp.form
  obtain ⟨np, hnp⟩ : ∃ k, k = g.ps.length := ⟨_, rfl⟩
  rw [← hnp] at hr ⊢
  obtain ⟨b, hbd⟩ : ∃ b, b = g.dead := ⟨_, rfl⟩
  rw [← hbd] at hr
  have hrw : Hid (w.heap[Lg]? = some (.cells #[.pointer (some ⟨D, 0, none⟩), .slice Av np cv, .bool b] 71 (0, 0))) := hr
  clear hr hp h hnp hbd
  go_enter Try.func22, Try.ntmps22
  go_upto_region 1 with fail
  refine wp_region_lit ?_
  refine sl_run rfl (.pointer (some ⟨Lg, 0, none⟩)) w (by kernel_rfl) ?_
  simp only [Act.put, fl1, fl2, fl3]
  refine sl_run rfl (.bool false) w (by kernel_rfl) ?_
  simp only [Act.put, fl1, fl2, fl3]
  refine wpList_nil ?_
  go_upto_region 3 with fail
  refine wp_region_lit ?_
  refine sl_run rfl (.pointer (some ⟨Lg, 0, none⟩)) w (by kernel_rfl) ?_
  simp only [Act.put, fl1, fl2, fl3]
  refine sl_run rfl (.pointer (some ⟨Lg, 0, none⟩)) w (by kernel_rfl) ?_
  simp only [Act.put, fl1, fl2, fl3]
  refine sl_run rfl (.pointer (some ⟨Lg, 1, none⟩)) w (by kernel_rfl) ?_
  simp only [Act.put, fl1, fl2, fl3]
  refine sl_run rfl (.slice Av np cv) w (exec_load_cell 30 w _ rfl ⟨Lg, 1, none⟩ (by kernel_rfl) _ (by rw [cell_of_row _ _ _ _ _ _ hrw.out]; rfl) (fun _ => by kernel_rfl)) ?_
  simp only [Act.put, fl1, fl2, fl3]
  refine sl_run rfl (.int .i64 (np : Int)) w (by kernel_rfl) ?_
  simp only [Act.put, fl1, fl2, fl3]
  refine sl_run rfl (.int .i64 (np : Int)) w (by kernel_rfl) ?_
  simp only [Act.put, fl1, fl2, fl3]
  refine wpList_nil ?_
  clear hrw
  go_wp2_with fail
  go_ret
  exact ⟨rfl, rfl⟩
set_option maxRecDepth 100000 in
set_option maxHeartbeats 8000000 in
theorem All_calls {w : World} {B D mb Lg : Nat} {d : DS} {g : LG} (h : LogI w B D mb Lg d g) (hgl : g.ps.length ≤ 1000000) (hg9 : ∀ p ∈ g.ps, p.length ≤ 1000000000) : Calls Try.prog 19 #[.pointer (some ⟨Lg, 0, none⟩)] w fun e w' => ∃ v, e = .returned v ∧ PLo w' w.heap.size v g.ps ∧ Below w.heap.size w w' := by
  obtain ⟨v, hr, hp⟩ := h.row
  obtain ⟨Av, cv, rfl⟩ := hp.form
  obtain ⟨np, hnp⟩ : ∃ k, k = g.ps.length := ⟨_, rfl⟩
  rw [← hnp] at hr hp hgl
  obtain ⟨b, hbd⟩ : ∃ b, b = g.dead := ⟨_, rfl⟩
  rw [← hbd] at hr
  have hnpH : Hid (np = g.ps.length) := hnp
  have hrw : Hid (w.heap[Lg]? = some (.cells #[.pointer (some ⟨D, 0, none⟩), .slice Av np cv, .bool b] 71 (0, 0))) := hr
  have hpl0 : Hid (PLr w (.slice Av np cv) g.ps) := hp.read
  have hg9H : Hid (∀ p ∈ g.ps, p.length ≤ 1000000000) := hg9
  have hBw : Hid (Below w.heap.size w w) := Below.refl _ _
  clear hr hp h hnp hbd hg9
  obtain ⟨i5, hi5, hz0, hz1, hz2⟩ := info_parts inf22
  go_enter Try.func19, Try.ntmps19
  go_upto_region 1 with fail
  refine wp_region_lit ?_
  refine sl_run rfl (.pointer (some ⟨Lg, 0, none⟩)) w (by kernel_rfl) ?_
  simp only [Act.put, fl1, fl2, fl3]
  refine sl_run rfl (.bool false) w (by kernel_rfl) ?_
  simp only [Act.put, fl1, fl2, fl3]
  refine wpList_nil ?_
  go_upto_region 3 with fail
  refine wp_region_lit ?_
  refine sl_run rfl (.pointer (some ⟨Lg, 0, none⟩)) w (by kernel_rfl) ?_
  simp only [Act.put, fl1, fl2, fl3]
  refine sl_run rfl (.pointer (some ⟨Lg, 0, none⟩)) w (by kernel_rfl) ?_
  simp only [Act.put, fl1, fl2, fl3]
  refine sl_run rfl (.pointer (some ⟨Lg, 1, none⟩)) w (by kernel_rfl) ?_
  simp only [Act.put, fl1, fl2, fl3]
  refine sl_run rfl (.slice Av np cv) w (exec_load_cell 30 w _ rfl ⟨Lg, 1, none⟩ (by kernel_rfl) _ (by rw [cell_of_row _ _ _ _ _ _ hrw.out]; rfl) (fun _ => by kernel_rfl)) ?_
  simp only [Act.put, fl1, fl2, fl3]
  refine sl_run rfl (.int .i64 (np : Int)) w (by kernel_rfl) ?_
  simp only [Act.put, fl1, fl2, fl3]
  refine sl_run rfl (.slice (some ⟨w.heap.size, 0, none⟩) 0 np) (w.alloc (.cells (madeCells (Value.slice none 0 0).cells (np * 1)) 22)) ?hmk ?_
  case hmk =>
    refine (exec_make (P := Try.prog) 30 _ _ rfl 22 i5 (.slice none 0 0) Try.underlying30 hi5 hz0 np (by kernel_rfl) (by kernel_rfl) (by rw [hz2]; omega) (by unfold maxLen; omega)).trans ?_
    rw [hz1]
  simp only [Act.put, fl1, fl2, fl3]
  have hp9 := PLo.made w np hgl
  generalize hX : (w.alloc (.cells (madeCells (Value.slice none 0 0).cells (np * 1)) 22)) = w1 at hp9
  have hb : Below w.heap.size w w1 := by rw [← hX]; exact (Below.refl _ _).alloc (Nat.le_refl _) _
  clear hX
  obtain ⟨E, hE⟩ : ∃ E, E = w.heap.size := ⟨_, rfl⟩
  have hp8 : Hid (PLo w1 w.heap.size (.slice (some ⟨E, 0, none⟩) 0 np) []) := by rw [hE]; exact hp9.mono hBw.out.size
  rw [← hE]
  clear hE hp9
  have hBw1 : Hid (Below w.heap.size w w1) := (hBw.out).trans ((hb).mono (hBw.out).size)
  have hrw1 : Hid (w1.heap[Lg]? = some (.cells #[.pointer (some ⟨D, 0, none⟩), .slice Av np cv, .bool b] 71 (0, 0))) := heap_kept (hrw.out) hb
  clear hBw hrw
  clear hb
  refine sl_run rfl (.slice (some ⟨E, 0, none⟩) 0 np) w1 (by kernel_rfl) ?_
  simp only [Act.put, fl1, fl2, fl3]
  refine wpList_nil ?_
  go_upto_region 4 with fail
  refine wp_region_lit ?_
  refine sl_run rfl (.pointer (some ⟨Lg, 0, none⟩)) w1 (by kernel_rfl) ?_
  simp only [Act.put, fl1, fl2, fl3]
  refine sl_run rfl (.pointer (some ⟨Lg, 0, none⟩)) w1 (by kernel_rfl) ?_
  simp only [Act.put, fl1, fl2, fl3]
  refine sl_run rfl (.pointer (some ⟨Lg, 1, none⟩)) w1 (by kernel_rfl) ?_
  simp only [Act.put, fl1, fl2, fl3]
  refine sl_run rfl (.slice Av np cv) w1 (exec_load_cell 30 w1 _ rfl ⟨Lg, 1, none⟩ (by kernel_rfl) _ (by rw [cell_of_row _ _ _ _ _ _ hrw1.out]; rfl) (fun _ => by kernel_rfl)) ?_
  simp only [Act.put, fl1, fl2, fl3]
  refine sl_run rfl (.int .i64 (np : Int)) w1 (by kernel_rfl) ?_
  simp only [Act.put, fl1, fl2, fl3]
  refine sl_run rfl (.int .i64 0) w1 (by kernel_rfl) ?_
  simp only [Act.put, fl1, fl2, fl3]
  refine wpList_nil ?_
  clear hi5 hz0 hz1 hz2
  go_wp2_with fail
  go_loopw [3, 19] (fun p3 p wr => ∃ (j : Nat) (Ao : Option Addr) (no co : Nat), j ≤ np ∧ p = .int .i64 (j : Int) ∧ p3 = .slice Ao no co ∧ Hid (PLo wr w.heap.size (.slice Ao no co) (g.ps.take j)) ∧ Hid (Below w.heap.size w wr)) (fun _ p _ => np - (intOf p).toNat)
  case atStart => exact ⟨0, some ⟨E, 0, none⟩, 0, np, by omega, rfl, rfl, hp8, hBw1⟩
  case round =>
    clear hBw1 hrw1 hp8
    obtain ⟨j, Ao, no, co, hj, rfl, rfl, hpr, hBr⟩ := hrel
    obtain ⟨wo, rfl⟩ : ∃ v : World, v = wr := ⟨_, rfl⟩
    have hpwo : Hid (PLo wo w.heap.size (.slice Ao no co) (g.ps.take j)) := hpr.out
    have hBwo : Hid (Below w.heap.size w wo) := hBr.out
    clear hpr hBr
    by_cases h1 : j < np
    case neg =>
      have hI : ¬ (j : Int) < (np : Int) := by omega
      have hE9 : Hid (PLo wo w.heap.size (.slice Ao no co) g.ps) := by
        have h8 := hpwo.out
        rw [List.take_of_length_le (by rw [← hnpH.out]; omega)] at h8
        exact h8
      have hF := hBwo
      clear hpwo hBwo hnpH hpl0 hg9H
      go_wp2_with fail
      go_ret
      exact ⟨_, rfl, hE9.out, hF.out⟩
    case pos =>
      have hI : (j : Int) < (np : Int) := by omega
      obtain ⟨gg, oo, x1, rfl, hnc, hel⟩ := hpl0.out.elem j (by rw [← hnpH.out]; exact h1)
      obtain ⟨x, hx⟩ : ∃ x, x = g.ps.getD j default := ⟨_, rfl⟩
      have hx9 : x.length ≤ 1000000000 := by
        rw [hx, List.getD_eq_getElem?_getD, List.getElem?_eq_getElem (by rw [← hnpH.out]; exact h1)]
        exact hg9H.out _ (List.getElem_mem _)
      have htk : Hid (g.ps.take (j + 1) = g.ps.take j ++ [x]) := by
        show _ = _
        rw [List.take_succ_eq_append_getElem (by rw [← hnpH.out]; exact h1), hx, List.getD_eq_getElem?_getD, List.getElem?_eq_getElem (by rw [← hnpH.out]; exact h1)]; rfl
      rw [← hx] at hel
      clear hx
      obtain ⟨hc0, hx0⟩ := hel.out wo hBwo.out
      obtain ⟨A1, c1, rfl⟩ := hx0.form
      obtain ⟨n1, hn1⟩ : ∃ k, k = x.length := ⟨_, rfl⟩
      rw [← hn1] at hc0 hx0
      have hn1H : Hid (n1 = x.length) := hn1
      have hc0H : Hid (wo.cell? ⟨gg, oo + j * 1, none⟩ = some (.slice A1 n1 c1)) := hc0
      have hx0H : Hid (Rw 1 encB wo (.slice A1 n1 c1) x) := hx0
      clear hel hc0 hx0 hn1
      go_upto_region 5 with fail
      refine wp_region_lit ?_
      refine sl_run rfl (.bool true) wo (exec_lss _ _ _ rfl (j : Int) (np : Int) (by kernel_rfl) (by kernel_rfl) true (decide_eq_true hI)) ?_
      simp only [Act.put, fl1, fl2, fl3]
      refine wpList_nil ?_
      go_upto_region 6 with fail
      refine wp_region_lit ?_
      refine sl_run rfl (.pointer (some ⟨gg, oo + j * 1, none⟩)) wo (exec_index un30s sz30s _ _ rfl gg oo np cv j (by kernel_rfl) (by kernel_rfl) h1 wo) ?_
      simp only [Act.put, fl1, fl2, fl3]
      refine sl_run rfl (.slice A1 n1 c1) wo (exec_load_cell 22 wo _ rfl ⟨gg, oo + j * 1, none⟩ (by kernel_rfl) _ hc0H.out (fun _ => by kernel_rfl)) ?_
      simp only [Act.put, fl1, fl2, fl3]
      refine sl_run rfl (.slice A1 n1 c1) wo (by kernel_rfl) ?_
      simp only [Act.put, fl1, fl2, fl3]
      refine wpList_nil ?_
      go_upto_region 7 with fail
      refine wp_region_lit ?_
      refine sl_run rfl (.slice Ao no co) wo (by kernel_rfl) ?_
      simp only [Act.put, fl1, fl2, fl3]
      refine sl_run rfl (.slice A1 n1 c1) wo (by kernel_rfl) ?_
      simp only [Act.put, fl1, fl2, fl3]
      refine sg_call (by kernel_rfl) 31 #[.slice A1 n1 c1] (by kernel_rfl) (R := fun u w' => TB w' u x ∧ Below wo.heap.size wo w') ((clone_calls x A1 n1 c1 wo hn1H.out (by have := hn1H.out; omega) hx0H.out).mono fun e w' h => by
        obtain ⟨u, h1, h2, h3⟩ := h
        rw [flat_vals] at h2
        exact ⟨u, h1, TB.own h2, h3⟩) ?_
      rintro k9 v1 ⟨hk0, hb⟩
      simp only [Act.put, fl1, fl2, fl3]
      have hBv1 : Hid (Below w.heap.size w v1) := (hBwo.out).trans ((hb).mono (hBwo.out).size)
      have hpv1 : Hid (PLo v1 w.heap.size (.slice Ao no co) (g.ps.take j)) := (hpwo.out).below hb
      clear hBwo hpwo
      have hkv1 : Hid (TB v1 k9 x) := hk0
      clear hk0 hb hx0H hc0H
      refine sg_call (by kernel_rfl) 26 #[k9] (by kernel_rfl) (R := fun u w' => TB w' u x ∧ Below v1.heap.size v1 w') ((clipT_calls x k9 v1 hx9 hkv1.out).mono fun e w' h => by
        obtain ⟨u, h1, h2, h3⟩ := h
        exact ⟨u, h1, h2, h3⟩) ?_
      rintro k8 v2 ⟨hk0, hb⟩
      simp only [Act.put, fl1, fl2, fl3]
      clear hkv1
      have hBv2 : Hid (Below w.heap.size w v2) := (hBv1.out).trans ((hb).mono (hBv1.out).size)
      have hpv2 : Hid (PLo v2 w.heap.size (.slice Ao no co) (g.ps.take j)) := (hpv1.out).below hb
      clear hBv1 hpv1
      obtain ⟨A9, c9, rfl⟩ := hk0.1.form
      obtain ⟨n9, hn9e⟩ : ∃ k, k = x.length := ⟨_, rfl⟩
      rw [← hn9e] at hk0 ⊢
      clear hn9e
      have hkv2 : Hid (TB v2 (.slice A9 n9 c9) x) := hk0
      clear hk0 hb
      refine sl_run rfl (.slice (some ⟨v2.heap.size, 0, none⟩) 1 1) (v2.alloc (.cells #[.slice A9 n9 c9] 22)) (by kernel_rfl) ?_
      simp only [Act.put, fl1, fl2, fl3]
      generalize hX : v2.alloc (.cells #[.slice A9 n9 c9] 22) = v3
      have hb : Below v2.heap.size v2 v3 := by rw [← hX]; exact (Below.refl _ _).alloc (Nat.le_refl _) _
      obtain ⟨E2, hEe⟩ : ∃ E, E = v2.heap.size := ⟨_, rfl⟩
      have he9 : v3.heap[E2]? = some (.cells #[.slice A9 n9 c9] 22 (0, 0)) := by rw [← hX, hEe]; exact heap_alloc_new _ _
      rw [← hEe]
      clear hX hEe
      have hBv3 : Hid (Below w.heap.size w v3) := (hBv2.out).trans ((hb).mono (hBv2.out).size)
      have hpv3 : Hid (PLo v3 w.heap.size (.slice Ao no co) (g.ps.take j)) := (hpv2.out).below hb
      have hkv3 : Hid (TB v3 (.slice A9 n9 c9) x) := (hkv2.out).below hb
      clear hBv2 hpv2 hkv2
      have hEE : Hid (v3.heap[E2]? = some (.cells #[.slice A9 n9 c9] 22 (0, 0))) := he9
      clear he9 hb
      obtain ⟨vz, v4, hea, hPz, hgz, hob⟩ := exec_appP1 (w := v3) (.tmp 23) (.tmp 27) w.heap.size (.slice Ao no co) (g.ps.take j) x hpv3.out E2 (.slice A9 n9 c9) A9 n9 c9 rfl hEE.out hkv3.out (by rw [List.length_take]; omega) hBv3.out.size
      clear hob
      obtain ⟨Az, cz, rfl⟩ := hPz.form
      obtain ⟨nz, hnz⟩ : ∃ k, k = (g.ps.take j ++ [x]).length := ⟨_, rfl⟩
      rw [← hnz] at hPz hea
      have hBv4 : Hid (Below w.heap.size w v4) := hBv3.out.grown hgz hBv3.out.size (fun q hq => (hpv3.out.lt q hq).1)
      have hpz : Hid (PLo v4 w.heap.size (.slice Az nz cz) (g.ps.take (j + 1))) := by rw [htk.out]; exact hPz
      refine sl_run rfl (.slice Az nz cz) v4 (hea rfl (by kernel_rfl) (by kernel_rfl)) ?_
      clear hea hgz hPz hEE hkv3 hBv3 hpv3 hnz htk
      simp only [Act.put, fl1, fl2, fl3]
      refine sl_run rfl (.slice Az nz cz) v4 (by kernel_rfl) ?_
      simp only [Act.put, fl1, fl2, fl3]
      refine wpList_nil ?_
      go_upto_region 8 with fail
      refine wp_region_lit ?_
      refine sl_run rfl (.int .i64 ((j : Int) + 1)) v4 (exec_add2 _ _ rfl (j : Int) 1 (by kernel_rfl) (by kernel_rfl) (by omega) (by omega) _) ?_
      simp only [Act.put, fl1, fl2, fl3]
      refine sl_run rfl (.int .i64 ((j : Int) + 1)) v4 (by kernel_rfl) ?_
      simp only [Act.put, fl1, fl2, fl3]
      refine wpList_nil ?_
      go_wp2_with fail
      go_roundw
      case rel => exact ⟨j + 1, Az, nz, cz, by omega, by go_num, rfl, hpz, hBv4⟩
      case measure => simp [intOf]; omega
end Go.Proofs.Ytdkaaieenbmihaa
namespace Go.Proofs.Ytdkaaieenbmihaa
open Go.RowKit
open Sha (vals Bytes Lies bytesC sumB)
open Go.Proofs.Ytdkaaieenbmihaa.Pure (nameB)
theorem name_L : nameB nLog = true := by decide +kernel
theorem name_N : nameB nNext = true := by decide +kernel
theorem name_S : nameB nSnap = true := by decide +kernel
theorem ne_LN : nLog ≠ nNext := by decide +kernel
theorem ne_LS : nLog ≠ nSnap := by decide +kernel
theorem ne_NS : nNext ≠ nSnap := by decide +kernel
theorem ne_NL : nNext ≠ nLog := by decide +kernel
theorem ne_SL : nSnap ≠ nLog := by decide +kernel
theorem ne_SN : nSnap ≠ nNext := by decide +kernel
theorem recB_len (n : Nat) (p : List Nat) : (recB n p).length = p.length + 17 := by
  unfold recB
  simp only [List.length_append, numB_len, List.length_take, Sha.sumB_length, List.length_singleton]
  omega
theorem recS_ok (n : Nat) (hn : 1 ≤ n) (p : List Nat) (hp : p.length ≤ 8192) : recS (n : Int) p = (recB n p, 0) := by
  unfold recS
  rw [if_neg (by omega), if_neg (by omega), Int.toNat_natCast]
theorem oneS_nil : oneS [] = none := by unfold oneS; rw [if_pos (by simp)]
theorem oneS_rec' (n : Nat) (hn : n ≤ 1099511627776) (p : List Nat) (hp : p.length ≤ 8192) (t : List Nat) : oneS (recB n p ++ t) = some (n, p, p.length + 17) :=
  oneS_rec n (Nat.lt_of_le_of_lt hn (by decide)) p hp (Sha.sumB_length _) t
theorem scan_one (n : Nat) (h1 : 1 ≤ n) (hn : n ≤ 1099511627776) (p : List Nat) (hp : p.length ≤ 8192) : scan0 (recB n p) = (n, [p], p.length + 17) := by
  have e : oneS ((recB n p).drop 0) = some (n, p, p.length + 17) := by
    have := oneS_rec' n hn p hp []
    rw [List.append_nil] at this
    exact this
  unfold scan0
  rw [scanS_some e, if_neg (by omega), if_pos rfl]
  rw [scanS_none]
  · simp
  · rw [List.drop_of_length_le (by rw [recB_len]; omega)]; exact oneS_nil
/-- The disks of the example. -/
def fd1 : DS := ⟨[⟨nLog, recB 1 [97], 18⟩], -1, false⟩
def fd2 : DS := ⟨[⟨nLog, [], 0⟩, ⟨nSnap, recB 1 [97], 18⟩], -1, false⟩
def fd3 : DS := ⟨[⟨nLog, recB 2 [98], 18⟩, ⟨nSnap, recB 1 [97], 18⟩], -1, false⟩
theorem fx_open : openW DS.new = (DS.new, [], 0) := by
  have hr : ∀ s, DS.new.read s = ([], 4) := fun s => by simp [DS.read, DS.new, DS.get]
  have hn : ∀ s, readS DS.new s = ([], false, 0) := fun s => by unfold readS; rw [hr]; rfl
  have hs : scan0 [] = (0, [], 0) := by unfold scan0; exact scanS_none oneS_nil
  unfold openW openA openB openCut openMix openSnap mixOk
  simp [hn, hs]
theorem fx_app1 : appW DS.new ⟨[], false⟩ [97] = (fd1, ⟨[[97]], false⟩, 0) := by
  obtain ⟨r, hr⟩ : ∃ r, r = recB 1 [97] := ⟨_, rfl⟩
  have hl : r.length = 18 := by rw [hr, recB_len]; rfl
  have ht : r.take 18 = r := List.take_of_length_le (Nat.le_of_eq hl)
  have hrec : recS ((([] : List (List Nat)).length + 1 : Nat) : Int) [97] = (r, 0) := by rw [hr]; exact recS_ok 1 (by decide) [97] (by decide)
  have ha : actsS [fun d => d.app nameB nLog r, fun d => d.sync nLog] DS.new = (⟨[⟨nLog, r, 18⟩], -1, false⟩, 0) := by
    simp [actsS, DS.app, DS.sync, DS.new, DS.get, DS.putL, DS.useN, DS.used, DS.useOk, DS.one, name_L, hl, ht]
  unfold appW
  rw [if_neg (by decide), hrec]
  simp only [ne_eq, not_true_eq_false, if_false, ha, if_true]
  rw [hr]; rfl
theorem fx_chk : chkW fd1 ⟨[[97]], false⟩ = (fd2, ⟨[[97]], false⟩, 0) := by
  obtain ⟨r, hr⟩ : ∃ r, r = recB 1 [97] := ⟨_, rfl⟩
  have hl : r.length = 18 := by rw [hr, recB_len]; rfl
  have ht : r.take 18 = r := List.take_of_length_le (Nat.le_of_eq hl)
  have hrec : recS ((0 + 1 : Nat) : Int) [97] = (r, 0) := by rw [hr]; exact recS_ok 1 (by decide) [97] (by decide)
  have hck : ckB 0 [[97]] [] = some r := by
    unfold ckB
    rw [hrec, List.nil_append, if_neg (by show ¬ 1048576 < r.length; omega)]
    unfold ckB; rfl
  have ha : actsS (ckActs r) ⟨[⟨nLog, r, 18⟩], -1, false⟩ = (⟨[⟨nLog, [], 0⟩, ⟨nSnap, r, 18⟩], -1, false⟩, 0) := by
    simp [ckActs, actsS, cut0, DS.app, DS.sync, DS.ren, DS.cut, DS.get, DS.putL, DS.del, DS.useN, DS.used, DS.useOk, DS.one, name_L, name_N, name_S, hl, ht, ne_LN, ne_LS, ne_NS, ne_NL, ne_SL, ne_SN]
  unfold chkW fd1
  rw [if_neg (by decide), hck, ← hr]
  simp only [chkT, ha, if_true]
  rw [hr]; rfl
theorem fx_app2 : appW fd2 ⟨[[97]], false⟩ [98] = (fd3, ⟨[[97], [98]], false⟩, 0) := by
  obtain ⟨r, hr⟩ : ∃ r, r = recB 2 [98] := ⟨_, rfl⟩
  obtain ⟨s, hs⟩ : ∃ s, s = recB 1 [97] := ⟨_, rfl⟩
  have hl : r.length = 18 := by rw [hr, recB_len]; rfl
  have ht : r.take 18 = r := List.take_of_length_le (Nat.le_of_eq hl)
  have hrec : recS ((([[97]] : List (List Nat)).length + 1 : Nat) : Int) [98] = (r, 0) := by rw [hr]; exact recS_ok 2 (by decide) [98] (by decide)
  have ha : actsS [fun d => d.app nameB nLog r, fun d => d.sync nLog] ⟨[⟨nLog, [], 0⟩, ⟨nSnap, s, 18⟩], -1, false⟩ = (⟨[⟨nLog, r, 18⟩, ⟨nSnap, s, 18⟩], -1, false⟩, 0) := by
    simp [actsS, DS.app, DS.sync, DS.get, DS.putL, DS.useN, DS.used, DS.useOk, DS.one, name_L, hl, ht, ne_SL, ne_LS]
  unfold appW fd2
  rw [if_neg (by decide), hrec, ← hs]
  simp only [ne_eq, not_true_eq_false, if_false, ha, if_true]
  rw [hr, hs]; rfl
theorem fx_crash : fd3.crash 0 = fd3 := by
  have h1 : (recB 2 [98]).length = 18 := by rw [recB_len]; rfl
  have h2 : (recB 1 [97]).length = 18 := by rw [recB_len]; rfl
  unfold fd3
  obtain ⟨r, hr⟩ : ∃ r, r = recB 2 [98] := ⟨_, rfl⟩
  obtain ⟨s, hs⟩ : ∃ s, s = recB 1 [97] := ⟨_, rfl⟩
  rw [← hr] at h1 ⊢
  rw [← hs] at h2 ⊢
  simp [DS.crash, DS.crash1, h1, h2, List.take_of_length_le (Nat.le_of_eq h1), List.take_of_length_le (Nat.le_of_eq h2)]
theorem fx_open2 : openW fd3 = (fd3, [[97], [98]], 0) := by
  have h1 : (recB 2 [98]).length = 18 := by rw [recB_len]; rfl
  have hs1 : scan0 (recB 1 [97]) = (1, [[97]], 18) := scan_one 1 (by decide) (by decide) [97] (by decide)
  have hs2 : scan0 (recB 2 [98]) = (2, [[98]], 18) := scan_one 2 (by decide) (by decide) [98] (by decide)
  unfold fd3
  obtain ⟨r, hr⟩ : ∃ r, r = recB 2 [98] := ⟨_, rfl⟩
  obtain ⟨s, hs⟩ : ∃ s, s = recB 1 [97] := ⟨_, rfl⟩
  rw [← hr] at h1 hs2 ⊢
  rw [← hs] at hs1 ⊢
  obtain ⟨d, hd⟩ : ∃ d : DS, d = ⟨[⟨nLog, r, 18⟩, ⟨nSnap, s, 18⟩], -1, false⟩ := ⟨_, rfl⟩
  have hrN : readS d nNext = ([], false, 0) := by rw [hd]; simp [readS, DS.read, DS.get, ne_LN, ne_SN]
  have hrS : readS d nSnap = (s, true, 0) := by rw [hd]; simp [readS, DS.read, DS.get, ne_LS]
  have hrL : readS d nLog = (r, true, 0) := by rw [hd]; simp [readS, DS.read, DS.get]
  rw [← hd]
  unfold openW openA openB openCut openMix openSnap mixOk
  simp [hrN, hrS, hrL, hs1, hs2, h1]
end Go.Proofs.Ytdkaaieenbmihaa
namespace Go.Proofs.Ytdkaaieenbmihaa
open Go.RowKit
open Sha (vals Bytes Lies bytesC sumB)
open Go.Proofs.Ytdkaaieenbmihaa.Pure (nameB)
theorem OpenR.log {w w' : World} {D mb B : Nat} {T : DS × List (List Nat) × Nat} {e : Ending} (h : OpenR w D mb T e w') (h0 : T.2.2 = 0) (h1 : B ≤ D) (h2 : B ≤ mb) (h3 : B ≤ w.heap.size) :
    ∃ Lg, e = .returned (.tuple #[.pointer (some ⟨Lg, 0, none⟩), .int .i64 0]) ∧ LogI w' B D mb Lg T.1 ⟨T.2.1, false⟩ ∧ KpS (TD D mb) w w' := by
  obtain ⟨hk, _, h4⟩ := h
  obtain ⟨Lg, he, hl, hD, v, hr, hp⟩ := h4 h0
  exact ⟨Lg, he, ⟨⟨v, hr, hp.mono h3⟩, hD, h1, h2, Nat.le_trans h3 hl, Nat.le_trans h3 hk.size⟩, hk⟩
theorem recB_byt (n : Nat) (p : List Nat) (hp : ∀ x ∈ p, x < 256) : ∀ x ∈ recB n p, x < 256 := by
  intro x hx
  unfold recB at hx
  rcases List.mem_append.1 hx with h | h
  · exact numB_lt _ _ _ h
  rcases List.mem_append.1 h with h | h
  · exact rec_lt n p hp x h
  rcases List.mem_append.1 h with h | h
  · have h2 := List.mem_of_mem_take h
    obtain ⟨j, hj, rfl⟩ := List.getElem_of_mem h2
    have := Sha.sumB_lt (numB 8 n ++ p) j
    simpa [List.getD_eq_getElem?_getD, hj] using this
  · rw [List.mem_singleton.1 h]; decide
theorem DB.new : DB DS.new := fun f hf => by cases hf
theorem DB.fd3 : DB fd3 := fun f hf x hx => by
  unfold Proofs.Ytdkaaieenbmihaa.fd3 at hf
  rcases List.mem_cons.1 hf with rfl | hf
  · exact recB_byt 2 [98] (by decide) x hx
  · rw [List.mem_singleton.1 hf] at hx
    exact recB_byt 1 [97] (by decide) x hx
theorem rec_at (n x : Nat) (S : List Nat) (hS : S = (sumB (numB 8 n ++ [x])).take 4) : recB n [x] = numB 4 9 ++ ((numB 8 n ++ [x]) ++ (S ++ [197])) := by rw [hS]; rfl
theorem fx_rec : (recB 1 [120]).length = 18 ∧ (recB 1 [120]).getD 3 0 = 9 ∧ (recB 1 [120]).getD 11 0 = 1 ∧ (recB 1 [120]).getD 12 0 = 120 ∧ (recB 1 [120]).getD 17 0 = 197 := by
  obtain ⟨S, hS⟩ : ∃ S, S = (sumB (numB 8 1 ++ [120])).take 4 := ⟨_, rfl⟩
  have hl : S.length = 4 := by rw [hS, List.length_take, Sha.sumB_length]; rfl
  rw [rec_at 1 120 S hS]
  have h4 : numB 4 9 = [0, 0, 0, 9] := by decide
  have h8 : numB 8 1 = [0, 0, 0, 0, 0, 0, 0, 1] := by decide
  rw [h4, h8]
  match S, hl with
  | [a, b, c, d], _ => exact ⟨rfl, rfl, rfl, rfl, rfl⟩
set_option maxRecDepth 100000 in
set_option maxHeartbeats 8000000 in
theorem fixed_calls (w : World) : Calls Try.prog 9 #[] w fun e w' => e = .returned (.bool true) ∧ Below w.heap.size w w' := by
  have hBw : Hid (Below w.heap.size w w) := Below.refl _ _
  obtain ⟨r, hr⟩ : ∃ r, r = recB 1 [120] := ⟨_, rfl⟩
  have hrl := fx_rec
  rw [← hr] at hrl
  have hrlH : Hid (r.length = 18 ∧ r.getD 3 0 = 9 ∧ r.getD 11 0 = 1 ∧ r.getD 12 0 = 120 ∧ r.getD 17 0 = 197) := hrl
  have hrec : Hid (recS 1 [120] = (r, 0)) := by show _ = _; rw [hr]; exact recS_ok 1 (by decide) [120] (by decide)
  have hsc : Hid (scan0 r = (1, [[120]], 18)) := by show _ = _; rw [hr]; exact scan_one 1 (by decide) (by decide) [120] (by decide)
  have hrb : Hid (∀ x ∈ r, x < 256) := by rw [hr]; exact recB_byt 1 [120] (by decide)
  clear hr hrl
  go_enter Try.func9, Try.ntmps9
  go_upto_region 1 with fail
  refine wp_region_lit ?_
  refine sl_run rfl (.slice (some ⟨w.heap.size, 0, none⟩) 1 1) (w.alloc (.cells (bytesC [120]) 5)) (by kernel_rfl) ?_
  simp only [Act.put, fl1, fl2, fl3]
  refine sl_run rfl (.slice (some ⟨w.heap.size, 0, none⟩) 1 1) (w.alloc (.cells (bytesC [120]) 5 ([120].length, [120].length + 1))) (Sha.exec_conv _ rfl w [120] 1 1 (by kernel_rfl)) ?_
  simp only [Act.put, fl1, fl2, fl3]
  have he9 : Rw 1 encB _ (.slice (some ⟨w.heap.size, 0, none⟩) 1 1) [120] := rw_bytes.2 (Sha.bytes_mark w [120] 1 rfl ([120].length, [120].length + 1))
  generalize hX : w.alloc (.cells (bytesC [120]) 5 ([120].length, [120].length + 1)) = w1 at he9 ⊢
  have hb : Below w.heap.size w w1 := by rw [← hX]; exact (Below.refl _ _).alloc (Nat.le_refl _) _
  obtain ⟨Ex, hE⟩ : ∃ E, E = w.heap.size := ⟨_, rfl⟩
  rw [← hE] at he9 ⊢
  clear hX hE
  have hBw1 : Hid (Below w.heap.size w w1) := (hBw.out).trans ((hb).mono (hBw.out).size)
  clear hBw
  have hxw1 : Hid (Rw 1 encB w1 (.slice (some ⟨Ex, 0, none⟩) 1 1) [120]) := he9
  clear hb he9
  refine sg_call (by kernel_rfl) 10 #[.int .i64 1, .slice (some ⟨Ex, 0, none⟩) 1 1] (by kernel_rfl) (R := fun v w' => ∃ u, v = .tuple #[u, .int .i64 0] ∧ Rw 1 encB w' u r ∧ Below w1.heap.size w1 w') ?hlc1 ?_
  case hlc1 =>
    have h8 := Record_calls 1 (by decide) [120] (by decide) (some ⟨Ex, 0, none⟩) 1 1 rfl (by decide) w1 hxw1.out
    rw [hrec.out] at h8
    exact h8.mono fun e w' h => by
      obtain ⟨v, h1, h2, h3⟩ := h
      exact ⟨_, h1, v, rfl, h2, h3⟩
  rintro _ w2 ⟨r9, rfl, hr0, hb⟩
  simp only [Act.put, fl1, fl2, fl3]
  have hBw2 : Hid (Below w.heap.size w w2) := (hBw1.out).trans ((hb).mono (hBw1.out).size)
  have hxw2 : Hid (Rw 1 encB w2 (.slice (some ⟨Ex, 0, none⟩) 1 1) [120]) := (hxw1.out).below hb
  clear hBw1 hxw1
  obtain ⟨Ab, cb, rfl⟩ := hr0.form
  obtain ⟨nb, hn5⟩ : ∃ k, k = r.length := ⟨_, rfl⟩
  rw [← hn5] at hr0 ⊢
  have hnb : Hid (nb = r.length) := hn5
  have hbw2 : Hid (Rw 1 encB w2 (.slice Ab nb cb) r) := hr0
  clear hr0 hb hn5
  refine sl_run rfl (.tuple #[.slice Ab nb cb, .int .i64 0]) w2 (by kernel_rfl) ?_
  simp only [Act.put, fl1, fl2, fl3]
  refine sl_run rfl (.slice Ab nb cb) w2 (by kernel_rfl) ?_
  simp only [Act.put, fl1, fl2, fl3]
  refine sl_run rfl (.int .i64 0) w2 (by kernel_rfl) ?_
  simp only [Act.put, fl1, fl2, fl3]
  refine sl_run rfl (.slice Ab nb cb) w2 (by kernel_rfl) ?_
  simp only [Act.put, fl1, fl2, fl3]
  refine sl_run rfl (.int .i64 0) w2 (by kernel_rfl) ?_
  simp only [Act.put, fl1, fl2, fl3]
  refine wpList_nil ?_
  obtain ⟨gb, ob, rfl, hncb, hgb, _⟩ := hbw2.out.elem 0 (by rw [hrlH.out.1]; decide)
  clear hgb
  obtain rfl : nb = 18 := by rw [hnb.out]; exact hrlH.out.1
  go_upto_region 2 with fail
  refine wp_region_lit ?_
  refine sl_run rfl (.int .i64 0) w2 (by kernel_rfl) ?_
  simp only [Act.put, fl1, fl2, fl3]
  refine sl_run rfl (.bool false) w2 (by kernel_rfl) ?_
  simp only [Act.put, fl1, fl2, fl3]
  refine sl_run rfl (.bool false) w2 (by kernel_rfl) ?_
  simp only [Act.put, fl1, fl2, fl3]
  refine sg_run (by kernel_rfl) (.slice (some ⟨gb, ob, none⟩) 18 cb) w2 (by kernel_rfl) ?_
  simp only [Act.put, fl1, fl2, fl3]
  refine sg_run (by kernel_rfl) (.int .i64 18) w2 (by kernel_rfl) ?_
  simp only [Act.put, fl1, fl2, fl3]
  refine sg_run (by kernel_rfl) (.bool false) w2 (by kernel_rfl) ?_
  simp only [Act.put, fl1, fl2, fl3]
  refine sl_run rfl (.bool false) w2 (by kernel_rfl) ?_
  simp only [Act.put, fl1, fl2, fl3]
  refine sl_run rfl (.bool false) w2 (by kernel_rfl) ?_
  simp only [Act.put, fl1, fl2, fl3]
  refine sg_run (by kernel_rfl) (.slice (some ⟨gb, ob, none⟩) 18 cb) w2 (by kernel_rfl) ?_
  simp only [Act.put, fl1, fl2, fl3]
  refine sg_run (by kernel_rfl) (.pointer (some ⟨gb, ob + 3 * 1, none⟩)) w2 (exec_index un22 sz22 _ _ rfl gb ob 18 cb 3 (by kernel_rfl) (by kernel_rfl) (by decide) w2) ?_
  simp only [Act.put, fl1, fl2, fl3]
  refine sg_run (by kernel_rfl) (.int .u8 ((9 : Nat) : Int)) w2 (exec_load_cell 5 w2 _ rfl ⟨gb, ob + 3 * 1, none⟩ (by kernel_rfl) _ (by rw [Nat.mul_one, Rw.one hbw2.out 3 (by rw [hrlH.out.1]; decide), hrlH.out.2.1]) (fun _ => by kernel_rfl)) ?_
  simp only [Act.put, fl1, fl2, fl3]
  refine sg_run (by kernel_rfl) (.bool false) w2 (exec_ne8 _ _ _ rfl 9 9 (by kernel_rfl) (by kernel_rfl) false (by decide)) ?_
  simp only [Act.put, fl1, fl2, fl3]
  refine sl_run rfl (.bool false) w2 (by kernel_rfl) ?_
  simp only [Act.put, fl1, fl2, fl3]
  refine sl_run rfl (.bool false) w2 (by kernel_rfl) ?_
  simp only [Act.put, fl1, fl2, fl3]
  refine sg_run (by kernel_rfl) (.slice (some ⟨gb, ob, none⟩) 18 cb) w2 (by kernel_rfl) ?_
  simp only [Act.put, fl1, fl2, fl3]
  refine sg_run (by kernel_rfl) (.pointer (some ⟨gb, ob + 11 * 1, none⟩)) w2 (exec_index un22 sz22 _ _ rfl gb ob 18 cb 11 (by kernel_rfl) (by kernel_rfl) (by decide) w2) ?_
  simp only [Act.put, fl1, fl2, fl3]
  refine sg_run (by kernel_rfl) (.int .u8 ((1 : Nat) : Int)) w2 (exec_load_cell 5 w2 _ rfl ⟨gb, ob + 11 * 1, none⟩ (by kernel_rfl) _ (by rw [Nat.mul_one, Rw.one hbw2.out 11 (by rw [hrlH.out.1]; decide), hrlH.out.2.2.1]) (fun _ => by kernel_rfl)) ?_
  simp only [Act.put, fl1, fl2, fl3]
  refine sg_run (by kernel_rfl) (.bool false) w2 (exec_ne8 _ _ _ rfl 1 1 (by kernel_rfl) (by kernel_rfl) false (by decide)) ?_
  simp only [Act.put, fl1, fl2, fl3]
  refine sl_run rfl (.bool false) w2 (by kernel_rfl) ?_
  simp only [Act.put, fl1, fl2, fl3]
  refine sl_run rfl (.bool false) w2 (by kernel_rfl) ?_
  simp only [Act.put, fl1, fl2, fl3]
  refine sg_run (by kernel_rfl) (.slice (some ⟨gb, ob, none⟩) 18 cb) w2 (by kernel_rfl) ?_
  simp only [Act.put, fl1, fl2, fl3]
  refine sg_run (by kernel_rfl) (.pointer (some ⟨gb, ob + 12 * 1, none⟩)) w2 (exec_index un22 sz22 _ _ rfl gb ob 18 cb 12 (by kernel_rfl) (by kernel_rfl) (by decide) w2) ?_
  simp only [Act.put, fl1, fl2, fl3]
  refine sg_run (by kernel_rfl) (.int .u8 ((120 : Nat) : Int)) w2 (exec_load_cell 5 w2 _ rfl ⟨gb, ob + 12 * 1, none⟩ (by kernel_rfl) _ (by rw [Nat.mul_one, Rw.one hbw2.out 12 (by rw [hrlH.out.1]; decide), hrlH.out.2.2.2.1]) (fun _ => by kernel_rfl)) ?_
  simp only [Act.put, fl1, fl2, fl3]
  refine sg_run (by kernel_rfl) (.bool false) w2 (exec_ne8 _ _ _ rfl 120 120 (by kernel_rfl) (by kernel_rfl) false (by decide)) ?_
  simp only [Act.put, fl1, fl2, fl3]
  refine sl_run rfl (.bool false) w2 (by kernel_rfl) ?_
  simp only [Act.put, fl1, fl2, fl3]
  refine sl_run rfl (.bool false) w2 (by kernel_rfl) ?_
  simp only [Act.put, fl1, fl2, fl3]
  refine sg_run (by kernel_rfl) (.slice (some ⟨gb, ob, none⟩) 18 cb) w2 (by kernel_rfl) ?_
  simp only [Act.put, fl1, fl2, fl3]
  refine sg_run (by kernel_rfl) (.pointer (some ⟨gb, ob + 17 * 1, none⟩)) w2 (exec_index un22 sz22 _ _ rfl gb ob 18 cb 17 (by kernel_rfl) (by kernel_rfl) (by decide) w2) ?_
  simp only [Act.put, fl1, fl2, fl3]
  refine sg_run (by kernel_rfl) (.int .u8 ((197 : Nat) : Int)) w2 (exec_load_cell 5 w2 _ rfl ⟨gb, ob + 17 * 1, none⟩ (by kernel_rfl) _ (by rw [Nat.mul_one, Rw.one hbw2.out 17 (by rw [hrlH.out.1]; decide), hrlH.out.2.2.2.2]) (fun _ => by kernel_rfl)) ?_
  simp only [Act.put, fl1, fl2, fl3]
  refine sg_run (by kernel_rfl) (.bool false) w2 (exec_ne8 _ _ _ rfl 197 197 (by kernel_rfl) (by kernel_rfl) false (by decide)) ?_
  simp only [Act.put, fl1, fl2, fl3]
  refine sl_run rfl (.bool false) w2 (by kernel_rfl) ?_
  simp only [Act.put, fl1, fl2, fl3]
  refine wpList_nil ?_
  go_upto_region 4 with fail
  refine wp_region_lit ?_
  refine sl_run rfl (.slice (some ⟨gb, ob, none⟩) 18 cb) w2 (by kernel_rfl) ?_
  simp only [Act.put, fl1, fl2, fl3]
  refine sg_call (by kernel_rfl) 12 #[.slice (some ⟨gb, ob, none⟩) 18 cb] (by kernel_rfl) (R := fun v w' => ∃ u, v = .tuple #[.int .i64 1, u, .int .i64 18] ∧ PLo w' w2.heap.size u [[120]] ∧ Below w2.heap.size w2 w') ?hlc2 ?_
  case hlc2 =>
    have h8 := Scan_calls r hrb.out (some ⟨gb, ob, none⟩) 18 cb hrlH.out.1.symm (by decide) w2 hbw2.out
    rw [hsc.out] at h8
    exact h8.mono fun e w' h => by
      obtain ⟨v, h1, h2, h3⟩ := h
      exact ⟨_, h1, v, rfl, h2, h3⟩
  rintro _ w3 ⟨r9, rfl, hr0, hb⟩
  simp only [Act.put, fl1, fl2, fl3]
  have hr1 := hr0.mono hBw2.out.size
  have hBw3 : Hid (Below w.heap.size w w3) := (hBw2.out).trans ((hb).mono (hBw2.out).size)
  have hxw3 : Hid (Rw 1 encB w3 (.slice (some ⟨Ex, 0, none⟩) 1 1) [120]) := (hxw2.out).below hb
  have hbw3 : Hid (Rw 1 encB w3 (.slice (some ⟨gb, ob, none⟩) 18 cb) r) := (hbw2.out).below hb
  clear hBw2 hxw2 hbw2
  obtain ⟨Al, cl, rfl⟩ := hr1.form
  obtain ⟨nl, hn5⟩ : ∃ k, k = ([[120]]).length := ⟨_, rfl⟩
  rw [← hn5] at hr1 ⊢
  have hnl : Hid (nl = ([[120]]).length) := hn5
  have hlw3 : Hid (PLo w3 w.heap.size (.slice Al nl cl) ([[120]])) := hr1
  clear hr0 hr1 hb hn5
  refine sl_run rfl (.tuple #[.int .i64 1, .slice Al nl cl, .int .i64 18]) w3 (by kernel_rfl) ?_
  simp only [Act.put, fl1, fl2, fl3]
  refine sl_run rfl (.int .i64 1) w3 (by kernel_rfl) ?_
  simp only [Act.put, fl1, fl2, fl3]
  refine sl_run rfl (.slice Al nl cl) w3 (by kernel_rfl) ?_
  simp only [Act.put, fl1, fl2, fl3]
  refine sl_run rfl (.int .i64 18) w3 (by kernel_rfl) ?_
  simp only [Act.put, fl1, fl2, fl3]
  refine sl_run rfl (.int .i64 1) w3 (by kernel_rfl) ?_
  simp only [Act.put, fl1, fl2, fl3]
  refine sl_run rfl (.slice Al nl cl) w3 (by kernel_rfl) ?_
  simp only [Act.put, fl1, fl2, fl3]
  refine sl_run rfl (.int .i64 18) w3 (by kernel_rfl) ?_
  simp only [Act.put, fl1, fl2, fl3]
  refine wpList_nil ?_
  go_upto_region 5 with fail
  refine wp_region_lit ?_
  refine sg_call (by kernel_rfl) 15 #[] (by kernel_rfl) (R := fun v w' => ∃ D mb, v = .pointer (some ⟨D, 0, none⟩) ∧ DiskI w' D mb DS.new ∧ Below w3.heap.size w3 w' ∧ w3.heap.size ≤ D ∧ w3.heap.size ≤ mb) ?hlc3 ?_
  case hlc3 =>
    exact (New_calls w3).mono fun e w' h => by
      obtain ⟨D, mb, h1, h2⟩ := h
      exact ⟨_, h1, D, mb, rfl, h2⟩
  rintro _ w4 ⟨D, mb, rfl, hD0, hb, hDl, hml⟩
  simp only [Act.put, fl1, fl2, fl3]
  have hlo : Hid (w.heap.size ≤ D ∧ w.heap.size ≤ mb) := And.intro (Nat.le_trans hBw3.out.size hDl) (Nat.le_trans hBw3.out.size hml)
  have hBw4 : Hid (Below w.heap.size w w4) := (hBw3.out).trans ((hb).mono (hBw3.out).size)
  have hxw4 : Hid (Rw 1 encB w4 (.slice (some ⟨Ex, 0, none⟩) 1 1) [120]) := (hxw3.out).below hb
  have hbw4 : Hid (Rw 1 encB w4 (.slice (some ⟨gb, ob, none⟩) 18 cb) r) := (hbw3.out).below hb
  have hlw4 : Hid (PLo w4 w.heap.size (.slice Al nl cl) ([[120]])) := (hlw3.out).below hb
  clear hBw3 hxw3 hbw3 hlw3
  have hDw4 : Hid (DiskI w4 D mb DS.new) := hD0
  clear hD0 hb hDl hml
  refine sl_run rfl (.pointer (some ⟨D, 0, none⟩)) w4 (by kernel_rfl) ?_
  simp only [Act.put, fl1, fl2, fl3]
  refine wpList_nil ?_
  go_upto_region 6 with fail
  refine wp_region_lit ?_
  refine sl_run rfl (.pointer (some ⟨D, 0, none⟩)) w4 (by kernel_rfl) ?_
  simp only [Act.put, fl1, fl2, fl3]
  refine sg_call (by kernel_rfl) 16 #[.pointer (some ⟨D, 0, none⟩)] (by kernel_rfl) (R := fun v w' => ∃ Lg, v = .tuple #[.pointer (some ⟨Lg, 0, none⟩), .int .i64 0] ∧ LogI w' w.heap.size D mb Lg (DS.new) ⟨[], false⟩ ∧ KpS (TD D mb) w4 w') ?hlc4 ?_
  case hlc4 =>
    have h8 := Open_calls hDw4.out DB.new
    rw [fx_open] at h8
    exact h8.mono fun e w' h => by
      obtain ⟨Lg, h1, h2, h3⟩ := h.log rfl (B := w.heap.size) hlo.out.1 hlo.out.2 hBw4.out.size
      exact ⟨_, h1, Lg, rfl, h2, h3⟩
  rintro _ w5 ⟨Lg, rfl, hL0, hk⟩
  simp only [Act.put, fl1, fl2, fl3]
  have hLw5 : Hid (LogI w5 w.heap.size D mb Lg (DS.new) ⟨[], false⟩) := hL0
  have hBw5 : Hid (Below w.heap.size w w5) := hBw4.out.trans (hk.bel (fun k hs => by rcases hs with rfl | rfl; exact hlo.out.1; exact hlo.out.2) hBw4.out.size)
  have hxw5 : Hid (Rw 1 encB w5 (.slice (some ⟨Ex, 0, none⟩) 1 1) [120]) := rw_kpS hDw4.out hxw4.out hk
  have hbw5 : Hid (Rw 1 encB w5 (.slice (some ⟨gb, ob, none⟩) 18 cb) r) := rw_kpS hDw4.out hbw4.out hk
  have hlw5 : Hid (PLo w5 w.heap.size (.slice Al nl cl) ([[120]])) := hlw4.out.kpS hDw4.out hk
  clear hL0 hk hBw4 hxw4 hbw4 hlw4 hDw4
  refine sl_run rfl (.tuple #[.pointer (some ⟨Lg, 0, none⟩), .int .i64 0]) w5 (by kernel_rfl) ?_
  simp only [Act.put, fl1, fl2, fl3]
  refine sl_run rfl (.pointer (some ⟨Lg, 0, none⟩)) w5 (by kernel_rfl) ?_
  simp only [Act.put, fl1, fl2, fl3]
  refine sl_run rfl (.int .i64 0) w5 (by kernel_rfl) ?_
  simp only [Act.put, fl1, fl2, fl3]
  refine sl_run rfl (.pointer (some ⟨Lg, 0, none⟩)) w5 (by kernel_rfl) ?_
  simp only [Act.put, fl1, fl2, fl3]
  refine sl_run rfl (.int .i64 0) w5 (by kernel_rfl) ?_
  simp only [Act.put, fl1, fl2, fl3]
  refine wpList_nil ?_
  obtain rfl : nl = 1 := hnl.out
  clear hxw5 hbw5 hlw5
  go_upto_region 7 with fail
  refine wp_region_lit ?_
  refine sl_run rfl (.int .i64 1) w5 (by kernel_rfl) ?_
  simp only [Act.put, fl1, fl2, fl3]
  refine sl_run rfl (.bool false) w5 (by kernel_rfl) ?_
  simp only [Act.put, fl1, fl2, fl3]
  refine sl_run rfl (.bool false) w5 (by kernel_rfl) ?_
  simp only [Act.put, fl1, fl2, fl3]
  refine sg_run (by kernel_rfl) (.slice Al 1 cl) w5 (by kernel_rfl) ?_
  simp only [Act.put, fl1, fl2, fl3]
  refine sg_run (by kernel_rfl) (.int .i64 1) w5 (by kernel_rfl) ?_
  simp only [Act.put, fl1, fl2, fl3]
  refine sg_run (by kernel_rfl) (.bool false) w5 (by kernel_rfl) ?_
  simp only [Act.put, fl1, fl2, fl3]
  refine sl_run rfl (.bool false) w5 (by kernel_rfl) ?_
  simp only [Act.put, fl1, fl2, fl3]
  refine sl_run rfl (.bool false) w5 (by kernel_rfl) ?_
  simp only [Act.put, fl1, fl2, fl3]
  refine sg_run (by kernel_rfl) (.int .i64 18) w5 (by kernel_rfl) ?_
  simp only [Act.put, fl1, fl2, fl3]
  refine sg_run (by kernel_rfl) (.bool false) w5 (by kernel_rfl) ?_
  simp only [Act.put, fl1, fl2, fl3]
  refine sl_run rfl (.bool false) w5 (by kernel_rfl) ?_
  simp only [Act.put, fl1, fl2, fl3]
  refine sl_run rfl (.bool false) w5 (by kernel_rfl) ?_
  simp only [Act.put, fl1, fl2, fl3]
  refine sg_run (by kernel_rfl) (.int .i64 0) w5 (by kernel_rfl) ?_
  simp only [Act.put, fl1, fl2, fl3]
  refine sg_run (by kernel_rfl) (.bool false) w5 (by kernel_rfl) ?_
  simp only [Act.put, fl1, fl2, fl3]
  refine sl_run rfl (.bool false) w5 (by kernel_rfl) ?_
  simp only [Act.put, fl1, fl2, fl3]
  refine sl_run rfl (.bool false) w5 (by kernel_rfl) ?_
  simp only [Act.put, fl1, fl2, fl3]
  refine sg_run (by kernel_rfl) (.pointer (some ⟨Lg, 0, none⟩)) w5 (by kernel_rfl) ?_
  simp only [Act.put, fl1, fl2, fl3]
  refine sg_run (by kernel_rfl) (.bool false) w5 (by kernel_rfl) ?_
  simp only [Act.put, fl1, fl2, fl3]
  refine sl_run rfl (.bool false) w5 (by kernel_rfl) ?_
  simp only [Act.put, fl1, fl2, fl3]
  refine sl_run rfl (.bool false) w5 (by kernel_rfl) ?_
  simp only [Act.put, fl1, fl2, fl3]
  refine sg_run (by kernel_rfl) (.pointer (some ⟨Lg, 0, none⟩)) w5 (by kernel_rfl) ?_
  simp only [Act.put, fl1, fl2, fl3]
  refine sg_run (by kernel_rfl) (.slice (some ⟨w5.heap.size, 0, none⟩) 1 1) (w5.alloc (.cells (bytesC [97]) 5)) (by kernel_rfl) ?_
  simp only [Act.put, fl1, fl2, fl3]
  refine sg_run (by kernel_rfl) (.slice (some ⟨w5.heap.size, 0, none⟩) 1 1) (w5.alloc (.cells (bytesC [97]) 5 ([97].length, [97].length + 1))) (Sha.exec_conv _ rfl w5 [97] 1 1 (by kernel_rfl)) ?_
  simp only [Act.put, fl1, fl2, fl3]
  have he9 : Rw 1 encB _ (.slice (some ⟨w5.heap.size, 0, none⟩) 1 1) [97] := rw_bytes.2 (Sha.bytes_mark w5 [97] 1 rfl ([97].length, [97].length + 1))
  generalize hX : w5.alloc (.cells (bytesC [97]) 5 ([97].length, [97].length + 1)) = w6 at he9 ⊢
  have hb : Below w5.heap.size w5 w6 := by rw [← hX]; exact (Below.refl _ _).alloc (Nat.le_refl _) _
  obtain ⟨Ea, hE⟩ : ∃ E, E = w5.heap.size := ⟨_, rfl⟩
  rw [← hE] at he9 ⊢
  clear hX hE
  have hBw6 : Hid (Below w.heap.size w w6) := (hBw5.out).trans ((hb).mono (hBw5.out).size)
  have hLw6 : Hid (LogI w6 w.heap.size D mb Lg (DS.new) (⟨[], false⟩)) := (hLw5.out).below hb
  clear hBw5 hLw5
  have haw6 : Hid (Rw 1 encB w6 (.slice (some ⟨Ea, 0, none⟩) 1 1) [97]) := he9
  clear hb he9
  refine sg_call (by kernel_rfl) 17 #[.pointer (some ⟨Lg, 0, none⟩), .slice (some ⟨Ea, 0, none⟩) 1 1] (by kernel_rfl) (R := fun v w' => v = .int .i64 0 ∧ LogI w' w.heap.size D mb Lg (fd1) (⟨[[97]], false⟩) ∧ Below w.heap.size w6 w') ?hlc5 ?_
  case hlc5 =>
    have h8 := LAppend_calls hLw6.out (by decide) [97] (by decide) (some ⟨Ea, 0, none⟩) 1 1 rfl (by decide) haw6.out
    rw [fx_app1] at h8
    exact h8.mono fun e w' h => ⟨_, h.1, rfl, h.2⟩
  rintro _ w7 ⟨rfl, hL0, hb⟩
  simp only [Act.put, fl1, fl2, fl3]
  have hLw7 : Hid (LogI w7 w.heap.size D mb Lg (fd1) (⟨[[97]], false⟩)) := hL0
  have hBw7 : Hid (Below w.heap.size w w7) := hBw6.out.trans hb
  clear hL0 hb hBw6 hLw6 haw6
  refine sg_run (by kernel_rfl) (.bool false) w7 (by kernel_rfl) ?_
  simp only [Act.put, fl1, fl2, fl3]
  refine sl_run rfl (.bool false) w7 (by kernel_rfl) ?_
  simp only [Act.put, fl1, fl2, fl3]
  refine sl_run rfl (.bool false) w7 (by kernel_rfl) ?_
  simp only [Act.put, fl1, fl2, fl3]
  refine sg_run (by kernel_rfl) (.pointer (some ⟨Lg, 0, none⟩)) w7 (by kernel_rfl) ?_
  simp only [Act.put, fl1, fl2, fl3]
  refine sg_call (by kernel_rfl) 18 #[.pointer (some ⟨Lg, 0, none⟩)] (by kernel_rfl) (R := fun v w' => v = .int .i64 0 ∧ LogI w' w.heap.size D mb Lg (fd2) (⟨[[97]], false⟩) ∧ Below w.heap.size w7 w') ?hlc6 ?_
  case hlc6 =>
    have h8 := LCheck_calls hLw7.out (by decide) (by unfold Byt; decide) (by decide)
    rw [fx_chk] at h8
    exact h8.mono fun e w' h => ⟨_, h.1, rfl, h.2⟩
  rintro _ w8 ⟨rfl, hL0, hb⟩
  simp only [Act.put, fl1, fl2, fl3]
  have hLw8 : Hid (LogI w8 w.heap.size D mb Lg (fd2) (⟨[[97]], false⟩)) := hL0
  have hBw8 : Hid (Below w.heap.size w w8) := hBw7.out.trans hb
  clear hL0 hb hBw7 hLw7
  refine sg_run (by kernel_rfl) (.bool false) w8 (by kernel_rfl) ?_
  simp only [Act.put, fl1, fl2, fl3]
  refine sl_run rfl (.bool false) w8 (by kernel_rfl) ?_
  simp only [Act.put, fl1, fl2, fl3]
  refine sl_run rfl (.bool false) w8 (by kernel_rfl) ?_
  simp only [Act.put, fl1, fl2, fl3]
  refine sg_run (by kernel_rfl) (.pointer (some ⟨Lg, 0, none⟩)) w8 (by kernel_rfl) ?_
  simp only [Act.put, fl1, fl2, fl3]
  refine sg_run (by kernel_rfl) (.slice (some ⟨w8.heap.size, 0, none⟩) 1 1) (w8.alloc (.cells (bytesC [98]) 5)) (by kernel_rfl) ?_
  simp only [Act.put, fl1, fl2, fl3]
  refine sg_run (by kernel_rfl) (.slice (some ⟨w8.heap.size, 0, none⟩) 1 1) (w8.alloc (.cells (bytesC [98]) 5 ([98].length, [98].length + 1))) (Sha.exec_conv _ rfl w8 [98] 1 1 (by kernel_rfl)) ?_
  simp only [Act.put, fl1, fl2, fl3]
  have he9 : Rw 1 encB _ (.slice (some ⟨w8.heap.size, 0, none⟩) 1 1) [98] := rw_bytes.2 (Sha.bytes_mark w8 [98] 1 rfl ([98].length, [98].length + 1))
  generalize hX : w8.alloc (.cells (bytesC [98]) 5 ([98].length, [98].length + 1)) = w9 at he9 ⊢
  have hb : Below w8.heap.size w8 w9 := by rw [← hX]; exact (Below.refl _ _).alloc (Nat.le_refl _) _
  obtain ⟨Eb, hE⟩ : ∃ E, E = w8.heap.size := ⟨_, rfl⟩
  rw [← hE] at he9 ⊢
  clear hX hE
  have hBw9 : Hid (Below w.heap.size w w9) := (hBw8.out).trans ((hb).mono (hBw8.out).size)
  have hLw9 : Hid (LogI w9 w.heap.size D mb Lg (fd2) (⟨[[97]], false⟩)) := (hLw8.out).below hb
  clear hBw8 hLw8
  have hbw9 : Hid (Rw 1 encB w9 (.slice (some ⟨Eb, 0, none⟩) 1 1) [98]) := he9
  clear hb he9
  refine sg_call (by kernel_rfl) 17 #[.pointer (some ⟨Lg, 0, none⟩), .slice (some ⟨Eb, 0, none⟩) 1 1] (by kernel_rfl) (R := fun v w' => v = .int .i64 0 ∧ LogI w' w.heap.size D mb Lg (fd3) (⟨[[97], [98]], false⟩) ∧ Below w.heap.size w9 w') ?hlc7 ?_
  case hlc7 =>
    have h8 := LAppend_calls hLw9.out (by decide) [98] (by decide) (some ⟨Eb, 0, none⟩) 1 1 rfl (by decide) hbw9.out
    rw [fx_app2] at h8
    exact h8.mono fun e w' h => ⟨_, h.1, rfl, h.2⟩
  rintro _ w10 ⟨rfl, hL0, hb⟩
  simp only [Act.put, fl1, fl2, fl3]
  have hLw10 : Hid (LogI w10 w.heap.size D mb Lg (fd3) (⟨[[97], [98]], false⟩)) := hL0
  have hBw10 : Hid (Below w.heap.size w w10) := hBw9.out.trans hb
  clear hL0 hb hBw9 hLw9 hbw9
  refine sg_run (by kernel_rfl) (.bool false) w10 (by kernel_rfl) ?_
  simp only [Act.put, fl1, fl2, fl3]
  refine sl_run rfl (.bool false) w10 (by kernel_rfl) ?_
  simp only [Act.put, fl1, fl2, fl3]
  refine wpList_nil ?_
  go_upto_region 9 with fail
  refine wp_region_lit ?_
  refine sl_run rfl (.pointer (some ⟨D, 0, none⟩)) w10 (by kernel_rfl) ?_
  simp only [Act.put, fl1, fl2, fl3]
  refine sg_call (by kernel_rfl) 21 #[.pointer (some ⟨D, 0, none⟩), .int .i64 0] (by kernel_rfl) (R := fun v w' => v = .tuple #[] ∧ DiskI w' D mb (fd3) ∧ KpS (TD D mb) w10 w') ?hlc8 ?_
  case hlc8 =>
    have h8 := Crash_calls hLw10.out.disk 0 (by decide)
    rw [fx_crash] at h8
    exact h8.mono fun e w' h => ⟨_, h.1, rfl, h.2⟩
  rintro _ w11 ⟨rfl, hD0, hk⟩
  simp only [Act.put, fl1, fl2, fl3]
  have hDw11 : Hid (DiskI w11 D mb (fd3)) := hD0
  have hBw11 : Hid (Below w.heap.size w w11) := hBw10.out.trans (hk.bel (fun k hs => by rcases hs with rfl | rfl; exact hlo.out.1; exact hlo.out.2) hBw10.out.size)
  clear hD0 hk hBw10 hLw10
  refine wpList_nil ?_
  go_upto_region 10 with fail
  refine wp_region_lit ?_
  refine sl_run rfl (.pointer (some ⟨D, 0, none⟩)) w11 (by kernel_rfl) ?_
  simp only [Act.put, fl1, fl2, fl3]
  refine sg_call (by kernel_rfl) 16 #[.pointer (some ⟨D, 0, none⟩)] (by kernel_rfl) (R := fun v w' => ∃ Lg, v = .tuple #[.pointer (some ⟨Lg, 0, none⟩), .int .i64 0] ∧ LogI w' w.heap.size D mb Lg (fd3) ⟨[[97], [98]], false⟩ ∧ KpS (TD D mb) w11 w') ?hlc9 ?_
  case hlc9 =>
    have h8 := Open_calls hDw11.out DB.fd3
    rw [fx_open2] at h8
    exact h8.mono fun e w' h => by
      obtain ⟨Lg, h1, h2, h3⟩ := h.log rfl (B := w.heap.size) hlo.out.1 hlo.out.2 hBw11.out.size
      exact ⟨_, h1, Lg, rfl, h2, h3⟩
  rintro _ w12 ⟨Lv, rfl, hL0, hk⟩
  simp only [Act.put, fl1, fl2, fl3]
  have hLw12 : Hid (LogI w12 w.heap.size D mb Lv (fd3) ⟨[[97], [98]], false⟩) := hL0
  have hBw12 : Hid (Below w.heap.size w w12) := hBw11.out.trans (hk.bel (fun k hs => by rcases hs with rfl | rfl; exact hlo.out.1; exact hlo.out.2) hBw11.out.size)
  clear hL0 hk hBw11 hDw11
  refine sl_run rfl (.tuple #[.pointer (some ⟨Lv, 0, none⟩), .int .i64 0]) w12 (by kernel_rfl) ?_
  simp only [Act.put, fl1, fl2, fl3]
  refine sl_run rfl (.pointer (some ⟨Lv, 0, none⟩)) w12 (by kernel_rfl) ?_
  simp only [Act.put, fl1, fl2, fl3]
  refine sl_run rfl (.int .i64 0) w12 (by kernel_rfl) ?_
  simp only [Act.put, fl1, fl2, fl3]
  refine sl_run rfl (.pointer (some ⟨Lv, 0, none⟩)) w12 (by kernel_rfl) ?_
  simp only [Act.put, fl1, fl2, fl3]
  refine sl_run rfl (.int .i64 0) w12 (by kernel_rfl) ?_
  simp only [Act.put, fl1, fl2, fl3]
  refine wpList_nil ?_
  go_upto_region 11 with fail
  refine wp_region_lit ?_
  refine sl_run rfl (.int .i64 0) w12 (by kernel_rfl) ?_
  simp only [Act.put, fl1, fl2, fl3]
  refine sl_run rfl (.bool true) w12 (by kernel_rfl) ?_
  simp only [Act.put, fl1, fl2, fl3]
  refine sl_run rfl (.bool true) w12 (by kernel_rfl) ?_
  simp only [Act.put, fl1, fl2, fl3]
  refine sg_run (by kernel_rfl) (.pointer (some ⟨Lv, 0, none⟩)) w12 (by kernel_rfl) ?_
  simp only [Act.put, fl1, fl2, fl3]
  refine sg_call (by kernel_rfl) 19 #[.pointer (some ⟨Lv, 0, none⟩)] (by kernel_rfl) (R := fun v w' => PLo w' w12.heap.size v [[97], [98]] ∧ Below w12.heap.size w12 w') ?hlc10 ?_
  case hlc10 =>
    exact (All_calls hLw12.out (by decide) (by decide)).mono fun e w' h => by
      obtain ⟨v, h1, h2, h3⟩ := h
      exact ⟨v, h1, h2, h3⟩
  rintro vq w13 ⟨hr0, hb⟩
  simp only [Act.put, fl1, fl2, fl3]
  have hr1 := hr0.read
  have hBw13 : Hid (Below w.heap.size w w13) := (hBw12.out).trans ((hb).mono (hBw12.out).size)
  have hLw13 : Hid (LogI w13 w.heap.size D mb Lv (fd3) (⟨[[97], [98]], false⟩)) := (hLw12.out).below hb
  clear hBw12 hLw12
  have hqw13 : Hid (PLr w13 vq [[97], [98]]) := hr1
  clear hr0 hr1 hb
  refine sg_run (by kernel_rfl) (.slice (some ⟨w13.heap.size, 0, none⟩) 1 1) (w13.alloc (.cells (bytesC [97]) 5)) (by kernel_rfl) ?_
  simp only [Act.put, fl1, fl2, fl3]
  refine sg_run (by kernel_rfl) (.slice (some ⟨w13.heap.size, 0, none⟩) 1 1) (w13.alloc (.cells (bytesC [97]) 5 ([97].length, [97].length + 1))) (Sha.exec_conv _ rfl w13 [97] 1 1 (by kernel_rfl)) ?_
  simp only [Act.put, fl1, fl2, fl3]
  have he9 : Rw 1 encB _ (.slice (some ⟨w13.heap.size, 0, none⟩) 1 1) [97] := rw_bytes.2 (Sha.bytes_mark w13 [97] 1 rfl ([97].length, [97].length + 1))
  generalize hX : w13.alloc (.cells (bytesC [97]) 5 ([97].length, [97].length + 1)) = w14 at he9 ⊢
  have hb : Below w13.heap.size w13 w14 := by rw [← hX]; exact (Below.refl _ _).alloc (Nat.le_refl _) _
  obtain ⟨Ea, hE⟩ : ∃ E, E = w13.heap.size := ⟨_, rfl⟩
  rw [← hE] at he9 ⊢
  clear hX hE
  have hBw14 : Hid (Below w.heap.size w w14) := (hBw13.out).trans ((hb).mono (hBw13.out).size)
  have hLw14 : Hid (LogI w14 w.heap.size D mb Lv (fd3) (⟨[[97], [98]], false⟩)) := (hLw13.out).below hb
  have hqw14 : Hid (PLr w14 vq [[97], [98]]) := (hqw13.out).below hb
  clear hBw13 hLw13 hqw13
  have haw14 : Hid (Rw 1 encB w14 (.slice (some ⟨Ea, 0, none⟩) 1 1) [97]) := he9
  clear hb he9
  refine sg_run (by kernel_rfl) (.slice (some ⟨w14.heap.size, 0, none⟩) 1 1) (w14.alloc (.cells (bytesC [98]) 5)) (by kernel_rfl) ?_
  simp only [Act.put, fl1, fl2, fl3]
  refine sg_run (by kernel_rfl) (.slice (some ⟨w14.heap.size, 0, none⟩) 1 1) (w14.alloc (.cells (bytesC [98]) 5 ([98].length, [98].length + 1))) (Sha.exec_conv _ rfl w14 [98] 1 1 (by kernel_rfl)) ?_
  simp only [Act.put, fl1, fl2, fl3]
  have he9 : Rw 1 encB _ (.slice (some ⟨w14.heap.size, 0, none⟩) 1 1) [98] := rw_bytes.2 (Sha.bytes_mark w14 [98] 1 rfl ([98].length, [98].length + 1))
  generalize hX : w14.alloc (.cells (bytesC [98]) 5 ([98].length, [98].length + 1)) = w15 at he9 ⊢
  have hb : Below w14.heap.size w14 w15 := by rw [← hX]; exact (Below.refl _ _).alloc (Nat.le_refl _) _
  obtain ⟨Eb, hE⟩ : ∃ E, E = w14.heap.size := ⟨_, rfl⟩
  rw [← hE] at he9 ⊢
  clear hX hE
  have hBw15 : Hid (Below w.heap.size w w15) := (hBw14.out).trans ((hb).mono (hBw14.out).size)
  have hLw15 : Hid (LogI w15 w.heap.size D mb Lv (fd3) (⟨[[97], [98]], false⟩)) := (hLw14.out).below hb
  have hqw15 : Hid (PLr w15 vq [[97], [98]]) := (hqw14.out).below hb
  have haw15 : Hid (Rw 1 encB w15 (.slice (some ⟨Ea, 0, none⟩) 1 1) [97]) := (haw14.out).below hb
  clear hBw14 hLw14 hqw14 haw14
  have hbw15 : Hid (Rw 1 encB w15 (.slice (some ⟨Eb, 0, none⟩) 1 1) [98]) := he9
  clear hb he9
  refine sg_run (by kernel_rfl) (.slice (some ⟨w15.heap.size, 0, none⟩) 2 2) (w15.alloc (.cells #[.slice (some ⟨Ea, 0, none⟩) 1 1, .slice (some ⟨Eb, 0, none⟩) 1 1] 22)) (by kernel_rfl) ?_
  simp only [Act.put, fl1, fl2, fl3]
  generalize hX : w15.alloc (.cells #[.slice (some ⟨Ea, 0, none⟩) 1 1, .slice (some ⟨Eb, 0, none⟩) 1 1] 22) = w16
  have hb : Below w15.heap.size w15 w16 := by rw [← hX]; exact (Below.refl _ _).alloc (Nat.le_refl _) _
  obtain ⟨El, hE⟩ : ∃ E, E = w15.heap.size := ⟨_, rfl⟩
  have hc9 : w16.heap[El]? = some (.cells #[.slice (some ⟨Ea, 0, none⟩) 1 1, .slice (some ⟨Eb, 0, none⟩) 1 1] 22 (0, 0)) := by rw [← hX, hE]; exact heap_alloc_new _ _
  rw [← hE]
  clear hX hE
  have hBw16 : Hid (Below w.heap.size w w16) := (hBw15.out).trans ((hb).mono (hBw15.out).size)
  have hLw16 : Hid (LogI w16 w.heap.size D mb Lv (fd3) (⟨[[97], [98]], false⟩)) := (hLw15.out).below hb
  have hqw16 : Hid (PLr w16 vq [[97], [98]]) := (hqw15.out).below hb
  have haw16 : Hid (Rw 1 encB w16 (.slice (some ⟨Ea, 0, none⟩) 1 1) [97]) := (haw15.out).below hb
  have hbw16 : Hid (Rw 1 encB w16 (.slice (some ⟨Eb, 0, none⟩) 1 1) [98]) := (hbw15.out).below hb
  clear hBw15 hLw15 hqw15 haw15 hbw15
  have hyw16 : Hid (PLr w16 (.slice (some ⟨El, 0, none⟩) 2 2) [[97], [98]]) :=
    ⟨[⟨some ⟨Ea, 0, none⟩, 1, 1⟩, ⟨some ⟨Eb, 0, none⟩, 1, 1⟩], rw_new (enc := encV) encV_size [⟨some ⟨Ea, 0, none⟩, 1, 1⟩, ⟨some ⟨Eb, 0, none⟩, 1, 1⟩] hc9, rfl, fun i hi => by
      match i, hi with
      | 0, _ => exact haw16.out
      | 1, _ => exact hbw16.out⟩
  clear hc9 hb
  refine sg_call (by kernel_rfl) 14 #[vq, .slice (some ⟨El, 0, none⟩) 2 2] (by kernel_rfl) (R := fun v w' => v = .bool true ∧ Below w16.heap.size w16 w') ?hlc11 ?_
  case hlc11 =>
    exact (Same_calls [[97], [98]] [[97], [98]] (by unfold Byt; decide) (by unfold Byt; decide) _ _ (by decide) (by decide) w16 hqw16.out hyw16.out).mono fun e w' h => ⟨_, h.1, by rw [decide_eq_true rfl], h.2⟩
  rintro _ w17 ⟨rfl, hb⟩
  simp only [Act.put, fl1, fl2, fl3]
  have hBw17 : Hid (Below w.heap.size w w17) := (hBw16.out).trans ((hb).mono (hBw16.out).size)
  have hLw17 : Hid (LogI w17 w.heap.size D mb Lv (fd3) (⟨[[97], [98]], false⟩)) := (hLw16.out).below hb
  have hqw17 : Hid (PLr w17 vq [[97], [98]]) := (hqw16.out).below hb
  have haw17 : Hid (Rw 1 encB w17 (.slice (some ⟨Ea, 0, none⟩) 1 1) [97]) := (haw16.out).below hb
  have hbw17 : Hid (Rw 1 encB w17 (.slice (some ⟨Eb, 0, none⟩) 1 1) [98]) := (hbw16.out).below hb
  have hyw17 : Hid (PLr w17 (.slice (some ⟨El, 0, none⟩) 2 2) [[97], [98]]) := (hyw16.out).below hb
  clear hBw16 hLw16 hqw16 haw16 hbw16 hyw16
  clear hb
  refine sl_run rfl (.bool true) w17 (by kernel_rfl) ?_
  simp only [Act.put, fl1, fl2, fl3]
  refine sl_run rfl (.bool true) w17 (by kernel_rfl) ?_
  simp only [Act.put, fl1, fl2, fl3]
  refine sg_run (by kernel_rfl) (.pointer (some ⟨Lv, 0, none⟩)) w17 (by kernel_rfl) ?_
  simp only [Act.put, fl1, fl2, fl3]
  refine sg_call (by kernel_rfl) 22 #[.pointer (some ⟨Lv, 0, none⟩)] (by kernel_rfl) (R := fun v w' => v = .int .i64 2 ∧ w17 = w') ?hlc12 ?_
  case hlc12 =>
    have h8 := Len_calls hLw17.out
    exact h8.mono fun e w' h => ⟨_, h.1, rfl, h.2⟩
  rintro _ _ ⟨rfl, rfl⟩
  simp only [Act.put, fl1, fl2, fl3]
  refine sg_run (by kernel_rfl) (.bool true) w17 (by kernel_rfl) ?_
  simp only [Act.put, fl1, fl2, fl3]
  refine sl_run rfl (.bool true) w17 (by kernel_rfl) ?_
  simp only [Act.put, fl1, fl2, fl3]
  refine sl_run rfl (.bool true) w17 (by kernel_rfl) ?_
  simp only [Act.put, fl1, fl2, fl3]
  refine wpList_nil ?_
  have hF := hBw17
  clear hBw17 hLw17 hqw17 haw17 hbw17 hyw17 hrec hsc hrb hrlH hlo
  go_wp2_with fail
  go_ret
  exact ⟨rfl, hF.out⟩
end Go.Proofs.Ytdkaaieenbmihaa
