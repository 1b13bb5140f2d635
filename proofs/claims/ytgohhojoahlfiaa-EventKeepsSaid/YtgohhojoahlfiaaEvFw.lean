/- The document's: may a backend be told; are an event's bytes and texts few; may an event be (printed by gen_evfew.py). -/
import Derived.Test.YtgohhojoahlfiaaEvA
import Derived.Test.YtgohhojoahlfiaaEvO
namespace Go.Proofs.Ytgohhojoahlfiaa
open Go.RowKit
set_option linter.unusedVariables false
set_option linter.unusedSimpArgs false

theorem told_is (b : BackP) : toldB b = (decide (b.name.length ≤ 255) && (decide (0 ≤ b.port) && decide (b.port ≤ 65535))) := rfl
set_option maxRecDepth 100000 in
theorem refTold_any (b : BackP) (hb : BackShape b) (w : World) :
    Calls Try.prog 25 #[.agg (backCs b).toArray] w fun e w' => e = .returned (.bool (toldB b)) ∧ Below w.heap.size w w' := by
  obtain ⟨W, hW⟩ : ∃ W, W = w.alloc (.cells (backCs b).toArray 29) := ⟨_, rfl⟩
  have hX : Blk W w.heap.size 29 (backCs b).toArray := by rw [hW]; exact Blk.new w _ _ _ rfl
  have HB : Hid (Below w.heap.size w W) := by rw [hW]; exact (Below.refl _ _).alloc (Nat.le_refl _) _
  have d0 := cb_name hX
  have d1 := cb_port hX hb
  have HW := Lib.hid hW
  clear hW hX
  go_enter Try.func25, Try.ntmps25
  go_upto_region 1 with fail
  rw [← HW.out]
  clear HW
  by_cases h0 : b.name.length ≤ 255
  rotate_left
  · have q0 : ¬ ((b.name.length : Int) ≤ 255) := by omega
    have Hr : Hid (toldB b = false) := by show _ = _; rw [told_is]; simp only [decide_eq_false h0, Bool.false_and, Bool.and_false, Bool.true_and]
    clear h0
    go_wp2
    go_ret
    exact ⟨by rw [Hr.out]; first | done | rfl | (rw [decide_eq_false (show ¬ ((b.name.length : Int) ≤ 255) by omega)]; rfl), HB.out⟩
  have q0 : (b.name.length : Int) ≤ 255 := by omega
  by_cases h1 : 0 ≤ b.port
  rotate_left
  · have q1 : ¬ (0 ≤ b.port) := by omega
    have Hr : Hid (toldB b = false) := by show _ = _; rw [told_is]; simp only [decide_eq_true h0, decide_eq_false h1, Bool.false_and, Bool.and_false, Bool.true_and]
    clear h0 h1
    go_wp2
    go_ret
    exact ⟨by rw [Hr.out]; first | done | rfl | (rw [decide_eq_false (show ¬ (0 ≤ b.port) by omega)]; rfl), HB.out⟩
  have q1 : 0 ≤ b.port := by omega
  by_cases h2 : b.port ≤ 65535
  rotate_left
  · have q2 : ¬ (b.port ≤ 65535) := by omega
    have Hr : Hid (toldB b = false) := by show _ = _; rw [told_is]; simp only [decide_eq_true h0, decide_eq_true h1, decide_eq_false h2, Bool.false_and, Bool.and_false, Bool.true_and]
    clear h0 h1 h2
    go_wp2
    go_ret
    exact ⟨by rw [Hr.out]; first | done | rfl | (rw [decide_eq_false (show ¬ (b.port ≤ 65535) by omega)]; rfl), HB.out⟩
  have q2 : b.port ≤ 65535 := by omega
  have Hr : Hid (toldB b = true) := by show _ = _; rw [told_is]; simp only [decide_eq_true h0, decide_eq_true h1, decide_eq_true h2, Bool.and_true]
  clear h0 h1 h2
  go_wp2
  go_ret
  exact ⟨by rw [Hr.out]; first | done | rfl | (rw [decide_eq_true (show b.port ≤ 65535 by omega)]; rfl), HB.out⟩

def fewEB (e : EvP) : Bool := decide (e.act.frame.length ≤ 140000) && (decide (e.act.name.length ≤ 400) && (decide (e.act.oname.length ≤ 400) && (decide (e.act.back.name.length ≤ 400) && (decide (e.o.name.length ≤ 400) && decide (e.o.out.length ≤ 3000)))))
set_option maxHeartbeats 1000000 in
set_option maxRecDepth 100000 in
theorem refFewE_any (A : Option Addr) (n c : Nat) (A2 : Option Addr) (n2 c2 : Nat) (e : EvP) (hs0 : EvShape e) (hn : n = e.act.frame.length) (hn2 : n2 = e.o.out.length) (w : World) :
    Calls Try.prog 11 #[.agg (evCs A n c A2 n2 c2 e).toArray] w fun x w' => x = .returned (.bool (fewEB e)) ∧ Below w.heap.size w w' := by
  subst hn hn2
  have hs := Lib.hid hs0
  clear hs0
  obtain ⟨W0, hW⟩ : ∃ W, W = w.alloc (.cells (evCs A e.act.frame.length c A2 e.o.out.length c2 e).toArray 39) := ⟨_, rfl⟩
  have H1 : Hid (Blk W0 w.heap.size 39 (evCs A e.act.frame.length c A2 e.o.out.length c2 e).toArray) := by rw [hW]; exact Blk.new w _ _ _ rfl
  have Bw : Hid (Below w.heap.size w W0) := by rw [hW]; exact (Below.refl _ _).alloc (Nat.le_refl _) _
  have HW := Lib.hid hW
  clear hW
  go_enter Try.func11, Try.ntmps11
  go_upto_region 1 with fail
  rw [← HW.out]
  clear HW
  have RA := Lib.hid (ce_act H1.out hs.out)
  obtain ⟨x1, hx1⟩ : ∃ W, W = W0.alloc (.cells (actCs none 0 0 act0).toArray 33) := ⟨_, rfl⟩
  obtain ⟨y1, hy1⟩ : ∃ W, W = x1.setCells W0.heap.size 0 (actCs A e.act.frame.length c e.act) := ⟨_, rfl⟩
  obtain ⟨hth1, hbx1, hbe1⟩ := boxed W0 x1 y1 33 (actCs none 0 0 act0) (actCs A e.act.frame.length c e.act) (by rw [act_len hs.out.act, act_len act0_shape]) hx1 hy1
  rw [act0_lit] at hx1
  have HX1 := Lib.hid hx1
  have HY1 := Lib.hid hy1
  have Hth1 := Lib.hid hth1
  have Hbe1 := Lib.hid hbe1
  have H3n := Lib.hid hbx1
  clear hx1 hy1 hth1 hbx1 hbe1
  have R1 := Lib.hid (blk_range H1.out)
  go_upto_region 2 with (first
    | ((with_reducible refine gateL 39 ?_); refine wpList_load_g (by rfl) 39 (.tmp 1) rfl w.heap.size 0 rfl (evCs A e.act.frame.length c A2 e.o.out.length c2 e) _ R1.out ev_under rfl (ev_sz hs.out) ?_)
    | (rw [← HX1.out]; (with_reducible refine gateS 33 ?_); refine wpList_store_mid rfl 33 (.tmp 3) (.tmp 5) rfl W0.heap.size 0 (actCs A e.act.frame.length c e.act).toArray rfl rfl Hth1.out (act_sz hs.out.act) (act_one _ _ _ _) ?_)
    | ((with_reducible refine gateL 33 ?_); refine wpList_load_g (by rfl) 33 (.tmp 4) rfl w.heap.size 0 rfl (actCs A e.act.frame.length c e.act) _ RA.out act_under rfl (act_sz hs.out.act) ?_))
  clear R1
  rw [← HY1.out]
  clear HX1 HY1 Hth1
  have H1' := Lib.hid (Blk.below H1.out Hbe1.out H1.out.lt)
  clear H1
  have H1 := H1'
  clear H1'
  have Bw' : Hid (Below w.heap.size w y1) := Bw.out.trans (Hbe1.out.mono Bw.out.size)
  clear Bw
  have Bw := Bw'
  clear Bw'
  have H3 := H3n
  clear H3n Hbe1
  have d0 := ca_frame H3.out
  have d1 := ca_name H3.out hs.out.act
  have d2 := ca_oname H3.out hs.out.act
  have d3 : y1.cell? ⟨W0.heap.size, 3, none⟩ = some (.string ⟨e.act.back.name.toArray⟩) := ca_back H3.out hs.out.act 0 _ rfl
  have d4 := ce_34 H1.out hs.out 4
  have d4' : y1.cell? ⟨w.heap.size, 38, none⟩ = some (.string ⟨e.o.name.toArray⟩) := d4
  have d5 : y1.cell? ⟨w.heap.size, 39, none⟩ = some (.slice A2 e.o.out.length c2) := ce_34 H1.out hs.out 5
  have HB := Bw
  clear RA d4
  by_cases h0 : e.act.frame.length ≤ 140000
  rotate_left
  · have q0 : ¬ ((e.act.frame.length : Int) ≤ 140000) := by omega
    have Hr : Hid (fewEB e = false) := by show _ = _; unfold fewEB; simp only [decide_eq_false h0, Bool.false_and, Bool.and_false, Bool.true_and]
    clear h0
    go_wp2
    go_ret
    exact ⟨by rw [Hr.out]; first | done | rfl | (rw [decide_eq_false (show ¬ ((e.act.frame.length : Int) ≤ 140000) by omega)]; rfl), HB.out⟩
  have q0 : (e.act.frame.length : Int) ≤ 140000 := by omega
  by_cases h1 : e.act.name.length ≤ 400
  rotate_left
  · have q1 : ¬ ((e.act.name.length : Int) ≤ 400) := by omega
    have Hr : Hid (fewEB e = false) := by show _ = _; unfold fewEB; simp only [decide_eq_true h0, decide_eq_false h1, Bool.false_and, Bool.and_false, Bool.true_and]
    clear h0 h1
    go_wp2
    go_ret
    exact ⟨by rw [Hr.out]; first | done | rfl | (rw [decide_eq_false (show ¬ ((e.act.name.length : Int) ≤ 400) by omega)]; rfl), HB.out⟩
  have q1 : (e.act.name.length : Int) ≤ 400 := by omega
  by_cases h2 : e.act.oname.length ≤ 400
  rotate_left
  · have q2 : ¬ ((e.act.oname.length : Int) ≤ 400) := by omega
    have Hr : Hid (fewEB e = false) := by show _ = _; unfold fewEB; simp only [decide_eq_true h0, decide_eq_true h1, decide_eq_false h2, Bool.false_and, Bool.and_false, Bool.true_and]
    clear h0 h1 h2
    go_wp2
    go_ret
    exact ⟨by rw [Hr.out]; first | done | rfl | (rw [decide_eq_false (show ¬ ((e.act.oname.length : Int) ≤ 400) by omega)]; rfl), HB.out⟩
  have q2 : (e.act.oname.length : Int) ≤ 400 := by omega
  by_cases h3 : e.act.back.name.length ≤ 400
  rotate_left
  · have q3 : ¬ ((e.act.back.name.length : Int) ≤ 400) := by omega
    have Hr : Hid (fewEB e = false) := by show _ = _; unfold fewEB; simp only [decide_eq_true h0, decide_eq_true h1, decide_eq_true h2, decide_eq_false h3, Bool.false_and, Bool.and_false, Bool.true_and]
    clear h0 h1 h2 h3
    go_wp2
    go_ret
    exact ⟨by rw [Hr.out]; first | done | rfl | (rw [decide_eq_false (show ¬ ((e.act.back.name.length : Int) ≤ 400) by omega)]; rfl), HB.out⟩
  have q3 : (e.act.back.name.length : Int) ≤ 400 := by omega
  by_cases h4 : e.o.name.length ≤ 400
  rotate_left
  · have q4 : ¬ ((e.o.name.length : Int) ≤ 400) := by omega
    have Hr : Hid (fewEB e = false) := by show _ = _; unfold fewEB; simp only [decide_eq_true h0, decide_eq_true h1, decide_eq_true h2, decide_eq_true h3, decide_eq_false h4, Bool.false_and, Bool.and_false, Bool.true_and]
    clear h0 h1 h2 h3 h4
    go_wp2
    go_ret
    exact ⟨by rw [Hr.out]; first | done | rfl | (rw [decide_eq_false (show ¬ ((e.o.name.length : Int) ≤ 400) by omega)]; rfl), HB.out⟩
  have q4 : (e.o.name.length : Int) ≤ 400 := by omega
  by_cases h5 : e.o.out.length ≤ 3000
  rotate_left
  · have q5 : ¬ ((e.o.out.length : Int) ≤ 3000) := by omega
    have Hr : Hid (fewEB e = false) := by show _ = _; unfold fewEB; simp only [decide_eq_true h0, decide_eq_true h1, decide_eq_true h2, decide_eq_true h3, decide_eq_true h4, decide_eq_false h5, Bool.false_and, Bool.and_false, Bool.true_and]
    clear h0 h1 h2 h3 h4 h5
    go_wp2
    go_ret
    exact ⟨by rw [Hr.out]; first | done | rfl | (rw [decide_eq_false (show ¬ ((e.o.out.length : Int) ≤ 3000) by omega)]; rfl), HB.out⟩
  have q5 : (e.o.out.length : Int) ≤ 3000 := by omega
  have Hr : Hid (fewEB e = true) := by show _ = _; unfold fewEB; simp only [decide_eq_true h0, decide_eq_true h1, decide_eq_true h2, decide_eq_true h3, decide_eq_true h4, decide_eq_true h5, Bool.and_true]
  clear h0 h1 h2 h3 h4 h5
  go_wp2
  go_ret
  exact ⟨by rw [Hr.out]; first | done | rfl | (rw [decide_eq_true (show (e.o.out.length : Int) ≤ 3000 by omega)]; rfl), HB.out⟩
end Go.Proofs.Ytgohhojoahlfiaa
