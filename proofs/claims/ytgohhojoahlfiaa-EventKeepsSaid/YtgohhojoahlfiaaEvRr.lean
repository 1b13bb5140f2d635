/- The document's Right of an event (printed by gen_evrr.py). -/
import Derived.Test.YtgohhojoahlfiaaEvRp
namespace Go.Proofs.Ytgohhojoahlfiaa
open Go.RowKit
set_option linter.unusedVariables false
set_option linter.unusedSimpArgs false

theorem rplainE (A : Option Addr) (n c : Nat) (a : ActP) (ha0 : ActShape a) (hn : n = a.frame.length) (w : World) (hf : BS w w.heap.size A a.frame) (r : Bool) (hr : plainB a = r) :
    Calls Try.prog 15 #[.agg (actCs A n c a).toArray] w fun e w' => e = .returned (.bool r) ∧ Below w.heap.size w w' := by
  subst hr hn
  exact refPlain_any A c a ha0 w hf
theorem right_flat (e : EvP) : rightEB e = (plainB e.act && (decide (0 ≤ e.o.err) && (decide (e.o.err ≤ 9) && (decide (0 ≤ e.o.reason) && (decide (e.o.reason ≤ 10) && (decide (0 ≤ e.o.version) && (decide (e.o.version ≤ 1099511627776) && (decide (e.o.name.length ≤ 255) && (decide (e.o.out.length = 0) && (decide (0 ≤ e.len) && decide (e.len ≤ 262144))))))))))) := by
  unfold rightEB inZ
  simp only [Bool.and_assoc]
set_option maxHeartbeats 2000000 in
set_option maxRecDepth 100000 in
theorem refRightE_any (A : Option Addr) (c : Nat) (A2 : Option Addr) (c2 : Nat) (e : EvP) (hs0 : EvShape e) (w : World) (hf0 : BS w w.heap.size A e.act.frame) :
    Calls Try.prog 13 #[.agg (evCs A e.act.frame.length c A2 e.o.out.length c2 e).toArray] w fun x w' => x = .returned (.bool (rightEB e)) ∧ Below w.heap.size w w' := by
  have hs := Lib.hid hs0
  obtain ⟨W0, hW⟩ : ∃ W, W = w.alloc (.cells (evCs A e.act.frame.length c A2 e.o.out.length c2 e).toArray 39) := ⟨_, rfl⟩
  have H1 : Hid (Blk W0 w.heap.size 39 (evCs A e.act.frame.length c A2 e.o.out.length c2 e).toArray) := by rw [hW]; exact Blk.new w _ _ _ rfl
  have Bw : Hid (Below w.heap.size w W0) := by rw [hW]; exact (Below.refl _ _).alloc (Nat.le_refl _) _
  have Hf := Lib.hid ((hf0.below Bw.out).more Bw.out.size)
  have HW := Lib.hid hW
  clear hW hs0 hf0
  go_enter Try.func13, Try.ntmps13
  go_upto_region 1 with fail
  rw [← HW.out]
  clear HW
  have RO := Lib.hid (ce_out H1.out hs.out)
  obtain ⟨x1, hx1⟩ : ∃ W, W = W0.alloc (.cells (outCs none 0 0 out0).toArray 36) := ⟨_, rfl⟩
  obtain ⟨y1, hy1⟩ : ∃ W, W = x1.setCells W0.heap.size 0 (outCs A2 e.o.out.length c2 e.o) := ⟨_, rfl⟩
  obtain ⟨hth1, hbx1, hbe1⟩ := boxed W0 x1 y1 36 (outCs none 0 0 out0) (outCs A2 e.o.out.length c2 e.o) rfl hx1 hy1
  rw [out0_lit] at hx1
  have HX1 := Lib.hid hx1
  have HY1 := Lib.hid hy1
  have Hth1 := Lib.hid hth1
  have Hbe1 := Lib.hid hbe1
  have H3n := Lib.hid hbx1
  clear hx1 hy1 hth1 hbx1 hbe1
  have R1 := Lib.hid (blk_range H1.out)
  go_upto_region 2 with (first
    | ((with_reducible refine gateL 39 ?_); refine wpList_load_g (by rfl) 39 (.tmp 1) rfl w.heap.size 0 rfl (evCs A e.act.frame.length c A2 e.o.out.length c2 e) _ R1.out ev_under rfl (ev_sz hs.out) ?_)
    | (rw [← HX1.out]; (with_reducible refine gateS 36 ?_); refine wpList_store_mid rfl 36 (.tmp 3) (.tmp 5) rfl W0.heap.size 0 (outCs A2 e.o.out.length c2 e.o).toArray rfl rfl Hth1.out out_sz (out_one _ _ _ _) ?_)
    | ((with_reducible refine gateL 36 ?_); refine wpList_load_g (by rfl) 36 (.tmp 4) rfl w.heap.size 34 rfl (outCs A2 e.o.out.length c2 e.o) _ RO.out Try.underlying36 rfl out_sz ?_))
  clear R1
  rw [← HY1.out]
  clear HX1 HY1 Hth1
  have H1' := Lib.hid (Blk.below H1.out Hbe1.out H1.out.lt)
  clear H1
  have H1 := H1'
  clear H1'
  have Hf' := Lib.hid ((Hf.out.below Hbe1.out).more Hbe1.out.size)
  clear Hf
  have Hf := Hf'
  clear Hf'
  have Bw' : Hid (Below w.heap.size w y1) := Bw.out.trans (Hbe1.out.mono Bw.out.size)
  clear Bw
  have Bw := Bw'
  clear Bw'
  have H3 := H3n
  clear H3n Hbe1
  clear RO
  have RA := Lib.hid (ce_act H1.out hs.out)
  obtain ⟨p, hp⟩ : ∃ p, plainB e.act = p := ⟨_, rfl⟩
  have Hp := Lib.hid hp
  clear hp
  go_wp2_with (first
    | ((with_reducible refine gateL 33 ?_); refine wpList_load_g (by rfl) 33 (.tmp 6) rfl w.heap.size 0 rfl (actCs A e.act.frame.length c e.act) _ RA.out act_under rfl (act_sz hs.out.act) ?_))
  clear RA
  refine (rplainE A _ c e.act hs.out.act rfl y1 Hf.out p Hp.out).mono ?_
  rintro e w5 ⟨rfl, hb2⟩
  have Hb2 := Lib.hid hb2
  clear hb2
  have H1' := Lib.hid (Blk.below H1.out Hb2.out H1.out.lt)
  clear H1
  have H1 := H1'
  clear H1'
  have H3' := Lib.hid (Blk.below H3.out Hb2.out H3.out.lt)
  clear H3
  have H3 := H3'
  clear H3'
  have Hf' := Lib.hid ((Hf.out.below Hb2.out).more Hb2.out.size)
  clear Hf
  have Hf := Hf'
  clear Hf'
  have Bw' : Hid (Below w.heap.size w w5) := Bw.out.trans (Hb2.out.mono Bw.out.size)
  clear Bw
  have Bw := Bw'
  clear Bw'
  clear Hb2
  rcases p with _ | _
  · have Hr : Hid (rightEB e = false) := by show _ = _; rw [right_flat, Hp.out, Bool.false_and]
    go_wp2
    go_ret
    exact ⟨by rw [Hr.out]; first | done | rfl, Bw.out⟩
  have d0 := co_err H3.out
  have d1 := co_reason H3.out
  have d2 := co_version H3.out
  have d3 := co_name H3.out
  have d4 := co_out H3.out
  have d5 := ce_len H1.out hs.out
  have HB := Bw
  by_cases h0 : 0 ≤ e.o.err
  rotate_left
  · have q0 : ¬ (0 ≤ e.o.err) := by omega
    have Hr : Hid (rightEB e = false) := by show _ = _; rw [right_flat, Hp.out, Bool.true_and]; simp only [decide_eq_false h0, Bool.false_and, Bool.and_false, Bool.true_and]
    clear h0
    go_wp2
    go_ret
    exact ⟨by rw [Hr.out]; first | done | rfl | (rw [decide_eq_false (show ¬ (0 ≤ e.o.err) by omega)]; rfl), HB.out⟩
  have q0 : 0 ≤ e.o.err := by omega
  by_cases h1 : e.o.err ≤ 9
  rotate_left
  · have q1 : ¬ (e.o.err ≤ 9) := by omega
    have Hr : Hid (rightEB e = false) := by show _ = _; rw [right_flat, Hp.out, Bool.true_and]; simp only [decide_eq_true h0, decide_eq_false h1, Bool.false_and, Bool.and_false, Bool.true_and]
    clear h0 h1
    go_wp2
    go_ret
    exact ⟨by rw [Hr.out]; first | done | rfl | (rw [decide_eq_false (show ¬ (e.o.err ≤ 9) by omega)]; rfl), HB.out⟩
  have q1 : e.o.err ≤ 9 := by omega
  by_cases h2 : 0 ≤ e.o.reason
  rotate_left
  · have q2 : ¬ (0 ≤ e.o.reason) := by omega
    have Hr : Hid (rightEB e = false) := by show _ = _; rw [right_flat, Hp.out, Bool.true_and]; simp only [decide_eq_true h0, decide_eq_true h1, decide_eq_false h2, Bool.false_and, Bool.and_false, Bool.true_and]
    clear h0 h1 h2
    go_wp2
    go_ret
    exact ⟨by rw [Hr.out]; first | done | rfl | (rw [decide_eq_false (show ¬ (0 ≤ e.o.reason) by omega)]; rfl), HB.out⟩
  have q2 : 0 ≤ e.o.reason := by omega
  by_cases h3 : e.o.reason ≤ 10
  rotate_left
  · have q3 : ¬ (e.o.reason ≤ 10) := by omega
    have Hr : Hid (rightEB e = false) := by show _ = _; rw [right_flat, Hp.out, Bool.true_and]; simp only [decide_eq_true h0, decide_eq_true h1, decide_eq_true h2, decide_eq_false h3, Bool.false_and, Bool.and_false, Bool.true_and]
    clear h0 h1 h2 h3
    go_wp2
    go_ret
    exact ⟨by rw [Hr.out]; first | done | rfl | (rw [decide_eq_false (show ¬ (e.o.reason ≤ 10) by omega)]; rfl), HB.out⟩
  have q3 : e.o.reason ≤ 10 := by omega
  by_cases h4 : 0 ≤ e.o.version
  rotate_left
  · have q4 : ¬ (0 ≤ e.o.version) := by omega
    have Hr : Hid (rightEB e = false) := by show _ = _; rw [right_flat, Hp.out, Bool.true_and]; simp only [decide_eq_true h0, decide_eq_true h1, decide_eq_true h2, decide_eq_true h3, decide_eq_false h4, Bool.false_and, Bool.and_false, Bool.true_and]
    clear h0 h1 h2 h3 h4
    go_wp2
    go_ret
    exact ⟨by rw [Hr.out]; first | done | rfl | (rw [decide_eq_false (show ¬ (0 ≤ e.o.version) by omega)]; rfl), HB.out⟩
  have q4 : 0 ≤ e.o.version := by omega
  by_cases h5 : e.o.version ≤ 1099511627776
  rotate_left
  · have q5 : ¬ (e.o.version ≤ 1099511627776) := by omega
    have Hr : Hid (rightEB e = false) := by show _ = _; rw [right_flat, Hp.out, Bool.true_and]; simp only [decide_eq_true h0, decide_eq_true h1, decide_eq_true h2, decide_eq_true h3, decide_eq_true h4, decide_eq_false h5, Bool.false_and, Bool.and_false, Bool.true_and]
    clear h0 h1 h2 h3 h4 h5
    go_wp2
    go_ret
    exact ⟨by rw [Hr.out]; first | done | rfl | (rw [decide_eq_false (show ¬ (e.o.version ≤ 1099511627776) by omega)]; rfl), HB.out⟩
  have q5 : e.o.version ≤ 1099511627776 := by omega
  by_cases h6 : e.o.name.length ≤ 255
  rotate_left
  · have q6 : ¬ ((e.o.name.length : Int) ≤ 255) := by omega
    have Hr : Hid (rightEB e = false) := by show _ = _; rw [right_flat, Hp.out, Bool.true_and]; simp only [decide_eq_true h0, decide_eq_true h1, decide_eq_true h2, decide_eq_true h3, decide_eq_true h4, decide_eq_true h5, decide_eq_false h6, Bool.false_and, Bool.and_false, Bool.true_and]
    clear h0 h1 h2 h3 h4 h5 h6
    go_wp2
    go_ret
    exact ⟨by rw [Hr.out]; first | done | rfl | (rw [decide_eq_false (show ¬ ((e.o.name.length : Int) ≤ 255) by omega)]; rfl), HB.out⟩
  have q6 : (e.o.name.length : Int) ≤ 255 := by omega
  by_cases h7 : e.o.out.length = 0
  rotate_left
  · have q7 : ¬ ((e.o.out.length : Int) = 0) := by omega
    have qb : ((e.o.out.length : Int) == 0) = false := beq_eq_false_iff_ne.2 (by omega)
    have Hr : Hid (rightEB e = false) := by show _ = _; rw [right_flat, Hp.out, Bool.true_and]; simp only [decide_eq_true h0, decide_eq_true h1, decide_eq_true h2, decide_eq_true h3, decide_eq_true h4, decide_eq_true h5, decide_eq_true h6, decide_eq_false h7, Bool.false_and, Bool.and_false, Bool.true_and]
    clear h0 h1 h2 h3 h4 h5 h6 h7
    go_wp2
    go_ret
    exact ⟨by rw [Hr.out]; first | done | rfl | (rw [decide_eq_false (show ¬ ((e.o.out.length : Int) = 0) by omega)]; rfl), HB.out⟩
  have q7 : (e.o.out.length : Int) = 0 := by omega
  have qb : ((e.o.out.length : Int) == 0) = true := by rw [q7]; rfl
  by_cases h8 : 0 ≤ e.len
  rotate_left
  · have q8 : ¬ (0 ≤ e.len) := by omega
    have Hr : Hid (rightEB e = false) := by show _ = _; rw [right_flat, Hp.out, Bool.true_and]; simp only [decide_eq_true h0, decide_eq_true h1, decide_eq_true h2, decide_eq_true h3, decide_eq_true h4, decide_eq_true h5, decide_eq_true h6, decide_eq_true h7, decide_eq_false h8, Bool.false_and, Bool.and_false, Bool.true_and]
    clear h0 h1 h2 h3 h4 h5 h6 h7 h8
    go_wp2
    go_ret
    exact ⟨by rw [Hr.out]; first | done | rfl | (rw [decide_eq_false (show ¬ (0 ≤ e.len) by omega)]; rfl), HB.out⟩
  have q8 : 0 ≤ e.len := by omega
  by_cases h9 : e.len ≤ 262144
  rotate_left
  · have q9 : ¬ (e.len ≤ 262144) := by omega
    have Hr : Hid (rightEB e = false) := by show _ = _; rw [right_flat, Hp.out, Bool.true_and]; simp only [decide_eq_true h0, decide_eq_true h1, decide_eq_true h2, decide_eq_true h3, decide_eq_true h4, decide_eq_true h5, decide_eq_true h6, decide_eq_true h7, decide_eq_true h8, decide_eq_false h9, Bool.false_and, Bool.and_false, Bool.true_and]
    clear h0 h1 h2 h3 h4 h5 h6 h7 h8 h9
    go_wp2
    go_ret
    exact ⟨by rw [Hr.out]; first | done | rfl | (rw [decide_eq_false (show ¬ (e.len ≤ 262144) by omega)]; rfl), HB.out⟩
  have q9 : e.len ≤ 262144 := by omega
  have Hr : Hid (rightEB e = true) := by show _ = _; rw [right_flat, Hp.out, Bool.true_and]; simp only [decide_eq_true h0, decide_eq_true h1, decide_eq_true h2, decide_eq_true h3, decide_eq_true h4, decide_eq_true h5, decide_eq_true h6, decide_eq_true h7, decide_eq_true h8, decide_eq_true h9, Bool.and_true]
  clear h0 h1 h2 h3 h4 h5 h6 h7 h8 h9
  go_wp2
  go_ret
  exact ⟨by rw [Hr.out]; first | done | rfl | (rw [decide_eq_true (show e.len ≤ 262144 by omega)]; rfl), HB.out⟩
end Go.Proofs.Ytgohhojoahlfiaa
