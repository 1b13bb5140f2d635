/- The document's Plain (printed by gen_evrp.py). -/
import Derived.Test.YtgohhojoahlfiaaEvFw
namespace Go.Proofs.Ytgohhojoahlfiaa
open Go.RowKit
set_option linter.unusedVariables false
set_option linter.unusedSimpArgs false

theorem same_back0 {b : BackP} (h : sameBackB b back0 = true) : toldB b = true := by
  simp only [sameBackB, Bool.and_eq_true, beq_iff_eq] at h
  unfold toldB
  rw [h.1, h.2.2.1]
  rfl
section
variable {a : ActP}
theorem plain_k1 (hk : a.kind = 1) : plainB a = (sameActB a (onlyA a) && decide (a.frame.length ≤ 131072)) := by
  unfold plainB
  rw [hk, show inZ 1 1 4 = true from rfl, show ((1 : Int) != 2) = true from rfl]
  rcases hs : sameActB a (onlyA a) with _ | _
  · simp
  · have h := hs
    unfold onlyA at h
    rw [if_pos hk] at h
    simp only [sameActB, Bool.and_eq_true, beq_iff_eq] at h
    obtain ⟨_, _, _, h4, _, h6, h7, _⟩ := h
    rw [h4, h7, same_back0 h6]
    simp [act0]
theorem plain_k21 (hk : a.kind = 2) (ho : a.op = 1) : plainB a = (sameActB a (onlyA a) && toldB a.back) := by
  unfold plainB
  rw [hk, ho, show inZ 2 1 4 = true from rfl, show inZ 1 1 5 = true from rfl]
  rcases hs : sameActB a (onlyA a) with _ | _
  · simp
  · have h := hs
    unfold onlyA at h
    rw [if_neg (by omega), if_pos hk, if_pos ho] at h
    simp only [sameActB, Bool.and_eq_true, beq_iff_eq] at h
    obtain ⟨_, h2, _, h4, _, h6, h7, _⟩ := h
    rw [h2, h4, h7]
    simp [act0]
theorem plain_k2 (hk : a.kind = 2) (ho : a.op ≠ 1) : plainB a = (sameActB a (onlyA a) && (decide (2 ≤ a.op) && (decide (a.op ≤ 5) && decide (a.oname.length ≤ 255)))) := by
  unfold plainB
  rw [hk, show inZ 2 1 4 = true from rfl, show ((2 : Int) != 2) = false from rfl]
  have hz : inZ a.op 1 5 = (decide (2 ≤ a.op) && decide (a.op ≤ 5)) := by
    unfold inZ
    by_cases h : 2 ≤ a.op
    · rw [decide_eq_true h, decide_eq_true (show 1 ≤ a.op by omega)]
    · rw [decide_eq_false h, decide_eq_false (show ¬ 1 ≤ a.op by omega)]
  rw [hz]
  rcases hs : sameActB a (onlyA a) with _ | _
  · simp
  · have h := hs
    unfold onlyA at h
    rw [if_neg (by omega), if_pos hk, if_neg ho] at h
    have h5 : a.frame = [] ∧ a.name = [] ∧ sameBackB a.back back0 = true := by
      split at h
      · simp only [sameActB, Bool.and_eq_true, beq_iff_eq] at h
        exact ⟨h.2.1, h.2.2.2.2.2.2.1, h.2.2.2.2.2.1⟩
      · simp only [sameActB, Bool.and_eq_true, beq_iff_eq] at h
        exact ⟨h.2.1, h.2.2.2.2.2.2.1, h.2.2.2.2.2.1⟩
    rw [h5.1, h5.2.1, same_back0 h5.2.2]
    simp [Bool.and_assoc]
theorem plain_k3 (hk : a.kind = 3) : plainB a = (sameActB a (onlyA a) && decide (a.name.length ≤ 255)) := by
  unfold plainB
  rw [hk, show inZ 3 1 4 = true from rfl, show ((3 : Int) != 2) = true from rfl]
  rcases hs : sameActB a (onlyA a) with _ | _
  · simp
  · have h := hs
    unfold onlyA at h
    rw [if_neg (by omega), if_neg (by omega), if_pos hk] at h
    simp only [sameActB, Bool.and_eq_true, beq_iff_eq] at h
    obtain ⟨_, h2, _, h4, _, h6, _, _⟩ := h
    rw [h2, h4, same_back0 h6]
    simp [act0]
theorem plain_k4 (hk : a.kind = 4) : plainB a = sameActB a (onlyA a) := by
  unfold plainB
  rw [hk, show inZ 4 1 4 = true from rfl, show ((4 : Int) != 2) = true from rfl]
  rcases hs : sameActB a (onlyA a) with _ | _
  · simp
  · have h := hs
    unfold onlyA at h
    rw [if_neg (by omega), if_neg (by omega), if_neg (by omega)] at h
    simp only [sameActB, Bool.and_eq_true, beq_iff_eq] at h
    obtain ⟨_, h2, _, h4, _, h6, h7, _⟩ := h
    rw [h2, h4, h7, same_back0 h6]
    simp [act0]
theorem plain_no (h1 : a.kind ≠ 1) (h2 : a.kind ≠ 2) (h3 : a.kind ≠ 3) (h4 : a.kind ≠ 4) : plainB a = false := by
  unfold plainB
  rw [show inZ a.kind 1 4 = false by
    rcases h : inZ a.kind 1 4 with _ | _
    · rfl
    · rw [inZ_iff] at h; omega]
  rfl
end
theorem rsameActE (A : Option Addr) (c : Nat) (a : ActP) (A' : Option Addr) (c' : Nat) (b : ActP) (ha0 : ActShape a) (hb0 : ActShape b) (w : World) (hf : BS w w.heap.size A a.frame) (hf' : BS w w.heap.size A' b.frame) (r : Bool) (hr : sameActB a b = r) :
    Calls Try.prog 38 #[.agg (actCs A a.frame.length c a).toArray, .agg (actCs A' b.frame.length c' b).toArray] w fun e w' => e = .returned (.bool r) ∧ Below w.heap.size w w' := by
  subst hr
  exact refSameAct_any A c a A' c' b ha0 hb0 w hf hf'
theorem rtoldE (b : BackP) (hb : BackShape b) (w : World) (r : Bool) (hr : toldB b = r) :
    Calls Try.prog 25 #[.agg (backCs b).toArray] w fun e w' => e = .returned (.bool r) ∧ Below w.heap.size w w' := by
  subst hr
  exact refTold_any b hb w
/-- The boxes: the act, b in the second. -/
structure PlSt (w wr : World) (A : Option Addr) (c : Nat) (a : ActP) (A' : Option Addr) (c' : Nat) (b : ActP) : Prop where
  src : Blk wr w.heap.size 33 (actCs A a.frame.length c a).toArray
  box : Blk wr (w.heap.size + 1) 33 (actCs A' b.frame.length c' b).toArray
  bel : Below w.heap.size w wr
  shape : ActShape b
section
variable {w wr w' : World} {A A' A2 : Option Addr} {c c' c2 : Nat} {a b b' : ActP}
theorem PlSt.boxed (h : PlSt w wr A c a A' c' b) (hb : Blk w' (w.heap.size + 1) 33 (actCs A2 b'.frame.length c2 b').toArray) (hg : wr.grownBy w' (some (w.heap.size + 1))) (hs : ActShape b') : PlSt w w' A c a A2 c2 b' :=
  ⟨Blk.grown h.src hg (fun e => by injection e with e; omega), hb, h.bel.grown hg h.bel.size (fun k hk => by injection hk with hk; omega), hs⟩
theorem PlSt.set_ (h : PlSt w wr A c a A' c' b) (k : Nat) (u : Value) (e : (actCs A' b.frame.length c' b).toArray.setIfInBounds k u = (actCs A2 b'.frame.length c2 b').toArray) (hs : ActShape b') : PlSt w (wr.setCell ⟨w.heap.size + 1, k, none⟩ u) A c a A2 c2 b' := by
  refine h.boxed ?_ (grownSet _ ⟨w.heap.size + 1, k, none⟩ u) hs
  have := Blk.set_ h.box k u
  rw [e] at this
  exact this
theorem PlSt.sets (h : PlSt w wr A c a A' c' b) (k : Nat) (vs : List Value) (e : setL (actCs A' b.frame.length c' b).toArray k vs = (actCs A2 b'.frame.length c2 b').toArray) (hs : ActShape b') : PlSt w (wr.setCells (w.heap.size + 1) k vs) A c a A2 c2 b' := by
  refine h.boxed ?_ (grownCells _ (w.heap.size + 1) k vs k (World.grownBy.refl _ _)) hs
  have := Blk.setCells vs k h.box
  rw [e] at this
  exact this
end
theorem aset_op1 (A : Option Addr) (n c : Nat) (a : ActP) (v : Int) : (actCs A n c a).toArray.setIfInBounds 2 (.int .i64 v) = (actCs A n c { a with op := v }).toArray := by
  rw [List.setIfInBounds_toArray]; rfl

set_option maxHeartbeats 2000000 in
set_option maxRecDepth 100000 in
theorem refPlain_any (A : Option Addr) (c : Nat) (a : ActP) (ha0 : ActShape a) (w : World) (hf : BS w w.heap.size A a.frame) :
    Calls Try.prog 15 #[.agg (actCs A a.frame.length c a).toArray] w fun e w' => e = .returned (.bool (plainB a)) ∧ Below w.heap.size w w' := by
  have ha := Lib.hid ha0
  have HF := Lib.hid hf
  clear ha0 hf
  obtain ⟨W0, hW0⟩ : ∃ W, W = w.alloc (.cells (actCs A a.frame.length c a).toArray 33) := ⟨_, rfl⟩
  obtain ⟨W2, hW2⟩ : ∃ W, W = W0.alloc (.cells (actCs none 0 0 act0).toArray 33) := ⟨_, rfl⟩
  obtain ⟨a1, ha1⟩ : ∃ b : ActP, b = { act0 with kind := a.kind } := ⟨_, rfl⟩
  obtain ⟨W3, hW3⟩ : ∃ W, W = W2.setCells W0.heap.size 0 (actCs none 0 0 a1) := ⟨_, rfl⟩
  have hs0 : W0.heap.size = w.heap.size + 1 := by rw [hW0]; simp
  have hS1 : ActShape a1 := by rw [ha1]; exact ⟨back0_shape, by show (0 : Nat) < 18446744073709551616; decide⟩
  have hX0 : Blk W0 w.heap.size 33 (actCs A a.frame.length c a).toArray := by rw [hW0]; exact Blk.new w _ _ _ rfl
  have hB0 : Below w.heap.size w W0 := by rw [hW0]; exact (Below.refl _ _).alloc (Nat.le_refl _) _
  obtain ⟨hth, hbx, hbe⟩ := boxed W0 W2 W3 33 (actCs none 0 0 act0) (actCs none 0 0 a1) (by rw [act_len hS1, act_len act0_shape]) hW2 hW3
  have h3 : PlSt w W3 A c a none 0 a1 := ⟨Blk.below hX0 hbe hX0.lt, by rw [← hs0, show a1.frame.length = 0 by rw [ha1]; rfl]; exact hbx, hB0.trans (hbe.mono hB0.size), hS1⟩
  have d0 := ca_kind hX0
  have H3 := Lib.hid h3
  have Ha1 := Lib.hid ha1
  have HW0 := Lib.hid hW0
  rw [act0_lit] at hW2
  have HW2 := Lib.hid hW2
  have HW3 := Lib.hid hW3
  have Hs0 := Lib.hid hs0
  have Hth := Lib.hid hth
  have Hlit : Hid ((actCs none 0 0 a1).toArray = #[.int .i64 a.kind, .slice none 0 0, .int .i64 0, .string ⟨#[]⟩, .bool false, .int .u8 0, .int .u8 0, .int .u8 0, .int .u8 0, .int .u8 0, .int .u8 0, .int .u8 0, .int .u8 0, .int .u8 0, .int .u8 0, .int .u8 0, .int .u8 0, .int .u8 0, .int .u8 0, .int .u8 0, .int .u8 0, .int .i64 0, .int .u8 0, .int .u8 0, .int .u8 0, .int .u8 0, .int .u8 0, .int .u8 0, .float .f64 0, .bool false, .string ⟨#[]⟩, .float .f64 0, .string ⟨#[]⟩, .bool false]) := by show _ = _; rw [ha1]; rfl
  have Hsz : Hid ((Try.prog.info? 33).map (·.size) = some (actCs none 0 0 a1).toArray.size) := act_sz hS1
  clear hW0 hW2 hW3 ha1 hs0 hS1 hX0 hB0 hth hbx hbe h3
  go_enter Try.func15, Try.ntmps15
  go_upto_region 1 with fail
  rw [← HW0.out]
  go_upto_region 2 with (first
    | (rw [← HW2.out]; (with_reducible refine gateS 33 ?_); rw [← Hlit.out]; refine wpList_store_mid rfl 33 (.tmp 3) (.tmp 7) rfl W0.heap.size 0 (actCs none 0 0 a1).toArray rfl rfl Hth.out Hsz.out (act_one _ _ _ _) ?_))
  rw [← HW3.out]
  rw [Hs0.out]
  clear HW0 HW2 HW3 Hth Hlit Hsz Hs0 d0
  have d0 := ca_kind H3.out.src
  rcases k1 : (a.kind == 1) with _ | _
  rotate_left
  · have Hk : Hid (a.kind = 1) := by show _ = _; simpa using k1
    obtain ⟨b, hb⟩ : ∃ b : ActP, b = { act0 with kind := a.kind, frame := a.frame } := ⟨_, rfl⟩
    have hSb : ActShape b := by rw [hb]; exact ⟨back0_shape, by show (0 : Nat) < 18446744073709551616; decide⟩
    have s1 := ca_frame H3.out.src
    have dx := ca_frame H3.out.box
    have df := H3.out.box.frozen 1
    obtain ⟨W4, hW4⟩ : ∃ W, W = W3.setCell ⟨w.heap.size + 1, 1, none⟩ (.slice A a.frame.length c) := ⟨_, rfl⟩
    have H40 : PlSt w W4 A c a A c b := by
      rw [hW4]
      refine H3.out.set_ 1 (.slice A a.frame.length c) ?_ hSb
      rw [show (actCs none a1.frame.length 0 a1).toArray.setIfInBounds 1 (.slice A a.frame.length c) = _ from aset_frame A a.frame.length c a.frame, Ha1.out, hb]
    have H4 := Lib.hid H40
    have QW4 := Lib.hid hW4
    have Pb := Lib.hid hb
    clear H40 hW4 hb hSb
    go_upto_region 4 with fail
    rw [← QW4.out]
    clear QW4 s1 dx df
    have Hbo : Hid (b = onlyA a) := by show _ = _; rw [Pb.out]; unfold onlyA; rw [if_pos Hk.out]
    have Hbf : Hid (b.frame = a.frame) := by show _ = _; rw [Pb.out]
    clear d0
    obtain ⟨s, hsm⟩ : ∃ s, sameActB a b = s := ⟨_, rfl⟩
    have Hsm := Lib.hid hsm
    have Hpl : Hid (plainB a = (s && decide (a.frame.length ≤ 131072))) := by show _ = _; rw [plain_k1 Hk.out, ← Hbo.out, hsm]
    clear hsm
    have RX := Lib.hid (blk_range H4.out.src)
    have RB := Lib.hid (blk_range H4.out.box)
    go_wp2_with (first
      | ((with_reducible refine gateL 33 ?_); refine wpList_load_g (by rfl) 33 (.tmp 1) rfl w.heap.size 0 rfl (actCs A a.frame.length c a) _ RX.out act_under rfl (act_sz ha.out) ?_)
      | ((with_reducible refine gateL 33 ?_); refine wpList_load_g (by rfl) 33 (.tmp 3) rfl (w.heap.size + 1) 0 rfl (actCs A b.frame.length c b) _ RB.out act_under rfl (act_sz H4.out.shape) ?_))
    refine (rsameActE A c a A c b ha.out H4.out.shape W4 ((HF.out.below H4.out.bel).more H4.out.bel.size) (by rw [Hbf.out]; exact (HF.out.below H4.out.bel).more H4.out.bel.size) s Hsm.out).mono ?_
    rintro e w9 ⟨rfl, hb9⟩
    have HX9 := Lib.hid (Blk.below H4.out.src hb9 H4.out.src.lt)
    have HB9 : Hid (Below w.heap.size w w9) := H4.out.bel.trans (hb9.mono H4.out.bel.size)
    clear hb9 RX RB
    have d1 := ca_frame HX9.out
    rcases s with _ | _
    · go_wp2
      go_ret
      exact ⟨by rw [Hpl.out]; first | done | rfl, HB9.out⟩
    · skip
      by_cases h0 : a.frame.length ≤ 131072
      rotate_left
      · have q : ¬ ((a.frame.length : Int) ≤ 131072) := by omega
        have Hr : Hid (plainB a = false) := by show _ = _; rw [Hpl.out]; simp only [decide_eq_false h0, Bool.false_and, Bool.and_false, Bool.true_and]
        clear h0
        go_wp2
        go_ret
        exact ⟨by rw [Hr.out]; first | done | rfl | (rw [decide_eq_false (show ¬ ((a.frame.length : Int) ≤ 131072) by omega)]; rfl), HB9.out⟩
      have q0 : (a.frame.length : Int) ≤ 131072 := by omega
      have Hr : Hid (plainB a = true) := by show _ = _; rw [Hpl.out]; simp only [decide_eq_true h0, Bool.and_true]
      go_wp2
      go_ret
      exact ⟨by rw [Hr.out]; first | done | rfl | (rw [decide_eq_true (show (a.frame.length : Int) ≤ 131072 by omega)]; rfl), HB9.out⟩
  rcases k2 : (a.kind == 2) with _ | _
  rotate_left
  · have Hk : Hid (a.kind = 2) := by show _ = _; simpa using k2
    have d2 := ca_op H3.out.src
    obtain ⟨b, hb⟩ : ∃ b : ActP, b = { act0 with kind := a.kind, op := a.op } := ⟨_, rfl⟩
    have hSb : ActShape b := by rw [hb]; exact ⟨back0_shape, by show (0 : Nat) < 18446744073709551616; decide⟩
    have s2 := ca_op H3.out.src
    have dx := ca_op H3.out.box
    have df := H3.out.box.frozen 2
    obtain ⟨W4, hW4⟩ : ∃ W, W = W3.setCell ⟨w.heap.size + 1, 2, none⟩ (.int .i64 a.op) := ⟨_, rfl⟩
    have H40 : PlSt w W4 A c a none 0 b := by
      rw [hW4]
      refine H3.out.set_ 2 (.int .i64 a.op) ?_ hSb
      rw [aset_op1, Ha1.out, hb]
    have H4 := Lib.hid H40
    have QW4 := Lib.hid hW4
    have Pb := Lib.hid hb
    clear H40 hW4 hb hSb
    go_upto_region 8 with fail
    rw [← QW4.out]
    clear QW4 s2 dx df
    clear d2
    rcases k3 : (a.op == 1) with _ | _
    rotate_left
    · obtain ⟨b2, hb2⟩ : ∃ b : ActP, b = { act0 with kind := a.kind, op := a.op, back := a.back } := ⟨_, rfl⟩
      have Ho : Hid (a.op = 1) := by show _ = _; simpa using k3
      have hS2 : ActShape b2 := by rw [hb2]; exact ⟨ha.out.back, by show (0 : Nat) < 18446744073709551616; decide⟩
      have Hbo : Hid (b2 = onlyA a) := by
        show _ = _
        rw [hb2]
        unfold onlyA
        rw [if_neg (by have := Hk.out; omega), if_pos Hk.out, if_pos Ho.out]
      obtain ⟨W5, hW5⟩ : ∃ W, W = W4.setCells (w.heap.size + 1) 3 (backCs a.back) := ⟨_, rfl⟩
      have hth : W4.there (w.heap.size + 1) 3 (backCs a.back).toArray.size := H4.out.box.there (by rw [List.size_toArray, List.size_toArray, back_len ha.out.back, act_len H4.out.shape]; decide)
      have h5 : PlSt w W5 A c a none 0 b2 := by
        rw [hW5]
        refine H4.out.sets 3 _ ?_ hS2
        rw [aset_back H4.out.shape a.back ha.out.back, Pb.out, hb2]
      have Hbf : Hid (b2.frame = []) := by show _ = _; rw [hb2]; rfl
      have H5 := Lib.hid h5
      have HW5 := Lib.hid hW5
      have Hth := Lib.hid hth
      have RB := Lib.hid (ca_back H4.out.src ha.out)
      clear hS2 h5 hW5 hth hb2
      go_upto_region 10 with (first
        | ((with_reducible refine gateL 29 ?_); refine wpList_load_g (by rfl) 29 (.tmp 35) rfl w.heap.size 3 rfl (backCs a.back) _ RB.out Try.underlying29 rfl (back_sz ha.out.back) ?_)
        | ((with_reducible refine gateS 29 ?_); refine wpList_store_mid rfl 29 (.tmp 38) (.tmp 36) rfl (w.heap.size + 1) 3 (backCs a.back).toArray rfl rfl Hth.out (back_sz ha.out.back) (back_one _) ?_))
      rw [← HW5.out]
      clear HW5 Hth RB d0
      obtain ⟨s, hsm⟩ : ∃ s, sameActB a b2 = s := ⟨_, rfl⟩
      obtain ⟨t, htl⟩ : ∃ t, toldB a.back = t := ⟨_, rfl⟩
      have Hsm := Lib.hid hsm
      have Htl := Lib.hid htl
      have Hpl : Hid (plainB a = (s && t)) := by show _ = _; rw [plain_k21 Hk.out Ho.out, ← Hbo.out, hsm, htl]
      clear hsm htl
      have RX := Lib.hid (blk_range H5.out.src)
      have RB := Lib.hid (blk_range H5.out.box)
      go_wp2_with (first
        | ((with_reducible refine gateL 33 ?_); refine wpList_load_g (by rfl) 33 (.tmp 1) rfl w.heap.size 0 rfl (actCs A a.frame.length c a) _ RX.out act_under rfl (act_sz ha.out) ?_)
        | ((with_reducible refine gateL 33 ?_); refine wpList_load_g (by rfl) 33 (.tmp 3) rfl (w.heap.size + 1) 0 rfl (actCs none b2.frame.length 0 b2) _ RB.out act_under rfl (act_sz H5.out.shape) ?_))
      refine (rsameActE A c a none 0 b2 ha.out H5.out.shape W5 ((HF.out.below H5.out.bel).more H5.out.bel.size) (by rw [Hbf.out]; exact BS.nil _ _ _) s Hsm.out).mono ?_
      rintro e w9 ⟨rfl, hb9⟩
      have HX9 := Lib.hid (Blk.below H5.out.src hb9 H5.out.src.lt)
      have HB9 : Hid (Below w.heap.size w w9) := H5.out.bel.trans (hb9.mono H5.out.bel.size)
      clear hb9 RX RB
      have RK := Lib.hid (ca_back HX9.out ha.out)
      rcases s with _ | _
      · go_wp2
        go_ret
        exact ⟨by rw [Hpl.out]; first | done | rfl, HB9.out⟩
      · go_wp2_with (first
          | ((with_reducible refine gateL 29 ?_); refine wpList_load_g (by rfl) 29 (.tmp 44) rfl w.heap.size 3 rfl (backCs a.back) _ RK.out Try.underlying29 rfl (back_sz ha.out.back) ?_))
        refine (rtoldE a.back ha.out.back w9 t Htl.out).mono ?_
        rintro e wA ⟨rfl, hbA⟩
        have HBA : Hid (Below w.heap.size w wA) := HB9.out.trans (hbA.mono HB9.out.size)
        clear hbA
        go_wp2
        go_ret
        exact ⟨by rw [Hpl.out]; first | done | rfl, HBA.out⟩
    have Ho : Hid (a.op ≠ 1) := by show _ ≠ _; simpa using k3
    obtain ⟨b3, hb3⟩ : ∃ b : ActP, b = { act0 with kind := a.kind, op := a.op, oname := a.oname } := ⟨_, rfl⟩
    have hSb3 : ActShape b3 := by rw [hb3]; exact ⟨back0_shape, by show (0 : Nat) < 18446744073709551616; decide⟩
    have s30 := ca_oname H4.out.src ha.out
    have dx := ca_oname H4.out.box H4.out.shape
    have df := H4.out.box.frozen 30
    obtain ⟨W5, hW5⟩ : ∃ W, W = W4.setCell ⟨w.heap.size + 1, 30, none⟩ (.string ⟨a.oname.toArray⟩) := ⟨_, rfl⟩
    have H50 : PlSt w W5 A c a none 0 b3 := by
      rw [hW5]
      refine H4.out.set_ 30 (.string ⟨a.oname.toArray⟩) ?_ hSb3
      rw [aset_oname H4.out.shape a.oname, Pb.out, hb3]
    have H5 := Lib.hid H50
    have QW5 := Lib.hid hW5
    have Pb3 := Lib.hid hb3
    clear H50 hW5 hb3 hSb3
    go_upto_region 12 with fail
    rw [← QW5.out]
    clear QW5 s30 dx df
    rcases k4 : (a.op == 3) with _ | _
    rotate_left
    · obtain ⟨b4, hb4⟩ : ∃ b : ActP, b = { act0 with kind := a.kind, op := a.op, oname := a.oname, owt := a.owt } := ⟨_, rfl⟩
      have hSb4 : ActShape b4 := by rw [hb4]; exact ⟨back0_shape, ha.out.owt⟩
      have s31 := ca_owt H5.out.src ha.out
      have dx := ca_owt H5.out.box H5.out.shape
      have df := H5.out.box.frozen 31
      obtain ⟨W6, hW6⟩ : ∃ W, W = W5.setCell ⟨w.heap.size + 1, 31, none⟩ (.float .f64 a.owt) := ⟨_, rfl⟩
      have H60 : PlSt w W6 A c a none 0 b4 := by
        rw [hW6]
        refine H5.out.set_ 31 (.float .f64 a.owt) ?_ hSb4
        rw [aset_owt H5.out.shape a.owt, Pb3.out, hb4]
      have H6 := Lib.hid H60
      have QW6 := Lib.hid hW6
      have Pb4 := Lib.hid hb4
      have hsf := fun (a : Addr) (m : Mode) (n : Nat) (w : World) => run_store_f64 a n m w
      clear H60 hW6 hb4 hSb4
      go_upto_region 14 with fail
      rw [← QW6.out]
      clear QW6 s31 dx df
      clear hsf
      have Hbo : Hid (b4 = onlyA a) := by
        show _ = _
        rw [Pb4.out]
        unfold onlyA
        rw [if_neg (by have := Hk.out; omega), if_pos Hk.out, if_neg (by simpa using k3), if_pos (by simpa using k4)]
      have Hbf : Hid (b4.frame = []) := by show _ = _; rw [Pb4.out]; rfl
      clear d0
      obtain ⟨s, hsm⟩ : ∃ s, sameActB a b4 = s := ⟨_, rfl⟩
      have Hsm := Lib.hid hsm
      have Hpl : Hid (plainB a = (s && (decide (2 ≤ a.op) && (decide (a.op ≤ 5) && decide (a.oname.length ≤ 255))))) := by show _ = _; rw [plain_k2 Hk.out Ho.out, ← Hbo.out, hsm]
      clear hsm
      have RX := Lib.hid (blk_range H6.out.src)
      have RB := Lib.hid (blk_range H6.out.box)
      go_wp2_with (first
        | ((with_reducible refine gateL 33 ?_); refine wpList_load_g (by rfl) 33 (.tmp 1) rfl w.heap.size 0 rfl (actCs A a.frame.length c a) _ RX.out act_under rfl (act_sz ha.out) ?_)
        | ((with_reducible refine gateL 33 ?_); refine wpList_load_g (by rfl) 33 (.tmp 3) rfl (w.heap.size + 1) 0 rfl (actCs none b4.frame.length 0 b4) _ RB.out act_under rfl (act_sz H6.out.shape) ?_))
      refine (rsameActE A c a none 0 b4 ha.out H6.out.shape W6 ((HF.out.below H6.out.bel).more H6.out.bel.size) (by rw [Hbf.out]; exact BS.nil _ _ _) s Hsm.out).mono ?_
      rintro e w9 ⟨rfl, hb9⟩
      have HX9 := Lib.hid (Blk.below H6.out.src hb9 H6.out.src.lt)
      have HB9 : Hid (Below w.heap.size w w9) := H6.out.bel.trans (hb9.mono H6.out.bel.size)
      clear hb9 RX RB
      have d1 := ca_oname HX9.out ha.out
      rcases s with _ | _
      · go_wp2
        go_ret
        exact ⟨by rw [Hpl.out]; first | done | rfl, HB9.out⟩
      · skip
        by_cases h0 : 2 ≤ a.op
        rotate_left
        · have q : ¬ (2 ≤ a.op) := by omega
          have Hr : Hid (plainB a = false) := by show _ = _; rw [Hpl.out]; simp only [decide_eq_false h0, Bool.false_and, Bool.and_false, Bool.true_and]
          clear h0
          go_wp2
          go_ret
          exact ⟨by rw [Hr.out]; first | done | rfl | (rw [decide_eq_false (show ¬ (2 ≤ a.op) by omega)]; rfl), HB9.out⟩
        have q0 : 2 ≤ a.op := by omega
        by_cases h1 : a.op ≤ 5
        rotate_left
        · have q : ¬ (a.op ≤ 5) := by omega
          have Hr : Hid (plainB a = false) := by show _ = _; rw [Hpl.out]; simp only [decide_eq_true h0, decide_eq_false h1, Bool.false_and, Bool.and_false, Bool.true_and]
          clear h1
          go_wp2
          go_ret
          exact ⟨by rw [Hr.out]; first | done | rfl | (rw [decide_eq_false (show ¬ (a.op ≤ 5) by omega)]; rfl), HB9.out⟩
        have q1 : a.op ≤ 5 := by omega
        by_cases h2 : a.oname.length ≤ 255
        rotate_left
        · have q : ¬ ((a.oname.length : Int) ≤ 255) := by omega
          have Hr : Hid (plainB a = false) := by show _ = _; rw [Hpl.out]; simp only [decide_eq_true h0, decide_eq_true h1, decide_eq_false h2, Bool.false_and, Bool.and_false, Bool.true_and]
          clear h2
          go_wp2
          go_ret
          exact ⟨by rw [Hr.out]; first | done | rfl | (rw [decide_eq_false (show ¬ ((a.oname.length : Int) ≤ 255) by omega)]; rfl), HB9.out⟩
        have q2 : (a.oname.length : Int) ≤ 255 := by omega
        have Hr : Hid (plainB a = true) := by show _ = _; rw [Hpl.out]; simp only [decide_eq_true h0, decide_eq_true h1, decide_eq_true h2, Bool.and_true]
        go_wp2
        go_ret
        exact ⟨by rw [Hr.out]; first | done | rfl | (rw [decide_eq_true (show (a.oname.length : Int) ≤ 255 by omega)]; rfl), HB9.out⟩
    · have Hbo : Hid (b3 = onlyA a) := by
        show _ = _
        rw [Pb3.out]
        unfold onlyA
        rw [if_neg (by have := Hk.out; omega), if_pos Hk.out, if_neg (by simpa using k3), if_neg (by simpa using k4)]
      have Hbf : Hid (b3.frame = []) := by show _ = _; rw [Pb3.out]; rfl
      clear d0
      go_upto_region 14 with fail
      obtain ⟨s, hsm⟩ : ∃ s, sameActB a b3 = s := ⟨_, rfl⟩
      have Hsm := Lib.hid hsm
      have Hpl : Hid (plainB a = (s && (decide (2 ≤ a.op) && (decide (a.op ≤ 5) && decide (a.oname.length ≤ 255))))) := by show _ = _; rw [plain_k2 Hk.out Ho.out, ← Hbo.out, hsm]
      clear hsm
      have RX := Lib.hid (blk_range H5.out.src)
      have RB := Lib.hid (blk_range H5.out.box)
      go_wp2_with (first
        | ((with_reducible refine gateL 33 ?_); refine wpList_load_g (by rfl) 33 (.tmp 1) rfl w.heap.size 0 rfl (actCs A a.frame.length c a) _ RX.out act_under rfl (act_sz ha.out) ?_)
        | ((with_reducible refine gateL 33 ?_); refine wpList_load_g (by rfl) 33 (.tmp 3) rfl (w.heap.size + 1) 0 rfl (actCs none b3.frame.length 0 b3) _ RB.out act_under rfl (act_sz H5.out.shape) ?_))
      refine (rsameActE A c a none 0 b3 ha.out H5.out.shape W5 ((HF.out.below H5.out.bel).more H5.out.bel.size) (by rw [Hbf.out]; exact BS.nil _ _ _) s Hsm.out).mono ?_
      rintro e w9 ⟨rfl, hb9⟩
      have HX9 := Lib.hid (Blk.below H5.out.src hb9 H5.out.src.lt)
      have HB9 : Hid (Below w.heap.size w w9) := H5.out.bel.trans (hb9.mono H5.out.bel.size)
      clear hb9 RX RB
      have d1 := ca_oname HX9.out ha.out
      rcases s with _ | _
      · go_wp2
        go_ret
        exact ⟨by rw [Hpl.out]; first | done | rfl, HB9.out⟩
      · skip
        by_cases h0 : 2 ≤ a.op
        rotate_left
        · have q : ¬ (2 ≤ a.op) := by omega
          have Hr : Hid (plainB a = false) := by show _ = _; rw [Hpl.out]; simp only [decide_eq_false h0, Bool.false_and, Bool.and_false, Bool.true_and]
          clear h0
          go_wp2
          go_ret
          exact ⟨by rw [Hr.out]; first | done | rfl | (rw [decide_eq_false (show ¬ (2 ≤ a.op) by omega)]; rfl), HB9.out⟩
        have q0 : 2 ≤ a.op := by omega
        by_cases h1 : a.op ≤ 5
        rotate_left
        · have q : ¬ (a.op ≤ 5) := by omega
          have Hr : Hid (plainB a = false) := by show _ = _; rw [Hpl.out]; simp only [decide_eq_true h0, decide_eq_false h1, Bool.false_and, Bool.and_false, Bool.true_and]
          clear h1
          go_wp2
          go_ret
          exact ⟨by rw [Hr.out]; first | done | rfl | (rw [decide_eq_false (show ¬ (a.op ≤ 5) by omega)]; rfl), HB9.out⟩
        have q1 : a.op ≤ 5 := by omega
        by_cases h2 : a.oname.length ≤ 255
        rotate_left
        · have q : ¬ ((a.oname.length : Int) ≤ 255) := by omega
          have Hr : Hid (plainB a = false) := by show _ = _; rw [Hpl.out]; simp only [decide_eq_true h0, decide_eq_true h1, decide_eq_false h2, Bool.false_and, Bool.and_false, Bool.true_and]
          clear h2
          go_wp2
          go_ret
          exact ⟨by rw [Hr.out]; first | done | rfl | (rw [decide_eq_false (show ¬ ((a.oname.length : Int) ≤ 255) by omega)]; rfl), HB9.out⟩
        have q2 : (a.oname.length : Int) ≤ 255 := by omega
        have Hr : Hid (plainB a = true) := by show _ = _; rw [Hpl.out]; simp only [decide_eq_true h0, decide_eq_true h1, decide_eq_true h2, Bool.and_true]
        go_wp2
        go_ret
        exact ⟨by rw [Hr.out]; first | done | rfl | (rw [decide_eq_true (show (a.oname.length : Int) ≤ 255 by omega)]; rfl), HB9.out⟩
  rcases k5 : (a.kind == 3) with _ | _
  rotate_left
  · have Hk : Hid (a.kind = 3) := by show _ = _; simpa using k5
    obtain ⟨b2, hb2⟩ : ∃ b : ActP, b = { act0 with kind := a.kind, name := a.name } := ⟨_, rfl⟩
    have hSb2 : ActShape b2 := by rw [hb2]; exact ⟨back0_shape, by show (0 : Nat) < 18446744073709551616; decide⟩
    have s32 := ca_name H3.out.src ha.out
    have dx := ca_name H3.out.box H3.out.shape
    have df := H3.out.box.frozen 32
    obtain ⟨W4, hW4⟩ : ∃ W, W = W3.setCell ⟨w.heap.size + 1, 32, none⟩ (.string ⟨a.name.toArray⟩) := ⟨_, rfl⟩
    have H40 : PlSt w W4 A c a none 0 b2 := by
      rw [hW4]
      refine H3.out.set_ 32 (.string ⟨a.name.toArray⟩) ?_ hSb2
      rw [aset_name H3.out.shape a.name, Ha1.out, hb2]
    have H4 := Lib.hid H40
    have QW4 := Lib.hid hW4
    have Pb2 := Lib.hid hb2
    clear H40 hW4 hb2 hSb2
    go_upto_region 17 with fail
    rw [← QW4.out]
    clear QW4 s32 dx df
    obtain ⟨b3, hb3⟩ : ∃ b : ActP, b = { act0 with kind := a.kind, name := a.name, well := a.well } := ⟨_, rfl⟩
    have hSb3 : ActShape b3 := by rw [hb3]; exact ⟨back0_shape, by show (0 : Nat) < 18446744073709551616; decide⟩
    have s33 := ca_well H4.out.src ha.out
    have dx := ca_well H4.out.box H4.out.shape
    have df := H4.out.box.frozen 33
    obtain ⟨W5, hW5⟩ : ∃ W, W = W4.setCell ⟨w.heap.size + 1, 33, none⟩ (.bool a.well) := ⟨_, rfl⟩
    have H50 : PlSt w W5 A c a none 0 b3 := by
      rw [hW5]
      refine H4.out.set_ 33 (.bool a.well) ?_ hSb3
      rw [aset_well H4.out.shape a.well, Pb2.out, hb3]
    have H5 := Lib.hid H50
    have QW5 := Lib.hid hW5
    have Pb3 := Lib.hid hb3
    clear H50 hW5 hb3 hSb3
    go_upto_region 18 with fail
    rw [← QW5.out]
    clear QW5 s33 dx df
    have Hbo : Hid (b3 = onlyA a) := by
      show _ = _
      rw [Pb3.out]
      unfold onlyA
      rw [if_neg (by have := Hk.out; omega), if_neg (by have := Hk.out; omega), if_pos Hk.out]
    have Hbf : Hid (b3.frame = []) := by show _ = _; rw [Pb3.out]; rfl
    clear d0
    obtain ⟨s, hsm⟩ : ∃ s, sameActB a b3 = s := ⟨_, rfl⟩
    have Hsm := Lib.hid hsm
    have Hpl : Hid (plainB a = (s && decide (a.name.length ≤ 255))) := by show _ = _; rw [plain_k3 Hk.out, ← Hbo.out, hsm]
    clear hsm
    have RX := Lib.hid (blk_range H5.out.src)
    have RB := Lib.hid (blk_range H5.out.box)
    go_wp2_with (first
      | ((with_reducible refine gateL 33 ?_); refine wpList_load_g (by rfl) 33 (.tmp 1) rfl w.heap.size 0 rfl (actCs A a.frame.length c a) _ RX.out act_under rfl (act_sz ha.out) ?_)
      | ((with_reducible refine gateL 33 ?_); refine wpList_load_g (by rfl) 33 (.tmp 3) rfl (w.heap.size + 1) 0 rfl (actCs none b3.frame.length 0 b3) _ RB.out act_under rfl (act_sz H5.out.shape) ?_))
    refine (rsameActE A c a none 0 b3 ha.out H5.out.shape W5 ((HF.out.below H5.out.bel).more H5.out.bel.size) (by rw [Hbf.out]; exact BS.nil _ _ _) s Hsm.out).mono ?_
    rintro e w9 ⟨rfl, hb9⟩
    have HX9 := Lib.hid (Blk.below H5.out.src hb9 H5.out.src.lt)
    have HB9 : Hid (Below w.heap.size w w9) := H5.out.bel.trans (hb9.mono H5.out.bel.size)
    clear hb9 RX RB
    have d1 := ca_name HX9.out ha.out
    rcases s with _ | _
    · go_wp2
      go_ret
      exact ⟨by rw [Hpl.out]; first | done | rfl, HB9.out⟩
    · skip
      by_cases h0 : a.name.length ≤ 255
      rotate_left
      · have q : ¬ ((a.name.length : Int) ≤ 255) := by omega
        have Hr : Hid (plainB a = false) := by show _ = _; rw [Hpl.out]; simp only [decide_eq_false h0, Bool.false_and, Bool.and_false, Bool.true_and]
        clear h0
        go_wp2
        go_ret
        exact ⟨by rw [Hr.out]; first | done | rfl | (rw [decide_eq_false (show ¬ ((a.name.length : Int) ≤ 255) by omega)]; rfl), HB9.out⟩
      have q0 : (a.name.length : Int) ≤ 255 := by omega
      have Hr : Hid (plainB a = true) := by show _ = _; rw [Hpl.out]; simp only [decide_eq_true h0, Bool.and_true]
      go_wp2
      go_ret
      exact ⟨by rw [Hr.out]; first | done | rfl | (rw [decide_eq_true (show (a.name.length : Int) ≤ 255 by omega)]; rfl), HB9.out⟩
  rcases k6 : (a.kind == 4) with _ | _
  · have Hr : Hid (plainB a = false) := plain_no (by simpa using k1) (by simpa using k2) (by simpa using k5) (by simpa using k6)
    go_wp2
    go_ret
    exact ⟨by rw [Hr.out]; first | done | rfl, H3.out.bel⟩
  have Hk : Hid (a.kind = 4) := by show _ = _; simpa using k6
  have Hbo : Hid (a1 = onlyA a) := by
    show _ = _
    rw [Ha1.out]
    unfold onlyA
    rw [if_neg (by have := Hk.out; omega), if_neg (by have := Hk.out; omega), if_neg (by have := Hk.out; omega)]
  have Hbf : Hid (a1.frame = []) := by show _ = _; rw [Ha1.out]; rfl
  obtain ⟨s, hsm⟩ : ∃ s, sameActB a a1 = s := ⟨_, rfl⟩
  have Hsm := Lib.hid hsm
  have Hpl : Hid (plainB a = s) := by show _ = _; rw [plain_k4 Hk.out, ← Hbo.out, hsm]
  clear hsm
  have RX := Lib.hid (blk_range H3.out.src)
  have RB := Lib.hid (blk_range H3.out.box)
  go_wp2_with (first
    | ((with_reducible refine gateL 33 ?_); refine wpList_load_g (by rfl) 33 (.tmp 1) rfl w.heap.size 0 rfl (actCs A a.frame.length c a) _ RX.out act_under rfl (act_sz ha.out) ?_)
    | ((with_reducible refine gateL 33 ?_); refine wpList_load_g (by rfl) 33 (.tmp 3) rfl (w.heap.size + 1) 0 rfl (actCs none a1.frame.length 0 a1) _ RB.out act_under rfl (act_sz H3.out.shape) ?_))
  refine (rsameActE A c a none 0 a1 ha.out H3.out.shape W3 ((HF.out.below H3.out.bel).more H3.out.bel.size) (by rw [Hbf.out]; exact BS.nil _ _ _) s Hsm.out).mono ?_
  rintro e w9 ⟨rfl, hb9⟩
  have HX9 := Lib.hid (Blk.below H3.out.src hb9 H3.out.src.lt)
  have HB9 : Hid (Below w.heap.size w w9) := H3.out.bel.trans (hb9.mono H3.out.bel.size)
  clear hb9 RX RB
  rcases s with _ | _
  · go_wp2
    go_ret
    exact ⟨by rw [Hpl.out]; first | done | rfl, HB9.out⟩
  · go_wp2
    go_ret
    exact ⟨by rw [Hpl.out]; first | done | rfl, HB9.out⟩
end Go.Proofs.Ytgohhojoahlfiaa
