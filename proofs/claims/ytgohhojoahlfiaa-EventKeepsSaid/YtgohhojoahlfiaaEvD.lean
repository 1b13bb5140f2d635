/- The document's Of: an event of an act and its outcome (turned from EvC). -/
import Derived.Test.YtgohhojoahlfiaaEvC
namespace Go.Proofs.Ytgohhojoahlfiaa
open Go.RowKit
set_option linter.unusedVariables false
set_option linter.unusedSimpArgs false

set_option maxHeartbeats 4000000 in
set_option maxRecDepth 100000 in
theorem refEof_any (A : Option Addr) (fl c : Nat) (A2 : Option Addr) (ol c2 : Nat) (a : ActP) (o : OutP) (hsa0 : ActShape a) (w : World) (hol0 : ol = o.out.length)
    (ho0 : BS w w.heap.size A2 o.out) (hlo0 : ol ≤ 1000000000) :
    Calls Try.prog 19 #[.agg (actCs A fl c a).toArray, .agg (outCs A2 ol c2 o).toArray] w fun e w' => e = .returned (.agg (evCs A fl c none 0 0 (evOf a o)).toArray) ∧ Below w.heap.size w w' := by
  have Hsa := Lib.hid hsa0
  have Hol := Lib.hid hol0
  have HOw := Lib.hid ho0
  have Hlo := Lib.hid hlo0
  clear hsa0 hol0 ho0 hlo0
  have hS1 : EvShape (evOf0 a o ol) := ⟨Hsa.out, by show (0 : Nat) < _; decide⟩
  obtain ⟨W0, hW0⟩ : ∃ W, W = w.alloc (.cells (actCs A fl c a).toArray 33) := ⟨_, rfl⟩
  obtain ⟨W1, hW1⟩ : ∃ W, W = W0.alloc (.cells (outCs A2 ol c2 o).toArray 36) := ⟨_, rfl⟩
  obtain ⟨W2, hW2⟩ : ∃ W, W = W1.alloc (.cells (evCs none 0 0 none 0 0 ev0).toArray 39) := ⟨_, rfl⟩
  obtain ⟨W3, hW3⟩ : ∃ W, W = W2.alloc (.cells (evCs none 0 0 none 0 0 ev0).toArray 39) := ⟨_, rfl⟩
  obtain ⟨W4, hW4⟩ : ∃ W, W = W3.setCells W2.heap.size 0 (evCs A fl c A2 ol c2 (evOf0 a o ol)) := ⟨_, rfl⟩
  have hs0 : W0.heap.size = w.heap.size + 1 := by rw [hW0]; simp
  have hs1 : W1.heap.size = w.heap.size + 2 := by rw [hW1]; simp [hs0]
  have hs2 : W2.heap.size = w.heap.size + 3 := by rw [hW2]; simp [hs1]
  have hX0 : Blk W0 w.heap.size 33 (actCs A fl c a).toArray := by rw [hW0]; exact Blk.new w _ _ _ rfl
  have hX2 : Blk W2 w.heap.size 33 (actCs A fl c a).toArray := by rw [hW2, hW1]; exact Blk.alloc (Blk.alloc hX0 _) _
  have hY1 : Blk W1 (w.heap.size + 1) 36 (outCs A2 ol c2 o).toArray := by rw [hW1, ← hs0]; exact Blk.new W0 _ _ _ rfl
  have hY2 : Blk W2 (w.heap.size + 1) 36 (outCs A2 ol c2 o).toArray := by rw [hW2]; exact Blk.alloc hY1 _
  have hR2 : Blk W2 (w.heap.size + 2) 39 (evCs none 0 0 none 0 0 ev0).toArray := by rw [hW2, ← hs1]; exact Blk.new W1 _ _ _ rfl
  have hB2 : Below w.heap.size w W2 := by rw [hW2, hW1, hW0]; exact (((Below.refl _ _).alloc (Nat.le_refl _) _).alloc (by simp) _).alloc (by simp; omega) _
  obtain ⟨hth, hbx, hbe⟩ := boxed W2 W3 W4 39 (evCs none 0 0 none 0 0 ev0) (evCs A fl c A2 ol c2 (evOf0 a o ol)) (by rw [ev_len hS1, ev_len ev0_shape]) hW3 hW4
  have h4 : FSt w W4 A fl c A2 ol c2 a o A fl c A2 ol c2 (evOf0 a o ol) := ⟨Blk.below hX2 hbe hX2.lt, Blk.below hY2 hbe hY2.lt, Blk.below hR2 hbe hR2.lt, by rw [← hs2]; exact hbx, hB2.trans (hbe.mono hB2.size), hS1⟩
  have d5 := co_out hY2
  have RS := Lib.hid (blk_range hX2)
  have RO := Lib.hid (blk_range hY2)
  have H4 := Lib.hid h4
  have HW0 := Lib.hid hW0
  have HW1 := Lib.hid hW1
  rw [ev0_lit] at hW2 hW3
  have HW2 := Lib.hid hW2
  have HW3 := Lib.hid hW3
  have HW4 := Lib.hid hW4
  have Hs2 := Lib.hid hs2
  have Hth := Lib.hid hth
  have Hbuilt := Lib.hid (ev_built A fl c A2 ol c2 a o Hsa.out)
  have Hsz : Hid ((Try.prog.info? 39).map (·.size) = some (evCs A fl c A2 ol c2 (evOf0 a o ol)).toArray.size) := ev_sz hS1
  clear hW0 hW1 hW2 hW3 hW4 hs0 hs1 hs2 hS1 hX0 hX2 hY1 hY2 hR2 hB2 hth hbx hbe h4
  go_enter Try.func19, Try.ntmps19
  go_upto_region 1 with fail
  rw [← HW0.out]
  rw [← HW1.out]
  rw [← HW2.out]
  go_upto_region 2 with (first
    | ((with_reducible refine gateL 33 ?_); refine wpList_load_g (by rfl) 33 (.tmp 2) rfl w.heap.size 0 rfl (actCs A fl c a) _ RS.out Try.underlying33 rfl (act_sz Hsa.out) ?_)
    | ((with_reducible refine gateL 36 ?_); refine wpList_load_g (by rfl) 36 (.tmp 3) rfl (w.heap.size + 1) 0 rfl (outCs A2 ol c2 o) _ RO.out Try.underlying36 rfl out_sz ?_)
    | ((with_reducible refine gateD 39 ?_); refine wpList_build_c (by rfl) 39 _ rfl (evCs A fl c A2 ol c2 (evOf0 a o ol)).toArray (by simp only [List.map_toArray, List.map_cons, List.map_nil]; exact Hbuilt.out) ?_)
    | (rw [← HW3.out]; (with_reducible refine gateS 39 ?_); refine wpList_store_mid rfl 39 (.tmp 5) (.tmp 11) rfl W2.heap.size 0 (evCs A fl c A2 ol c2 (evOf0 a o ol)).toArray rfl rfl Hth.out Hsz.out (ev_one _ _ _ _ _ _ _) ?_))
  rw [← HW4.out]
  rw [Hs2.out]
  clear HW0 HW1 HW2 HW3 HW4 Hth Hsz Hs2 d5 RS RO Hbuilt
  have dx := ce_outs H4.out.box H4.out.shape
  have df := H4.out.box.frozen 39
  obtain ⟨ev1, hev1⟩ : ∃ e : EvP, e = evOf0 a { o with out := [] } ol := ⟨_, rfl⟩
  have hS1 : EvShape ev1 := by rw [hev1]; exact ⟨Hsa.out, by show (0 : Nat) < _; decide⟩
  have h7 : FSt w (W4.setCell ⟨w.heap.size + 3, 39, none⟩ (.slice none 0 0)) A fl c A2 ol c2 a o A fl c none 0 0 ev1 := H4.out.set_ 39 (.slice none 0 0) (by rw [eset_out H4.out.shape, hev1]; rfl) hS1
  obtain ⟨W7, hW7⟩ : ∃ W, W = W4.setCell ⟨w.heap.size + 3, 39, none⟩ (.slice none 0 0) := ⟨_, rfl⟩
  rw [← hW7] at h7
  have HW7 := Lib.hid hW7
  have H7 := Lib.hid h7
  have Hev1 := Lib.hid hev1
  clear hS1 h7 hW7 hev1
  go_upto_region 3 with fail
  rw [← HW7.out]
  clear dx df HW7 H4
  have do5 := co_out H7.out.out
  rcases Nat.eq_zero_or_pos ol with h0 | h0
  · subst h0
    have hbo : ev1 = evOf a o := by
      have := Hol.out
      rw [Hev1.out]
      unfold evOf0 evOf
      rw [← this]
      simp
    have RF := Lib.hid (blk_range H7.out.box)
    have Hthr : Hid (W7.there (w.heap.size + 2) 0 (evCs A fl c none 0 0 ev1).toArray.size) := H7.out.res.there (by rw [List.size_toArray, List.size_toArray, ev_len H7.out.shape, ev_len ev0_shape]; decide)
    have Hszr : Hid ((Try.prog.info? 39).map (·.size) = some (evCs A fl c none 0 0 ev1).toArray.size) := ev_sz H7.out.shape
    have HG := Lib.hid H7.out.goodBlk
    have Hbo := Lib.hid hbo
    clear hbo
    go_wp2_with (first
      | ((with_reducible refine gateL 39 ?_); refine wpList_load_g (by rfl) 39 (.tmp 5) rfl (w.heap.size + 3) 0 rfl (evCs A fl c none 0 0 ev1) _ RF.out Try.underlying39 rfl (ev_sz H7.out.shape) ?_)
      | ((with_reducible refine gateS 39 ?_); refine wpList_store_mid rfl 39 (.tmp 4) (.tmp 22) rfl (w.heap.size + 2) 0 (evCs A fl c none 0 0 ev1).toArray rfl rfl Hthr.out Hszr.out (ev_one _ _ _ _ _ _ _) ?_))
    refine bodyPost_ret (v := .agg (evCs A fl c none 0 0 ev1).toArray) (results_row1 (P := Try.prog) (p := 4) rfl _ _ (w.heap.size + 2) _ _ _ rfl HG.out ev_under rfl Hszr.out) rfl ⟨by rw [Hbo.out], below_setCells (by omega) _ _ H7.out.bel⟩
  · have hI : (0 : Int) < (ol : Int) := by omega
    go_wp2_with fail
    refine (refOf_eq (x := ofS o.out) A2 ol c2 o.out W7 w.heap.size Hol.out (HOw.out.below H7.out.bel) (by have := Hlo.out; unfold maxLen; omega) rfl).mono ?_
    rintro e w8 ⟨rfl, hw8⟩
    have hb8 : Below W7.heap.size W7 w8 := hw8 ▸ Below.refl _ _
    clear hw8
    obtain ⟨X, hX⟩ : ∃ X, X = ofS o.out := ⟨_, rfl⟩
    rw [← hX]
    have H8 := Lib.hid (H7.out.below hb8)
    clear do5 hb8 H7
    have hXl : X < 4294967296 := by rw [hX]; exact ofS_lt _
    obtain ⟨ev2, hev2⟩ : ∃ e : EvP, e = { ev1 with sum := X } := ⟨_, rfl⟩
    have hS2 : EvShape ev2 := by rw [hev2]; exact ⟨H8.out.shape.act, hXl⟩
    have hbo : ev2 = evOf a o := by
      have := Hol.out
      rw [hev2, Hev1.out, hX]
      unfold evOf0 evOf
      rw [← this, if_pos h0]
    have h9 : FSt w (w8.setCell ⟨w.heap.size + 3, 41, none⟩ (.int .u32 (X : Int))) A fl c A2 ol c2 a o A fl c none 0 0 ev2 := H8.out.set_ 41 (.int .u32 (X : Int)) (by rw [eset_sum H8.out.shape, hev2]) hS2
    obtain ⟨W9, hW9⟩ : ∃ W, W = w8.setCell ⟨w.heap.size + 3, 41, none⟩ (.int .u32 (X : Int)) := ⟨_, rfl⟩
    rw [← hW9] at h9
    have dx : w8.cell? ⟨w.heap.size + 3, 41, none⟩ = some (.int .u32 0) := by rw [ce_sum H8.out.box H8.out.shape, Hev1.out]; rfl
    have df := H8.out.box.frozen 41
    have HW9 := Lib.hid hW9
    have H9 := Lib.hid h9
    have Hbo := Lib.hid hbo
    clear hX hXl hev2 hS2 hbo h9 hW9
    go_upto_region 5 with fail
    rw [← HW9.out]
    clear dx df HW9 H8
    have RF := Lib.hid (blk_range H9.out.box)
    have Hthr : Hid (W9.there (w.heap.size + 2) 0 (evCs A fl c none 0 0 ev2).toArray.size) := H9.out.res.there (by rw [List.size_toArray, List.size_toArray, ev_len H9.out.shape, ev_len ev0_shape]; decide)
    have Hszr : Hid ((Try.prog.info? 39).map (·.size) = some (evCs A fl c none 0 0 ev2).toArray.size) := ev_sz H9.out.shape
    have HG := Lib.hid H9.out.goodBlk
    go_wp2_with (first
      | ((with_reducible refine gateL 39 ?_); refine wpList_load_g (by rfl) 39 (.tmp 5) rfl (w.heap.size + 3) 0 rfl (evCs A fl c none 0 0 ev2) _ RF.out Try.underlying39 rfl (ev_sz H9.out.shape) ?_)
      | ((with_reducible refine gateS 39 ?_); refine wpList_store_mid rfl 39 (.tmp 4) (.tmp 22) rfl (w.heap.size + 2) 0 (evCs A fl c none 0 0 ev2).toArray rfl rfl Hthr.out Hszr.out (ev_one _ _ _ _ _ _ _) ?_))
    refine bodyPost_ret (v := .agg (evCs A fl c none 0 0 ev2).toArray) (results_row1 (P := Try.prog) (p := 4) rfl _ _ (w.heap.size + 2) _ _ _ rfl HG.out ev_under rfl Hszr.out) rfl ⟨by rw [Hbo.out], below_setCells (by omega) _ _ H9.out.bel⟩
end Go.Proofs.Ytgohhojoahlfiaa
