/- ConfPuts: a config's bytes, or why it has none (printed by gen_cputs.py). -/
import Derived.Test.YtmkeljcjhcaigaaRPut
import Derived.Deep.Cut
import Derived.Deep.CutRange
namespace Go.Proofs.Ytmkeljcjhcaigaa
open Go.RowKit
set_option linter.unusedVariables false
set_option linter.unusedSimpArgs false

theorem rrightD (A : Option Addr) (c : Nat) (f : ConfP) (hs : ConfShape f) (w : World) (hv : VS w w.heap.size A f.vips) (hl : f.vips.length ≤ 1000000) (b : Bool) (hr : rightB f = b) :
    Calls Try.prog 17 #[.agg (confCs A f.vips.length c f).toArray] w fun e w' => e = .returned (.bool b) ∧ Below w.heap.size w w' := by
  subst hr
  exact refRight_any A _ c f hs w rfl hv hl
theorem rputD (A : Option Addr) (c : Nat) (f : ConfP) (hf : ConfShape f) (w : World) (hnc : f.vips.length ≤ c) (hb : VS w w.heap.size A f.vips) (hr : rightB f = true) (m : List UInt8) (hm : confPutS f = m) :
    Calls Try.prog 21 #[.agg (confCs A f.vips.length c f).toArray] w fun e w' => ∃ A' c', e = .returned (.slice A' m.length c') ∧ w'.ownsRow w.heap.size 5 1 (.slice A' m.length c') m.length (bcells m) ∧ Below w.heap.size w w' := by
  subst hm
  exact rputC_any A c f hf w hnc hb hr

set_option maxHeartbeats 2000000 in
set_option maxRecDepth 100000 in
theorem walk_confPuts (w : World) (A : Option Addr) (n c : Nat) (f : ConfP) (hn : n = f.vips.length) (hnc : n ≤ c) (hm : n ≤ maxLen) (hb : VS w w.heap.size A f.vips) (hs : ConfShape f) :
    Calls Try.prog 4 #[confV A n c f] w fun e w' => e = .returned (.bool true) ∧ Below w.heap.size w w' := by
  subst hn
  unfold confV
  obtain ⟨W, hW⟩ : ∃ W, W = w.alloc (.cells (confCs A f.vips.length c f).toArray 29) := ⟨_, rfl⟩
  have H1 : Hid (Blk W w.heap.size 29 (confCs A f.vips.length c f).toArray) := by rw [hW]; exact Blk.new w _ _ _ rfl
  have hB : Below w.heap.size w W := by rw [hW]; exact (Below.refl _ _).alloc (Nat.le_refl _) _
  have Bw := Lib.hid hB
  have Hv := Lib.hid ((hb.below hB).more hB.size)
  have Hs := Lib.hid hs
  have HW := Lib.hid hW
  unfold maxLen at hm
  clear hW hB hb hs
  by_cases hf : f.vips.length ≤ 100
  rotate_left
  · go_enter Try.func4, Try.ntmps4
    go_upto_region 1 with fail
    rw [← HW.out]
    clear HW
    go_wp2_with fail
    refine (awake22 W).mono ?_
    rintro e w1 ⟨rfl, hb1⟩
    have Hb1 := Lib.hid hb1
    clear hb1
    have H1' := Lib.hid (Blk.below H1.out Hb1.out H1.out.lt)
    clear H1
    have H1 := H1'
    clear H1'
    have Hv' := Lib.hid ((Hv.out.below Hb1.out).more Hb1.out.size)
    clear Hv
    have Hv := Hv'
    clear Hv'
    have Bw' : Hid (Below w.heap.size w w1) := Bw.out.trans (Hb1.out.mono Bw.out.size)
    clear Bw
    have Bw := Bw'
    clear Bw'
    clear Hb1
    have R1 := Lib.hid (blk_range H1.out)
    go_wp2_with (first
      | ((with_reducible refine gateL 29 ?_); refine wpList_load_g (by rfl) 29 (.tmp 1) rfl w.heap.size 0 rfl (confCs A f.vips.length c f) _ R1.out conf_under rfl (conf_szL Hs.out) ?_))
    clear R1
    refine (few_no A f.vips.length c f hf w1).mono ?_
    rintro e w2 ⟨rfl, hb2⟩
    have Hb2 := Lib.hid hb2
    clear hb2
    have H1' := Lib.hid (Blk.below H1.out Hb2.out H1.out.lt)
    clear H1
    have H1 := H1'
    clear H1'
    have Hv' := Lib.hid ((Hv.out.below Hb2.out).more Hb2.out.size)
    clear Hv
    have Hv := Hv'
    clear Hv'
    have Bw' : Hid (Below w.heap.size w w2) := Bw.out.trans (Hb2.out.mono Bw.out.size)
    clear Bw
    have Bw := Bw'
    clear Bw'
    clear Hb2
    go_wp2_with fail
    refine (awake22 w2).mono ?_
    rintro e wz ⟨rfl, hb3⟩
    have Hb3 := Lib.hid hb3
    clear hb3
    have H1' := Lib.hid (Blk.below H1.out Hb3.out H1.out.lt)
    clear H1
    have H1 := H1'
    clear H1'
    have Hv' := Lib.hid ((Hv.out.below Hb3.out).more Hb3.out.size)
    clear Hv
    have Hv := Hv'
    clear Hv'
    have Bw' : Hid (Below w.heap.size w wz) := Bw.out.trans (Hb3.out.mono Bw.out.size)
    clear Bw
    have Bw := Bw'
    clear Bw'
    clear Hb3
    go_wp2
    go_ret
    exact ⟨rfl, Bw.out⟩
  rcases hr : rightB f with _ | _
  · have Hr := Lib.hid hr
    clear hr
    go_enter Try.func4, Try.ntmps4
    go_upto_region 1 with fail
    rw [← HW.out]
    clear HW
    go_wp2_with fail
    refine (awake22 W).mono ?_
    rintro e w1 ⟨rfl, hb4⟩
    have Hb4 := Lib.hid hb4
    clear hb4
    have H1' := Lib.hid (Blk.below H1.out Hb4.out H1.out.lt)
    clear H1
    have H1 := H1'
    clear H1'
    have Hv' := Lib.hid ((Hv.out.below Hb4.out).more Hb4.out.size)
    clear Hv
    have Hv := Hv'
    clear Hv'
    have Bw' : Hid (Below w.heap.size w w1) := Bw.out.trans (Hb4.out.mono Bw.out.size)
    clear Bw
    have Bw := Bw'
    clear Bw'
    clear Hb4
    have R1 := Lib.hid (blk_range H1.out)
    go_wp2_with (first
      | ((with_reducible refine gateL 29 ?_); refine wpList_load_g (by rfl) 29 (.tmp 1) rfl w.heap.size 0 rfl (confCs A f.vips.length c f) _ R1.out conf_under rfl (conf_szL Hs.out) ?_))
    clear R1
    refine (few_yes A f.vips.length c f hf w1).mono ?_
    rintro e w2 ⟨rfl, hb5⟩
    have Hb5 := Lib.hid hb5
    clear hb5
    have H1' := Lib.hid (Blk.below H1.out Hb5.out H1.out.lt)
    clear H1
    have H1 := H1'
    clear H1'
    have Hv' := Lib.hid ((Hv.out.below Hb5.out).more Hb5.out.size)
    clear Hv
    have Hv := Hv'
    clear Hv'
    have Bw' : Hid (Below w.heap.size w w2) := Bw.out.trans (Hb5.out.mono Bw.out.size)
    clear Bw
    have Bw := Bw'
    clear Bw'
    clear Hb5
    have R1 := Lib.hid (blk_range H1.out)
    go_wp2_with (first
      | ((with_reducible refine gateL 29 ?_); refine wpList_load_g (by rfl) 29 (.tmp 1) rfl w.heap.size 0 rfl (confCs A f.vips.length c f) _ R1.out conf_under rfl (conf_szL Hs.out) ?_))
    clear R1
    refine (putC_no A c f Hs.out w2 Hr.out hnc Hv.out (by omega)).mono ?_
    rintro e w3 ⟨rfl, hb6⟩
    have Hb6 := Lib.hid hb6
    clear hb6
    have H1' := Lib.hid (Blk.below H1.out Hb6.out H1.out.lt)
    clear H1
    have H1 := H1'
    clear H1'
    have Hv' := Lib.hid ((Hv.out.below Hb6.out).more Hb6.out.size)
    clear Hv
    have Hv := Hv'
    clear Hv'
    have Bw' : Hid (Below w.heap.size w w3) := Bw.out.trans (Hb6.out.mono Bw.out.size)
    clear Bw
    have Bw := Bw'
    clear Bw'
    clear Hb6
    have R1 := Lib.hid (blk_range H1.out)
    go_wp2_with (first
      | ((with_reducible refine gateL 29 ?_); refine wpList_load_g (by rfl) 29 (.tmp 1) rfl w.heap.size 0 rfl (confCs A f.vips.length c f) _ R1.out conf_under rfl (conf_szL Hs.out) ?_))
    clear R1
    refine (rrightD A c f Hs.out w3 Hv.out (by omega) false Hr.out).mono ?_
    rintro e w4 ⟨rfl, hb7⟩
    have Hb7 := Lib.hid hb7
    clear hb7
    have H1' := Lib.hid (Blk.below H1.out Hb7.out H1.out.lt)
    clear H1
    have H1 := H1'
    clear H1'
    have Hv' := Lib.hid ((Hv.out.below Hb7.out).more Hb7.out.size)
    clear Hv
    have Hv := Hv'
    clear Hv'
    have Bw' : Hid (Below w.heap.size w w4) := Bw.out.trans (Hb7.out.mono Bw.out.size)
    clear Bw
    have Bw := Bw'
    clear Bw'
    clear Hb7
    go_wp2
    go_ret
    exact ⟨rfl, Bw.out⟩
  · obtain ⟨m, hmm⟩ : ∃ m, m = confPutS f := ⟨_, rfl⟩
    have Hmm := Lib.hid hmm.symm
    have Hr := Lib.hid hr
    clear hr hmm
    go_enter Try.func4, Try.ntmps4
    go_upto_region 1 with fail
    rw [← HW.out]
    clear HW
    go_wp2_with fail
    refine (awake22 W).mono ?_
    rintro e w1 ⟨rfl, hb8⟩
    have Hb8 := Lib.hid hb8
    clear hb8
    have H1' := Lib.hid (Blk.below H1.out Hb8.out H1.out.lt)
    clear H1
    have H1 := H1'
    clear H1'
    have Hv' := Lib.hid ((Hv.out.below Hb8.out).more Hb8.out.size)
    clear Hv
    have Hv := Hv'
    clear Hv'
    have Bw' : Hid (Below w.heap.size w w1) := Bw.out.trans (Hb8.out.mono Bw.out.size)
    clear Bw
    have Bw := Bw'
    clear Bw'
    clear Hb8
    have R1 := Lib.hid (blk_range H1.out)
    go_wp2_with (first
      | ((with_reducible refine gateL 29 ?_); refine wpList_load_g (by rfl) 29 (.tmp 1) rfl w.heap.size 0 rfl (confCs A f.vips.length c f) _ R1.out conf_under rfl (conf_szL Hs.out) ?_))
    clear R1
    refine (few_yes A f.vips.length c f hf w1).mono ?_
    rintro e w2 ⟨rfl, hb9⟩
    have Hb9 := Lib.hid hb9
    clear hb9
    have H1' := Lib.hid (Blk.below H1.out Hb9.out H1.out.lt)
    clear H1
    have H1 := H1'
    clear H1'
    have Hv' := Lib.hid ((Hv.out.below Hb9.out).more Hb9.out.size)
    clear Hv
    have Hv := Hv'
    clear Hv'
    have Bw' : Hid (Below w.heap.size w w2) := Bw.out.trans (Hb9.out.mono Bw.out.size)
    clear Bw
    have Bw := Bw'
    clear Bw'
    clear Hb9
    have R1 := Lib.hid (blk_range H1.out)
    go_wp2_with (first
      | ((with_reducible refine gateL 29 ?_); refine wpList_load_g (by rfl) 29 (.tmp 1) rfl w.heap.size 0 rfl (confCs A f.vips.length c f) _ R1.out conf_under rfl (conf_szL Hs.out) ?_))
    clear R1
    refine (putC_yes A c f Hs.out w2 Hr.out hnc Hv.out (by omega) m Hmm.out).mono ?_
    rintro e w3 ⟨A3, c3, rfl, hown3, hb10⟩
    have Hb10 := Lib.hid hb10
    clear hb10
    have Ho := Lib.hid (BS.of_own hown3).1
    clear hown3
    have H1' := Lib.hid (Blk.below H1.out Hb10.out H1.out.lt)
    clear H1
    have H1 := H1'
    clear H1'
    have Hv' := Lib.hid ((Hv.out.below Hb10.out).more Hb10.out.size)
    clear Hv
    have Hv := Hv'
    clear Hv'
    have Bw' : Hid (Below w.heap.size w w3) := Bw.out.trans (Hb10.out.mono Bw.out.size)
    clear Bw
    have Bw := Bw'
    clear Bw'
    clear Hb10
    have R1 := Lib.hid (blk_range H1.out)
    go_wp2_with (first
      | ((with_reducible refine gateL 29 ?_); refine wpList_load_g (by rfl) 29 (.tmp 1) rfl w.heap.size 0 rfl (confCs A f.vips.length c f) _ R1.out conf_under rfl (conf_szL Hs.out) ?_))
    clear R1
    refine (rrightD A c f Hs.out w3 Hv.out (by omega) true Hr.out).mono ?_
    rintro e w4 ⟨rfl, hb11⟩
    have Hb11 := Lib.hid hb11
    clear hb11
    have H1' := Lib.hid (Blk.below H1.out Hb11.out H1.out.lt)
    clear H1
    have H1 := H1'
    clear H1'
    have Hv' := Lib.hid ((Hv.out.below Hb11.out).more Hb11.out.size)
    clear Hv
    have Hv := Hv'
    clear Hv'
    have Ho' := Lib.hid ((Ho.out.below Hb11.out).more Hb11.out.size)
    clear Ho
    have Ho := Ho'
    clear Ho'
    have Bw' : Hid (Below w.heap.size w w4) := Bw.out.trans (Hb11.out.mono Bw.out.size)
    clear Bw
    have Bw := Bw'
    clear Bw'
    clear Hb11
    go_upto_region 6 with fail
    refine wp_region_noPanic ?_
    refine wp_region_held_drew (S := fun w' => Below w4.heap.size w4 w') (by kernel_rfl) ((Below.refl _ _).drew) (fun hHeld => ?_)
    refine wpAnyH_take (i := 0) (v := ?_) rfl (by kernel_rfl) (by kernel_rfl) (by kernel_rfl) (fun _ _ _ h => h) (Or.inl ⟨by rfl, ?_⟩) hHeld ?_
    rotate_left
    · intro w' hSw
      skip
      go_simp
      try with_reducible rfl
    try (simp only [Act.put, List.getElem_toArray, List.getElem_cons_succ, List.getElem_cons_zero, List.setIfInBounds_toArray, List.set_cons_zero, List.set_cons_succ])
    refine wpAnyH_take (i := 1) (v := ?_) rfl (by kernel_rfl) (by kernel_rfl) (by kernel_rfl) (fun _ _ _ h => h) (Or.inl ⟨by rfl, ?_⟩) hHeld ?_
    rotate_left
    · intro w' hSw
      skip
      go_simp
      try with_reducible rfl
    try (simp only [Act.put, List.getElem_toArray, List.getElem_cons_succ, List.getElem_cons_zero, List.setIfInBounds_toArray, List.set_cons_zero, List.set_cons_succ])
    refine wpAnyH_take (i := 2) (v := ?_) rfl (by kernel_rfl) (by kernel_rfl) (by kernel_rfl) (fun _ _ _ h => h) (Or.inl ⟨by rfl, ?_⟩) hHeld ?_
    rotate_left
    · intro w' hSw
      skip
      go_simp
      try with_reducible rfl
    try (simp only [Act.put, List.getElem_toArray, List.getElem_cons_succ, List.getElem_cons_zero, List.setIfInBounds_toArray, List.set_cons_zero, List.set_cons_succ])
    refine wpAnyH_take (i := 3) (v := ?_) rfl (by kernel_rfl) (by kernel_rfl) (by kernel_rfl) (fun _ _ _ h => h) (Or.inl ⟨by rfl, ?_⟩) hHeld ?_
    rotate_left
    · intro w' hSw
      skip
      go_simp
      try with_reducible rfl
    try (simp only [Act.put, List.getElem_toArray, List.getElem_cons_succ, List.getElem_cons_zero, List.setIfInBounds_toArray, List.set_cons_zero, List.set_cons_succ])
    refine wpAnyH_take (i := 4) (v := ?_) rfl (by kernel_rfl) (by kernel_rfl) (by kernel_rfl) (fun _ _ _ h => h) (Or.inl ⟨by rfl, ?_⟩) hHeld ?_
    rotate_left
    · intro w' hSw
      have hcv := run_convert_bs (P := Try.prog) 40 9 5 Try.underlying40 Try.underlying5 Try.underlying9 w' _ A3 m (Ho.out.below hSw) _ c3 rfl
      go_simp
      try with_reducible rfl
    try (simp only [Act.put, List.getElem_toArray, List.getElem_cons_succ, List.getElem_cons_zero, List.setIfInBounds_toArray, List.set_cons_zero, List.set_cons_succ])
    refine wpAnyH_take (i := 5) rfl (by kernel_rfl) (by kernel_rfl) (by kernel_rfl) (fun _ _ _ h => h) (yieldsIf_load_mid (by rfl) 29 (.tmp 1) rfl (w.heap.size) (0) rfl (confCs A f.vips.length c f) _ (fun w' hSw => blk_range (Blk.below H1.out hSw H1.out.lt)) Try.underlying29 rfl (conf_szL Hs.out)) hHeld ?_
    try (simp only [Act.put, List.getElem_toArray, List.getElem_cons_succ, List.getElem_cons_zero, List.setIfInBounds_toArray, List.set_cons_zero, List.set_cons_succ])
    refine wpAnyH_ready (rs := [6]) (by kernel_rfl) (by simp) ?_
    refine AllReadyH.cons (i := 6) rfl (fun K hK => ?_) AllReadyH.nil
    go_simp
    refine (rputD A c f Hs.out _ hnc ((Hv.out.below hHeld).more hHeld.size) Hr.out m Hmm.out).mono ?_
    rintro e w6 ⟨A6, c6, rfl, hown6, hb6⟩
    have hBehind : Below w4.heap.size w4 w6 := hHeld.trans (hb6.mono hHeld.size)
    have Ho6 := Lib.hid (BS.of_own hown6).1
    clear hown6 hb6
    go_wp2_with fail
    refine hK.out _ _ hBehind (fun hHeld => ?_)
    clear hK K hBehind
    try (simp only [Act.put, List.getElem_toArray, List.getElem_cons_succ, List.getElem_cons_zero, List.setIfInBounds_toArray, List.set_cons_zero, List.set_cons_succ])
    refine wpAnyH_ready (rs := [7]) (by kernel_rfl) (by simp) ?_
    refine AllReadyH.cons (i := 7) rfl (fun K hK => ?_) AllReadyH.nil
    have hcv := run_convert_bs (P := Try.prog) 40 9 5 Try.underlying40 Try.underlying5 Try.underlying9 w6 _ A6 m Ho6.out _ c6 rfl
    go_simp
    refine hK.out _ _ hHeld (fun hHeld => ?_)
    clear hK K hcv Ho6
    try (simp only [Act.put, List.getElem_toArray, List.getElem_cons_succ, List.getElem_cons_zero, List.setIfInBounds_toArray, List.set_cons_zero, List.set_cons_succ])
    refine wpAnyH_take (i := 8) (v := ?_) rfl (by kernel_rfl) (by kernel_rfl) (by kernel_rfl) (fun _ _ _ h => h) (Or.inl ⟨by rfl, ?_⟩) hHeld ?_
    rotate_left
    · intro w' hSw
      skip
      go_simp
      try with_reducible rfl
    try (simp only [Act.put, List.getElem_toArray, List.getElem_cons_succ, List.getElem_cons_zero, List.setIfInBounds_toArray, List.set_cons_zero, List.set_cons_succ])
    refine wpAnyH_take (i := 9) (v := ?_) rfl (by kernel_rfl) (by kernel_rfl) (by kernel_rfl) (fun _ _ _ h => h) (Or.inl ⟨by rfl, ?_⟩) hHeld ?_
    rotate_left
    · intro w' hSw
      skip
      go_simp
      try with_reducible rfl
    try (simp only [Act.put, List.getElem_toArray, List.getElem_cons_succ, List.getElem_cons_zero, List.setIfInBounds_toArray, List.set_cons_zero, List.set_cons_succ])
    refine wpAnyH_take (i := 10) (v := ?_) rfl (by kernel_rfl) (by kernel_rfl) (by kernel_rfl) (fun _ _ _ h => h) (Or.inl ⟨by rfl, ?_⟩) hHeld ?_
    rotate_left
    · intro w' hSw
      skip
      go_simp
      try with_reducible rfl
    try (simp only [Act.put, List.getElem_toArray, List.getElem_cons_succ, List.getElem_cons_zero, List.setIfInBounds_toArray, List.set_cons_zero, List.set_cons_succ])
    refine wpAnyH_done (by kernel_rfl) ?_ _
    refine NoPanic.normal ?_
    have Hend : Hid (Below w.heap.size w w6) := Bw.out.trans (hHeld.mono Bw.out.size)
    go_wp2
    go_ret
    exact ⟨rfl, Hend.out⟩
end Go.Proofs.Ytmkeljcjhcaigaa
