/- ConfKeeps: what is handed in stays; what is answered is new memory (printed by gen_ckeeps.py). -/
import Derived.Test.YtmkeljcjhcaigaaCwD
import Derived.Test.YtmkeljcjhcaigaaVm
import Derived.Deep.Cut
import Derived.Deep.CutRange
namespace Go.Proofs.Ytmkeljcjhcaigaa
open Go.RowKit
set_option linter.unusedVariables false
set_option linter.unusedSimpArgs false

set_option maxHeartbeats 2000000 in
set_option maxRecDepth 100000 in
theorem walk_confKeeps (w : World) (A : Option Addr) (n c : Nat) (f : ConfP) (hn : n = f.vips.length) (hnc : n ≤ c) (hm : n ≤ maxLen) (hb : VS w w.heap.size A f.vips) (hs : ConfShape f) :
    Calls Try.prog 8 #[confV A n c f] w fun e w' => e = .returned (.bool true) ∧ Below w.heap.size w w' := by
  subst hn
  unfold confV
  obtain ⟨W, hW⟩ : ∃ W, W = w.alloc (.cells (confCs A f.vips.length c f).toArray 29) := ⟨_, rfl⟩
  have H1 : Hid (Blk W w.heap.size 29 (confCs A f.vips.length c f).toArray) := by rw [hW]; exact Blk.new w _ _ _ rfl
  have hB : Below w.heap.size w W := by rw [hW]; exact (Below.refl _ _).alloc (Nat.le_refl _) _
  have Bw := Lib.hid hB
  have Hvr := Lib.hid hb
  have Hs := Lib.hid hs
  have HW := Lib.hid hW
  unfold maxLen at hm
  obtain ⟨i0, hi0, hz0, hz1, hz2⟩ := info_parts u8_infoO
  obtain ⟨iv0, zv0, hiv0, hzv0, hzv1, hzv2, hzvc⟩ := vip_parts
  clear hW hB hb hs
  by_cases hf : f.vips.length ≤ 100
  rotate_left
  · go_enter Try.func8, Try.ntmps8
    go_upto_region 1 with fail
    rw [← HW.out]
    clear HW
    go_wp2_with fail
    refine (awake22 W).mono ?_
    rintro e w1 ⟨rfl, hb1⟩
    have Hb1 := Lib.hid hb1
    clear hb1
    have H1' := Lib.hid (Blk.below H1.out Hb1.out H1.out.lt)
    clear H1
    have H1 := H1'
    clear H1'
    have Bw' : Hid (Below w.heap.size w w1) := Bw.out.trans (Hb1.out.mono Bw.out.size)
    clear Bw
    have Bw := Bw'
    clear Bw'
    clear Hb1
    have R1 := Lib.hid (blk_range H1.out)
    go_wp2_with (first
      | ((with_reducible refine gateL 29 ?_); refine wpList_load_g (by rfl) 29 (.tmp 1) rfl w.heap.size 0 rfl (confCs A f.vips.length c f) _ R1.out conf_under rfl (conf_szL Hs.out) ?_))
    clear R1
    refine (few_no A f.vips.length c f hf w1).mono ?_
    rintro e w2 ⟨rfl, hb2⟩
    have Hb2 := Lib.hid hb2
    clear hb2
    have H1' := Lib.hid (Blk.below H1.out Hb2.out H1.out.lt)
    clear H1
    have H1 := H1'
    clear H1'
    have Bw' : Hid (Below w.heap.size w w2) := Bw.out.trans (Hb2.out.mono Bw.out.size)
    clear Bw
    have Bw := Bw'
    clear Bw'
    clear Hb2
    go_wp2_with fail
    refine (awake22 w2).mono ?_
    rintro e wz ⟨rfl, hb3⟩
    have Hb3 := Lib.hid hb3
    clear hb3
    have H1' := Lib.hid (Blk.below H1.out Hb3.out H1.out.lt)
    clear H1
    have H1 := H1'
    clear H1'
    have Bw' : Hid (Below w.heap.size w wz) := Bw.out.trans (Hb3.out.mono Bw.out.size)
    clear Bw
    have Bw := Bw'
    clear Bw'
    clear Hb3
    go_wp2
    go_ret
    exact ⟨rfl, Bw.out⟩
  rcases hr : rightB f with _ | _
  · have Hr := Lib.hid hr
    clear hr
    go_enter Try.func8, Try.ntmps8
    go_upto_region 1 with fail
    rw [← HW.out]
    clear HW
    go_wp2_with fail
    refine (awake22 W).mono ?_
    rintro e w1 ⟨rfl, hb4⟩
    have Hb4 := Lib.hid hb4
    clear hb4
    have H1' := Lib.hid (Blk.below H1.out Hb4.out H1.out.lt)
    clear H1
    have H1 := H1'
    clear H1'
    have Bw' : Hid (Below w.heap.size w w1) := Bw.out.trans (Hb4.out.mono Bw.out.size)
    clear Bw
    have Bw := Bw'
    clear Bw'
    clear Hb4
    have R1 := Lib.hid (blk_range H1.out)
    go_wp2_with (first
      | ((with_reducible refine gateL 29 ?_); refine wpList_load_g (by rfl) 29 (.tmp 1) rfl w.heap.size 0 rfl (confCs A f.vips.length c f) _ R1.out conf_under rfl (conf_szL Hs.out) ?_))
    clear R1
    refine (few_yes A f.vips.length c f hf w1).mono ?_
    rintro e w2 ⟨rfl, hb5⟩
    have Hb5 := Lib.hid hb5
    clear hb5
    have H1' := Lib.hid (Blk.below H1.out Hb5.out H1.out.lt)
    clear H1
    have H1 := H1'
    clear H1'
    have Bw' : Hid (Below w.heap.size w w2) := Bw.out.trans (Hb5.out.mono Bw.out.size)
    clear Bw
    have Bw := Bw'
    clear Bw'
    clear Hb5
    have R1 := Lib.hid (blk_range H1.out)
    go_wp2_with (first
      | ((with_reducible refine gateL 29 ?_); refine wpList_load_g (by rfl) 29 (.tmp 1) rfl w.heap.size 0 rfl (confCs A f.vips.length c f) _ R1.out conf_under rfl (conf_szL Hs.out) ?_))
    clear R1
    refine (rrightE A c f Hs.out w2 ((Hvr.out.below Bw.out).more Bw.out.size) (by omega) false Hr.out).mono ?_
    rintro e w4 ⟨rfl, hb6⟩
    have Hb6 := Lib.hid hb6
    clear hb6
    have H1' := Lib.hid (Blk.below H1.out Hb6.out H1.out.lt)
    clear H1
    have H1 := H1'
    clear H1'
    have Bw' : Hid (Below w.heap.size w w4) := Bw.out.trans (Hb6.out.mono Bw.out.size)
    clear Bw
    have Bw := Bw'
    clear Bw'
    clear Hb6
    go_wp2_with fail
    refine (awake22 w4).mono ?_
    rintro e wz ⟨rfl, hb7⟩
    have Hb7 := Lib.hid hb7
    clear hb7
    have H1' := Lib.hid (Blk.below H1.out Hb7.out H1.out.lt)
    clear H1
    have H1 := H1'
    clear H1'
    have Bw' : Hid (Below w.heap.size w wz) := Bw.out.trans (Hb7.out.mono Bw.out.size)
    clear Bw
    have Bw := Bw'
    clear Bw'
    clear Hb7
    go_wp2
    go_ret
    exact ⟨rfl, Bw.out⟩
  · have hpos := confPut_pos f
    have hle := confPut_le Hs.out hr
    have hown := confOwn Hs.out hr
    obtain ⟨m, hmm⟩ : ∃ m, m = confPutS f := ⟨_, rfl⟩
    rw [← hmm] at hpos hle hown
    have Hget := Lib.hid hown
    have Hmm := Lib.hid hmm.symm
    have Hr := Lib.hid hr
    have HoV : Hid (∀ v ∈ f.vips, addrOk v.1) := Hs.out.vips
    clear hr hmm hown
    go_enter Try.func8, Try.ntmps8
    go_upto_region 1 with fail
    rw [← HW.out]
    clear HW
    go_wp2_with fail
    refine (awake22 W).mono ?_
    rintro e w1 ⟨rfl, hb8⟩
    have Hb8 := Lib.hid hb8
    clear hb8
    have H1' := Lib.hid (Blk.below H1.out Hb8.out H1.out.lt)
    clear H1
    have H1 := H1'
    clear H1'
    have Bw' : Hid (Below w.heap.size w w1) := Bw.out.trans (Hb8.out.mono Bw.out.size)
    clear Bw
    have Bw := Bw'
    clear Bw'
    clear Hb8
    have R1 := Lib.hid (blk_range H1.out)
    go_wp2_with (first
      | ((with_reducible refine gateL 29 ?_); refine wpList_load_g (by rfl) 29 (.tmp 1) rfl w.heap.size 0 rfl (confCs A f.vips.length c f) _ R1.out conf_under rfl (conf_szL Hs.out) ?_))
    clear R1
    refine (few_yes A f.vips.length c f hf w1).mono ?_
    rintro e w2 ⟨rfl, hb9⟩
    have Hb9 := Lib.hid hb9
    clear hb9
    have H1' := Lib.hid (Blk.below H1.out Hb9.out H1.out.lt)
    clear H1
    have H1 := H1'
    clear H1'
    have Bw' : Hid (Below w.heap.size w w2) := Bw.out.trans (Hb9.out.mono Bw.out.size)
    clear Bw
    have Bw := Bw'
    clear Bw'
    clear Hb9
    have R1 := Lib.hid (blk_range H1.out)
    go_wp2_with (first
      | ((with_reducible refine gateL 29 ?_); refine wpList_load_g (by rfl) 29 (.tmp 1) rfl w.heap.size 0 rfl (confCs A f.vips.length c f) _ R1.out conf_under rfl (conf_szL Hs.out) ?_))
    clear R1
    refine (rrightE A c f Hs.out w2 ((Hvr.out.below Bw.out).more Bw.out.size) (by omega) true Hr.out).mono ?_
    rintro e w4 ⟨rfl, hb10⟩
    have Hb10 := Lib.hid hb10
    clear hb10
    have H1' := Lib.hid (Blk.below H1.out Hb10.out H1.out.lt)
    clear H1
    have H1 := H1'
    clear H1'
    have Bw' : Hid (Below w.heap.size w w4) := Bw.out.trans (Hb10.out.mono Bw.out.size)
    clear Bw
    have Bw := Bw'
    clear Bw'
    clear Hb10
    have hge3 : w.heap.size < w4.heap.size := H1.out.lt
    obtain ⟨x11, hx11⟩ : ∃ W, W = w4.alloc (.cells (confCs none 0 0 conf0).toArray 29) := ⟨_, rfl⟩
    obtain ⟨y11, hy11⟩ : ∃ W, W = x11.setCells w4.heap.size 0 (confCs A f.vips.length c f) := ⟨_, rfl⟩
    obtain ⟨hth11, hbx11, hbe11⟩ := boxed w4 x11 y11 29 (confCs none 0 0 conf0) (confCs A f.vips.length c f) (by rw [conf_len Hs.out, conf_len conf0_shape]) hx11 hy11
    rw [conf0_lit] at hx11
    have HX11 := Lib.hid hx11
    have HY11 := Lib.hid hy11
    have Hth11 := Lib.hid hth11
    have Hbe11 := Lib.hid hbe11
    have H3n := Lib.hid hbx11
    clear hx11 hy11 hth11 hbx11 hbe11
    have R1 := Lib.hid (blk_range H1.out)
    go_upto_region 4 with (first
      | ((with_reducible refine gateL 29 ?_); refine wpList_load_g (by rfl) 29 (.tmp 1) rfl w.heap.size 0 rfl (confCs A f.vips.length c f) _ R1.out conf_under rfl (conf_szL Hs.out) ?_)
      | (rw [← HX11.out]; (with_reducible refine gateS 29 ?_); refine wpList_store_mid rfl 29 (.tmp 3) (.tmp 24) rfl w4.heap.size 0 (confCs A f.vips.length c f).toArray rfl rfl Hth11.out (conf_szA Hs.out) (conf_one A f.vips.length c f) ?_))
    clear R1
    rw [← HY11.out]
    clear HX11 HY11 Hth11
    have H1' := Lib.hid (Blk.below H1.out Hbe11.out H1.out.lt)
    clear H1
    have H1 := H1'
    clear H1'
    have Bw' : Hid (Below w.heap.size w y11) := Bw.out.trans (Hbe11.out.mono Bw.out.size)
    clear Bw
    have Bw := Bw'
    clear Bw'
    have H3 := H3n
    clear H3n Hbe11
    have hgeY : w.heap.size ≤ y11.heap.size := Bw.out.size
    obtain ⟨g3, hg3⟩ : ∃ g, g = w4.heap.size := ⟨_, rfl⟩
    rw [← hg3] at H3 hge3 ⊢
    clear hg3
    have HvY := Lib.hid ((Hvr.out.below Bw.out).more Bw.out.size)
    have a0 := fun o => cf_c0 (Blk.alloc H1.out o)
    go_upto_region 5 with (first
        | ((with_reducible refine gateB .append ?_); refine wpList_append_vips _ rfl _ _ 22 rfl y11.heap.size iv0 zv0 48 Try.underlying22 hiv0 hzv0 hzv1 hzv2 hzvc (some ⟨y11.heap.size, 0, none⟩) 0 [] rfl (VOwn.lit y11 _ (Nat.le_refl _)) y11.heap.size A c f.vips HoV.out rfl (HvY.out.below ((Below.refl _ _).alloc (Nat.le_refl _) _)) (by simp; unfold maxLen; omega) (by simp; omega) (by simp) ?_; intro A3 c3 w5 hown5 hgr5 _; have hb5 : Below y11.heap.size y11 w5 := ((Below.refl _ _).alloc (Nat.le_refl _) _).grown hgr5 (by simp) (fun k hk => by simp [Value.ownBlock] at hk; omega); have hx5 := Blk.below H3.out hb5 H3.out.lt; have e0 := cf_c0 hx5; have ef := hx5.frozen 0))
    simp only [List.nil_append] at hown5 hgr5
    have Hb5 := Lib.hid hb5
    have HO3 := Lib.hid hown5
    have HX5 := Lib.hid hx5
    clear hown5 hgr5 hb5 hx5 e0 ef a0 HvY
    clear H3
    have H1' := Lib.hid (Blk.below H1.out Hb5.out H1.out.lt)
    clear H1
    have H1 := H1'
    clear H1'
    have Bw' : Hid (Below w.heap.size w w5) := Bw.out.trans (Hb5.out.mono Bw.out.size)
    clear Bw
    have Bw := Bw'
    clear Bw'
    clear Hb5
    obtain ⟨w6, hw6⟩ : ∃ W, W = w5.setCell ⟨g3, 0, none⟩ (.slice A3 f.vips.length c3) := ⟨_, rfl⟩
    rw [← hw6]
    have h3 : Blk w6 g3 29 (confCs A3 f.vips.length c3 f).toArray := by
      rw [hw6]
      have := Blk.set_ HX5.out 0 (.slice A3 f.vips.length c3)
      rw [set_slice A3 f.vips.length c3 f.vips] at this
      exact this
    have h1 : Blk w6 w.heap.size 29 (confCs A f.vips.length c f).toArray := by
      rw [hw6]
      exact Blk.far H1.out (p := ⟨g3, 0, none⟩) (by show w.heap.size ≠ g3; omega) _
    have hO := HO3.out.grown HX5.out (by decide) (grownSet w5 ⟨g3, 0, none⟩ (.slice A3 f.vips.length c3))
    rw [← hw6] at hO
    have bw := Bw.out.setCell (p := ⟨g3, 0, none⟩) (by show w.heap.size ≤ g3; omega) (.slice A3 f.vips.length c3)
    rw [← hw6] at bw
    clear H1 HO3 HX5 Bw hw6
    have H1 := Lib.hid h1
    have H3 := Lib.hid h3
    have HO3 := Lib.hid hO
    have Bw : Hid (Below w.heap.size w w6) := Lib.hid bw
    have hc3 : f.vips.length ≤ c3 := own_le HO3.out.1
    clear h1 h3 hO bw
    have R1 := Lib.hid (blk_range H1.out)
    have R3 := Lib.hid (blk_range H3.out)
    go_wp2_with (first
      | ((with_reducible refine gateL 29 ?_); refine wpList_load_g (by rfl) 29 (.tmp 1) rfl w.heap.size 0 rfl (confCs A f.vips.length c f) _ R1.out conf_under rfl (conf_szL Hs.out) ?_)
      | ((with_reducible refine gateL 29 ?_); refine wpList_load_g (by rfl) 29 (.tmp 3) rfl g3 0 rfl (confCs A3 f.vips.length c3 f) _ R3.out conf_under rfl (conf_szL Hs.out) ?_))
    clear R1
    clear R3
    refine (putC_yes A3 c3 f Hs.out w6 Hr.out hc3 HO3.out.vs (by omega) m Hmm.out).mono ?_
    rintro e w7 ⟨A5, c5, rfl, hown7, hb12⟩
    have Hb12 := Lib.hid hb12
    clear hb12
    have Ho := Lib.hid hown7
    clear hown7
    have H1' := Lib.hid (Blk.below H1.out Hb12.out H1.out.lt)
    clear H1
    have H1 := H1'
    clear H1'
    have H3' := Lib.hid (Blk.below H3.out Hb12.out H3.out.lt)
    clear H3
    have H3 := H3'
    clear H3'
    have HO3' := Lib.hid (HO3.out.below Hb12.out)
    clear HO3
    have HO3 := HO3'
    clear HO3'
    have Bw' : Hid (Below w.heap.size w w7) := Bw.out.trans (Hb12.out.mono Bw.out.size)
    clear Bw
    have Bw := Bw'
    clear Bw'
    clear Hb12
    have R1 := Lib.hid (blk_range H1.out)
    have R3 := Lib.hid (blk_range H3.out)
    go_wp2_with (first
      | ((with_reducible refine gateL 29 ?_); refine wpList_load_g (by rfl) 29 (.tmp 1) rfl w.heap.size 0 rfl (confCs A f.vips.length c f) _ R1.out conf_under rfl (conf_szL Hs.out) ?_)
      | ((with_reducible refine gateL 29 ?_); refine wpList_load_g (by rfl) 29 (.tmp 3) rfl g3 0 rfl (confCs A3 f.vips.length c3 f) _ R3.out conf_under rfl (conf_szL Hs.out) ?_))
    clear R1
    clear R3
    refine (rsameE A3 c3 f Hs.out A c f Hs.out w7 true (same_self f) HO3.out.vs ((Hvr.out.below Bw.out).more Bw.out.size) (by omega) (by omega)).mono ?_
    rintro e w8 ⟨rfl, hb13⟩
    have Hb13 := Lib.hid hb13
    clear hb13
    have H1' := Lib.hid (Blk.below H1.out Hb13.out H1.out.lt)
    clear H1
    have H1 := H1'
    clear H1'
    have H3' := Lib.hid (Blk.below H3.out Hb13.out H3.out.lt)
    clear H3
    have H3 := H3'
    clear H3'
    have HO3' := Lib.hid (HO3.out.below Hb13.out)
    clear HO3
    have HO3 := HO3'
    clear HO3'
    have Ho' := Lib.hid (own_below Ho.out Hb13.out)
    clear Ho
    have Ho := Ho'
    clear Ho'
    have Bw' : Hid (Below w.heap.size w w8) := Bw.out.trans (Hb13.out.mono Bw.out.size)
    clear Bw
    have Bw := Bw'
    clear Bw'
    clear Hb13
    have hge8 : w.heap.size ≤ w8.heap.size := Bw.out.size
    go_upto_region 9 with (first
        | ((with_reducible refine gateB .append ?_); refine wpList_append_bytes _ rfl _ _ 40 rfl w8.heap.size 5 i0 (.int .u8 0) 1 Try.underlying40 hi0 hz0 hz1 hz2 rfl (.slice (some ⟨w8.heap.size, 0, none⟩) 0 0) [] rfl (own_none w8 _ _ (Nat.le_refl _) _ rfl) (w8.alloc (.cells #[] 5)).heap.size A5 _ c5 m rfl rfl (BS.of_own (own_below Ho.out ((Below.refl _ _).alloc (Nat.le_refl _) _))).1 (by simp; unfold maxLen; omega) (by simp; omega) (by simp) ?_; intro A6 c6 w9 hown9 hg9 _; have Hg9 : Hid (Below w8.heap.size w8 w9) := ((Below.refl _ _).alloc (Nat.le_refl _) _).grown hg9 (by simp) (fun k hk => by simp [Value.ownBlock] at hk; omega); have hown9' : w9.ownsRow w8.heap.size 5 1 (.slice A6 m.length c6) m.length (bcells m) := by simpa using hown9))
    have Hmi := Lib.hid hown9'
    clear hown9 hown9' hg9
    have H1' := Lib.hid (Blk.below H1.out Hg9.out H1.out.lt)
    clear H1
    have H1 := H1'
    clear H1'
    have H3' := Lib.hid (Blk.below H3.out Hg9.out H3.out.lt)
    clear H3
    have H3 := H3'
    clear H3'
    have HO3' := Lib.hid (HO3.out.below Hg9.out)
    clear HO3
    have HO3 := HO3'
    clear HO3'
    have Ho' := Lib.hid (own_below Ho.out Hg9.out)
    clear Ho
    have Ho := Ho'
    clear Ho'
    have Bw' : Hid (Below w.heap.size w w9) := Bw.out.trans (Hg9.out.mono Bw.out.size)
    clear Bw
    have Bw := Bw'
    clear Bw'
    clear Hg9
    have hc6 : m.length ≤ c6 := own_le Hmi.out
    have Hlt9 : Hid (∀ k, (Value.slice A3 f.vips.length c3).ownBlock = some k → k < w9.heap.size) := fun k hk => (HO3.out.1.lt k hk).2
    have R1 := Lib.hid (blk_range H1.out)
    have R3 := Lib.hid (blk_range H3.out)
    go_wp2_with (first
      | ((with_reducible refine gateL 29 ?_); refine wpList_load_g (by rfl) 29 (.tmp 1) rfl w.heap.size 0 rfl (confCs A f.vips.length c f) _ R1.out conf_under rfl (conf_szL Hs.out) ?_)
      | ((with_reducible refine gateL 29 ?_); refine wpList_load_g (by rfl) 29 (.tmp 3) rfl g3 0 rfl (confCs A3 f.vips.length c3 f) _ R3.out conf_under rfl (conf_szL Hs.out) ?_))
    clear R1
    clear R3
    refine (getC_yes A6 _ c6 m w9 rfl (BS.of_own Hmi.out).1 (by omega) f Hget.out).mono ?_
    rintro e w10 ⟨A7, c7, rfl, hownD, hcD, _, hb14⟩
    have Hb14 := Lib.hid hb14
    clear hb14
    have HD := Lib.hid hownD
    clear hownD
    have H1' := Lib.hid (Blk.below H1.out Hb14.out H1.out.lt)
    clear H1
    have H1 := H1'
    clear H1'
    have H3' := Lib.hid (Blk.below H3.out Hb14.out H3.out.lt)
    clear H3
    have H3 := H3'
    clear H3'
    have HO3' := Lib.hid (HO3.out.below Hb14.out)
    clear HO3
    have HO3 := HO3'
    clear HO3'
    have Ho' := Lib.hid (own_below Ho.out Hb14.out)
    clear Ho
    have Ho := Ho'
    clear Ho'
    have Hmi' := Lib.hid (own_below Hmi.out Hb14.out)
    clear Hmi
    have Hmi := Hmi'
    clear Hmi'
    have Bw' : Hid (Below w.heap.size w w10) := Bw.out.trans (Hb14.out.mono Bw.out.size)
    clear Bw
    have Bw := Bw'
    clear Bw'
    clear Hb14
    skip
    obtain ⟨x15, hx15⟩ : ∃ W, W = w10.alloc (.cells (confCs none 0 0 conf0).toArray 29) := ⟨_, rfl⟩
    obtain ⟨y15, hy15⟩ : ∃ W, W = x15.setCells w10.heap.size 0 (confCs A7 f.vips.length c7 f) := ⟨_, rfl⟩
    obtain ⟨hth15, hbx15, hbe15⟩ := boxed w10 x15 y15 29 (confCs none 0 0 conf0) (confCs A7 f.vips.length c7 f) (by rw [conf_len Hs.out, conf_len conf0_shape]) hx15 hy15
    rw [conf0_lit] at hx15
    have HX15 := Lib.hid hx15
    have HY15 := Lib.hid hy15
    have Hth15 := Lib.hid hth15
    have Hbe15 := Lib.hid hbe15
    have H7n := Lib.hid hbx15
    clear hx15 hy15 hth15 hbx15 hbe15
    have R1 := Lib.hid (blk_range H1.out)
    have R3 := Lib.hid (blk_range H3.out)
    go_upto_region 10 with (first
      | ((with_reducible refine gateL 29 ?_); refine wpList_load_g (by rfl) 29 (.tmp 1) rfl w.heap.size 0 rfl (confCs A f.vips.length c f) _ R1.out conf_under rfl (conf_szL Hs.out) ?_)
      | ((with_reducible refine gateL 29 ?_); refine wpList_load_g (by rfl) 29 (.tmp 3) rfl g3 0 rfl (confCs A3 f.vips.length c3 f) _ R3.out conf_under rfl (conf_szL Hs.out) ?_)
      | (rw [← HX15.out]; (with_reducible refine gateS 29 ?_); refine wpList_store_mid rfl 29 (.tmp 7) (.tmp 45) rfl w10.heap.size 0 (confCs A7 f.vips.length c7 f).toArray rfl rfl Hth15.out (conf_szA Hs.out) (conf_one A7 f.vips.length c7 f) ?_))
    clear R1
    clear R3
    rw [← HY15.out]
    clear HX15 HY15 Hth15
    have H1' := Lib.hid (Blk.below H1.out Hbe15.out H1.out.lt)
    clear H1
    have H1 := H1'
    clear H1'
    have H3' := Lib.hid (Blk.below H3.out Hbe15.out H3.out.lt)
    clear H3
    have H3 := H3'
    clear H3'
    have HO3' := Lib.hid (HO3.out.below Hbe15.out)
    clear HO3
    have HO3 := HO3'
    clear HO3'
    have Ho' := Lib.hid (own_below Ho.out Hbe15.out)
    clear Ho
    have Ho := Ho'
    clear Ho'
    have Hmi' := Lib.hid (own_below Hmi.out Hbe15.out)
    clear Hmi
    have Hmi := Hmi'
    clear Hmi'
    have HD' := Lib.hid (HD.out.below Hbe15.out)
    clear HD
    have HD := HD'
    clear HD'
    have Bw' : Hid (Below w.heap.size w y15) := Bw.out.trans (Hbe15.out.mono Bw.out.size)
    clear Bw
    have Bw := Bw'
    clear Bw'
    have H7 := H7n
    clear H7n Hbe15
    have HZ3 := Lib.hid H3.out
    have HneD : Hid ((Value.slice A7 f.vips.length c7).ownBlock = none ∨ (Value.slice A7 f.vips.length c7).ownBlock ≠ (Value.slice A3 f.vips.length c3).ownBlock) := own_ne_row HD.out.1 Hlt9.out
    go_wp2_with fail
    go_loopw [9] (fun i wr => ∃ (k : Nat) (us : List VipP), k ≤ f.vips.length ∧ i = .int .i64 (k : Int) ∧ us.length = f.vips.length ∧ Hid (VOwn wr w.heap.size A3 c3 us) ∧ Hid (y15.grownBy wr (Value.slice A3 f.vips.length c3).ownBlock)) (fun i _ => f.vips.length - (intOf i).toNat)
    case atStart => exact ⟨0, f.vips, Nat.zero_le _, rfl, rfl, ⟨own_base' HO3.out.1 (by omega), HO3.out.2⟩, World.grownBy.refl _ _⟩
    case round =>
      obtain ⟨k, us, hk, rfl, hul, hO, hgr⟩ := hrel
      rename World => wr
      have hx3 := Blk.grown H3.out hgr.out (by
        rcases own_blk_ne HO3.out.1 H3.out (by decide) with h | h
        · rw [h]; simp
        · exact fun e => h e.symm)
      have a0 := cf_c0 hx3
      by_cases hlt : k < f.vips.length
      · have hltI : (k : Int) < (f.vips.length : Int) := by omega
        have hk0 : (0 : Int) ≤ (k : Int) := by omega
        obtain ⟨gv, hAv, hbg, hgl, hth, hO'⟩ := hO.out.put (k := k) (by omega) vip0 addr0_ok
        have Hth := Lib.hid hth
        have hgr' := grownCells y15 gv (k * 20) (vipCs vip0) (k * 20) (w' := wr) (by have := hgr.out; rw [hAv] at this; exact this)
        have HO' := Lib.hid hO'
        have Hgr' := Lib.hid hgr'
        clear hth hO' hgr' hO hgr hx3
        subst hAv
        go_wp2_with (first
          | ((with_reducible refine gateS 33 ?_); refine wpList_store_mid rfl 33 (.tmp 58) (.tmp 57) rfl gv (k * 20) (vipCs vip0).toArray rfl rfl Hth.out vip_size (vip_one vip0) ?_))
        go_roundw
        case rel => exact ⟨k + 1, us.set k vip0, by omega, by go_num, by rw [List.length_set]; exact hul, HO', Hgr'⟩
        case measure => simp [intOf]; omega
      · have hltI : ¬ (k : Int) < (f.vips.length : Int) := by omega
        go_wp2_with fail
        skip
        have hrow : ∀ k, (Value.slice A3 f.vips.length c3).ownBlock = some k → w.heap.size ≤ k := fun k hk => by have := (HO3.out.1.lt k hk).1; omega
        have hno : ∀ {b : Nat} {cs : Array Value}, Blk y15 b 29 cs → some b ≠ (Value.slice A3 f.vips.length c3).ownBlock := fun hb => by
          rcases own_blk_ne HO3.out.1 hb (by decide) with h | h
          · rw [h]; simp
          · exact fun e => h e.symm
        have h1 := Blk.grown H1.out hgr.out (hno H1.out)
        have h7 := Blk.grown H7.out hgr.out (hno H7.out)
        have ho := Ho.out.kept hgr.out (own_types_ne Ho.out HO3.out.1 (by decide))
        have hmi := Hmi.out.kept hgr.out (own_types_ne Hmi.out HO3.out.1 (by decide))
        have hd : VOwn wr _ A7 c7 f.vips := ⟨HD.out.1.kept hgr.out HneD.out, HD.out.2⟩
        have bw := Bw.out.grown hgr.out Bw.out.size hrow
        clear H1 H7 H3 HZ3 Ho Hmi HD Bw HO3 hno hrow HneD hx3 a0 hO hgr
        have H1 := Lib.hid h1
        have H7 := Lib.hid h7
        have Ho := Lib.hid (BS.of_own ho).1
        have Ho2 := Lib.hid ho
        have Hmi := Lib.hid hmi
        have HD := Lib.hid hd
        have Bw : Hid (Below w.heap.size w wr) := Lib.hid bw
        clear h1 h7 ho hmi hd bw
        refine wp_region_noPanic ?_
        refine wp_region_held_drew (S := fun w' => Below wr.heap.size wr w') (by kernel_rfl) ((Below.refl _ _).drew) (fun hHeld => ?_)
        refine wpAnyH_take (i := 0) (v := ?_) rfl (by kernel_rfl) (by kernel_rfl) (by kernel_rfl) (fun _ _ _ h => h) (Or.inl ⟨by rfl, ?_⟩) hHeld ?_
        rotate_left
        · intro w' hSw
          skip
          go_simp
          try with_reducible rfl
        try (simp only [Act.put, List.getElem_toArray, List.getElem_cons_succ, List.getElem_cons_zero, List.setIfInBounds_toArray, List.set_cons_zero, List.set_cons_succ])
        refine wpAnyH_take (i := 1) (v := ?_) rfl (by kernel_rfl) (by kernel_rfl) (by kernel_rfl) (fun _ _ _ h => h) (Or.inl ⟨by rfl, ?_⟩) hHeld ?_
        rotate_left
        · intro w' hSw
          have hcv := run_convert_bs (P := Try.prog) 40 9 5 Try.underlying40 Try.underlying5 Try.underlying9 w' _ A5 m (Ho.out.below hSw) _ c5 rfl
          go_simp
          try with_reducible rfl
        try (simp only [Act.put, List.getElem_toArray, List.getElem_cons_succ, List.getElem_cons_zero, List.setIfInBounds_toArray, List.set_cons_zero, List.set_cons_succ])
        refine wpAnyH_take (i := 2) rfl (by kernel_rfl) (by kernel_rfl) (by kernel_rfl) (fun _ _ _ h => h) (yieldsIf_load_mid (by rfl) 29 (.tmp 1) rfl (w.heap.size) (0) rfl (confCs A f.vips.length c f) _ (fun w' hSw => blk_range (Blk.below H1.out hSw H1.out.lt)) Try.underlying29 rfl (conf_szL Hs.out)) hHeld ?_
        try (simp only [Act.put, List.getElem_toArray, List.getElem_cons_succ, List.getElem_cons_zero, List.setIfInBounds_toArray, List.set_cons_zero, List.set_cons_succ])
        refine wpAnyH_ready (rs := [3]) (by kernel_rfl) (by simp) ?_
        refine AllReadyH.cons (i := 3) rfl (fun K hK => ?_) AllReadyH.nil
        go_simp
        refine (rputE A c f Hs.out _ hnc (((((Hvr.out.below Bw.out).more Bw.out.size)).below hHeld).more hHeld.size) Hr.out m Hmm.out).mono ?_
        rintro e w11 ⟨A8, c8, rfl, hown8, hb8⟩
        have hBehind : Below wr.heap.size wr w11 := hHeld.trans (hb8.mono hHeld.size)
        have Ho8 := Lib.hid (BS.of_own hown8).1
        clear hown8 hb8
        go_wp2_with fail
        refine hK.out _ _ hBehind (fun hHeld => ?_)
        clear hK K hBehind
        try (simp only [Act.put, List.getElem_toArray, List.getElem_cons_succ, List.getElem_cons_zero, List.setIfInBounds_toArray, List.set_cons_zero, List.set_cons_succ])
        refine wpAnyH_ready (rs := [4]) (by kernel_rfl) (by simp) ?_
        refine AllReadyH.cons (i := 4) rfl (fun K hK => ?_) AllReadyH.nil
        have hcv := run_convert_bs (P := Try.prog) 40 9 5 Try.underlying40 Try.underlying5 Try.underlying9 w11 _ A8 m Ho8.out _ c8 rfl
        go_simp
        refine hK.out _ _ hHeld (fun hHeld => ?_)
        clear hK K hcv Ho8
        try (simp only [Act.put, List.getElem_toArray, List.getElem_cons_succ, List.getElem_cons_zero, List.setIfInBounds_toArray, List.set_cons_zero, List.set_cons_succ])
        refine wpAnyH_take (i := 5) (v := ?_) rfl (by kernel_rfl) (by kernel_rfl) (by kernel_rfl) (fun _ _ _ h => h) (Or.inl ⟨by rfl, ?_⟩) hHeld ?_
        rotate_left
        · intro w' hSw
          skip
          go_simp
          try with_reducible rfl
        try (simp only [Act.put, List.getElem_toArray, List.getElem_cons_succ, List.getElem_cons_zero, List.setIfInBounds_toArray, List.set_cons_zero, List.set_cons_succ])
        refine wpAnyH_take (i := 6) (v := ?_) rfl (by kernel_rfl) (by kernel_rfl) (by kernel_rfl) (fun _ _ _ h => h) (Or.inl ⟨by rfl, ?_⟩) hHeld ?_
        rotate_left
        · intro w' hSw
          skip
          go_simp
          try with_reducible rfl
        try (simp only [Act.put, List.getElem_toArray, List.getElem_cons_succ, List.getElem_cons_zero, List.setIfInBounds_toArray, List.set_cons_zero, List.set_cons_succ])
        refine wpAnyH_take (i := 7) (v := ?_) rfl (by kernel_rfl) (by kernel_rfl) (by kernel_rfl) (fun _ _ _ h => h) (Or.inl ⟨by rfl, ?_⟩) hHeld ?_
        rotate_left
        · intro w' hSw
          skip
          go_simp
          try with_reducible rfl
        try (simp only [Act.put, List.getElem_toArray, List.getElem_cons_succ, List.getElem_cons_zero, List.setIfInBounds_toArray, List.set_cons_zero, List.set_cons_succ])
        refine wpAnyH_take (i := 8) (v := ?_) rfl (by kernel_rfl) (by kernel_rfl) (by kernel_rfl) (fun _ _ _ h => h) (Or.inl ⟨by rfl, ?_⟩) hHeld ?_
        rotate_left
        · intro w' hSw
          have hcv := run_convert_bs (P := Try.prog) 40 9 5 Try.underlying40 Try.underlying5 Try.underlying9 w' _ A6 m ((BS.of_own Hmi.out).1.below hSw) _ c6 rfl
          go_simp
          try with_reducible rfl
        try (simp only [Act.put, List.getElem_toArray, List.getElem_cons_succ, List.getElem_cons_zero, List.setIfInBounds_toArray, List.set_cons_zero, List.set_cons_succ])
        refine wpAnyH_take (i := 9) (v := ?_) rfl (by kernel_rfl) (by kernel_rfl) (by kernel_rfl) (fun _ _ _ h => h) (Or.inl ⟨by rfl, ?_⟩) hHeld ?_
        rotate_left
        · intro w' hSw
          skip
          go_simp
          try with_reducible rfl
        try (simp only [Act.put, List.getElem_toArray, List.getElem_cons_succ, List.getElem_cons_zero, List.setIfInBounds_toArray, List.set_cons_zero, List.set_cons_succ])
        refine wpAnyH_take (i := 10) (v := ?_) rfl (by kernel_rfl) (by kernel_rfl) (by kernel_rfl) (fun _ _ _ h => h) (Or.inl ⟨by rfl, ?_⟩) hHeld ?_
        rotate_left
        · intro w' hSw
          have hcv := run_convert_bs (P := Try.prog) 40 9 5 Try.underlying40 Try.underlying5 Try.underlying9 w' _ A5 m (Ho.out.below hSw) _ c5 rfl
          go_simp
          try with_reducible rfl
        try (simp only [Act.put, List.getElem_toArray, List.getElem_cons_succ, List.getElem_cons_zero, List.setIfInBounds_toArray, List.set_cons_zero, List.set_cons_succ])
        refine wpAnyH_take (i := 11) (v := ?_) rfl (by kernel_rfl) (by kernel_rfl) (by kernel_rfl) (fun _ _ _ h => h) (Or.inl ⟨by rfl, ?_⟩) hHeld ?_
        rotate_left
        · intro w' hSw
          skip
          go_simp
          try with_reducible rfl
        try (simp only [Act.put, List.getElem_toArray, List.getElem_cons_succ, List.getElem_cons_zero, List.setIfInBounds_toArray, List.set_cons_zero, List.set_cons_succ])
        refine wpAnyH_take (i := 12) (v := ?_) rfl (by kernel_rfl) (by kernel_rfl) (by kernel_rfl) (fun _ _ _ h => h) (Or.inl ⟨by rfl, ?_⟩) hHeld ?_
        rotate_left
        · intro w' hSw
          skip
          go_simp
          try with_reducible rfl
        try (simp only [Act.put, List.getElem_toArray, List.getElem_cons_succ, List.getElem_cons_zero, List.setIfInBounds_toArray, List.set_cons_zero, List.set_cons_succ])
        refine wpAnyH_done (by kernel_rfl) ?_ _
        refine NoPanic.normal ?_
        have Hb11 := Lib.hid hHeld
        clear hHeld
        have H1' := Lib.hid (Blk.below H1.out Hb11.out H1.out.lt)
        clear H1
        have H1 := H1'
        clear H1'
        have H7' := Lib.hid (Blk.below H7.out Hb11.out H7.out.lt)
        clear H7
        have H7 := H7'
        clear H7'
        have HD' := Lib.hid (HD.out.below Hb11.out)
        clear HD
        have HD := HD'
        clear HD'
        have Hmi' := Lib.hid (own_below Hmi.out Hb11.out)
        clear Hmi
        have Hmi := Hmi'
        clear Hmi'
        have Bw' : Hid (Below w.heap.size w w11) := Bw.out.trans (Hb11.out.mono Bw.out.size)
        clear Bw
        have Bw := Bw'
        clear Bw'
        clear Hb11 Ho Ho2
        go_wp2_with fail
        go_loopw [10] (fun i wq => ∃ (k : Nat) (l' : List UInt8), k ≤ m.length ∧ i = .int .i64 (k : Int) ∧ l'.length = m.length ∧ Hid (wq.ownsRow w.heap.size 5 1 (.slice A6 m.length c6) m.length (bcells l')) ∧ Hid (w11.grownBy wq (Value.slice A6 m.length c6).ownBlock)) (fun i _ => m.length - (intOf i).toNat)
        case atStart => exact ⟨0, m, Nat.zero_le _, rfl, rfl, own_base' Hmi.out hge8, World.grownBy.refl _ _⟩
        case round =>
          obtain ⟨k, l', hk, rfl, hll, hO, hgr⟩ := hrel
          rename World => wq
          by_cases hlt : k < m.length
          · have hltI : (k : Int) < (m.length : Int) := by omega
            have hk0 : (0 : Int) ≤ (k : Int) := by omega
            have hO1 := hO.out
            rw [← hll] at hO1
            obtain ⟨gm, hAm, hbg, hgl, hcell, hfz, hO'⟩ := own_put8 hO1 (k := k) (by omega) 0
            rw [List.length_set, hll] at hO'
            have hgr' : w11.grownBy (wq.setCell ⟨gm, k, none⟩ (.int .u8 0)) (some gm) := by
              have := hgr.out
              rw [hAm] at this
              exact this.trans (grownSet wq ⟨gm, k, none⟩ _)
            have HO' := Lib.hid hO'
            have Hgr' := Lib.hid hgr'
            clear hO' hgr' hO hgr hO1
            subst hAm
            go_wp2_with fail
            go_roundw
            case rel => exact ⟨k + 1, l'.set k 0, by omega, by go_num, by rw [List.length_set]; exact hll, HO', Hgr'⟩
            case measure => simp [intOf]; omega
          · have hltI : ¬ (k : Int) < (m.length : Int) := by omega
            have h1 := Blk.grown H1.out hgr.out (by
              rcases own_blk_ne Hmi.out H1.out (by decide) with h | h
              · rw [h]; simp
              · exact fun e => h e.symm)
            have h7 := Blk.grown H7.out hgr.out (by
              rcases own_blk_ne Hmi.out H7.out (by decide) with h | h
              · rw [h]; simp
              · exact fun e => h e.symm)
            have hd : VOwn wq _ A7 c7 f.vips := ⟨HD.out.1.kept hgr.out (own_types_ne HD.out.1 Hmi.out (by decide)), HD.out.2⟩
            have bw := Bw.out.grown hgr.out Bw.out.size (fun k hk => by have := (Hmi.out.lt k hk).1; have := hge8; omega)
            clear H1 H7 HD Bw Hmi hO hgr
            have H1 := Lib.hid h1
            have H7 := Lib.hid h7
            have HD := Lib.hid hd
            have Bw : Hid (Below w.heap.size w wq) := Lib.hid bw
            clear h1 h7 hd bw
            have R1 := Lib.hid (blk_range H1.out)
            have R7 := Lib.hid (blk_range H7.out)
            go_wp2_with (first
              | ((with_reducible refine gateL 29 ?_); refine wpList_load_g (by rfl) 29 (.tmp 1) rfl w.heap.size 0 rfl (confCs A f.vips.length c f) _ R1.out conf_under rfl (conf_szL Hs.out) ?_)
              | ((with_reducible refine gateL 29 ?_); refine wpList_load_g (by rfl) 29 (.tmp 7) rfl w10.heap.size 0 rfl (confCs A7 f.vips.length c7 f) _ R7.out conf_under rfl (conf_szL Hs.out) ?_))
            clear R1
            clear R7
            refine (rsameE A7 c7 f Hs.out A c f Hs.out wq true (same_self f) HD.out.vs ((Hvr.out.below Bw.out).more Bw.out.size) (by omega) (by omega)).mono ?_
            rintro e w12 ⟨rfl, hb16⟩
            have Hb16 := Lib.hid hb16
            clear hb16
            have H1' := Lib.hid (Blk.below H1.out Hb16.out H1.out.lt)
            clear H1
            have H1 := H1'
            clear H1'
            have H7' := Lib.hid (Blk.below H7.out Hb16.out H7.out.lt)
            clear H7
            have H7 := H7'
            clear H7'
            have Bw' : Hid (Below w.heap.size w w12) := Bw.out.trans (Hb16.out.mono Bw.out.size)
            clear Bw
            have Bw := Bw'
            clear Bw'
            clear Hb16
            go_wp2
            go_ret
            exact ⟨rfl, Bw.out⟩
end Go.Proofs.Ytmkeljcjhcaigaa
