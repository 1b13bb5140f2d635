/- ConfCuts: a config's bytes, cut off anywhere, or with more behind them, are none's (printed by gen_ccuts.py). -/
import Derived.Test.YtmkeljcjhcaigaaCwC
namespace Go.Proofs.Ytmkeljcjhcaigaa
open Go.RowKit
set_option linter.unusedVariables false
set_option linter.unusedSimpArgs false

set_option maxHeartbeats 1000000 in
set_option maxRecDepth 100000 in
theorem walk_confCuts (w : World) (A : Option Addr) (n c : Nat) (f : ConfP) (hn : n = f.vips.length) (hnc : n ≤ c) (hm : n ≤ maxLen) (hb : VS w w.heap.size A f.vips) (hs : ConfShape f) (cut : Int) (wcut : (Lit.int .u16 cut).wf = true)
    (A2 : Option Addr) (n2 c2 : Nat) (l2 : List UInt8) (hn2 : n2 = l2.length) (hc2 : n2 ≤ c2) (hm2 : n2 ≤ maxLen) (hb2 : BS w w.heap.size A2 l2) :
    Calls Try.prog 7 #[confV A n c f, .int .u16 cut, .slice A2 n2 c2] w fun e w' => e = .returned (.bool true) ∧ Below w.heap.size w w' := by
  subst hn hn2
  unfold confV
  obtain ⟨at', rfl, hat'⟩ := u16_of_wf wcut
  obtain ⟨W, hW⟩ : ∃ W, W = w.alloc (.cells (confCs A f.vips.length c f).toArray 29) := ⟨_, rfl⟩
  have H3 : Hid (Blk W w.heap.size 29 (confCs A f.vips.length c f).toArray) := by rw [hW]; exact Blk.new w _ _ _ rfl
  have hB : Below w.heap.size w W := by rw [hW]; exact (Below.refl _ _).alloc (Nat.le_refl _) _
  have Bw := Lib.hid hB
  have Hv := Lib.hid ((hb.below hB).more hB.size)
  have Hm := Lib.hid ((hb2.below hB).more hB.size)
  have Hs := Lib.hid hs
  have HW := Lib.hid hW
  unfold maxLen at hm hm2
  clear hW hB hb hb2 hs wcut
  by_cases hf : f.vips.length ≤ 100
  · by_cases h2 : l2.length ≤ 100
    · have hlI : ¬ (100 : Int) < (l2.length : Int) := by omega
      obtain ⟨F0, hF0⟩ : ∃ F, F = conf0 := ⟨_, rfl⟩
      have HF0 : Hid (ConfShape F0) := by rw [hF0]; exact conf0_shape
      have HE0 := Lib.hid hF0
      clear hF0
      rcases hr : rightB f with _ | _
      · have Hr := Lib.hid hr
        clear hr
        go_enter Try.func7, Try.ntmps7
        go_upto_region 1 with fail
        rw [← HW.out]
        clear HW
        go_wp2_with fail
        refine (awake22 W).mono ?_
        rintro e w1 ⟨rfl, hb1⟩
        have Hb1 := Lib.hid hb1
        clear hb1
        have H3' := Lib.hid (Blk.below H3.out Hb1.out H3.out.lt)
        clear H3
        have H3 := H3'
        clear H3'
        have Hv' := Lib.hid ((Hv.out.below Hb1.out).more Hb1.out.size)
        clear Hv
        have Hv := Hv'
        clear Hv'
        have Hm' := Lib.hid ((Hm.out.below Hb1.out).more Hb1.out.size)
        clear Hm
        have Hm := Hm'
        clear Hm'
        have Bw' : Hid (Below w.heap.size w w1) := Bw.out.trans (Hb1.out.mono Bw.out.size)
        clear Bw
        have Bw := Bw'
        clear Bw'
        clear Hb1
        have R3 := Lib.hid (blk_range H3.out)
        go_wp2_with (first
          | ((with_reducible refine gateL 29 ?_); refine wpList_load_g (by rfl) 29 (.tmp 3) rfl w.heap.size 0 rfl (confCs A f.vips.length c f) _ R3.out conf_under rfl (conf_szL Hs.out) ?_))
        clear R3
        refine (few_yes A f.vips.length c f hf w1).mono ?_
        rintro e w2 ⟨rfl, hb2⟩
        have Hb2 := Lib.hid hb2
        clear hb2
        have H3' := Lib.hid (Blk.below H3.out Hb2.out H3.out.lt)
        clear H3
        have H3 := H3'
        clear H3'
        have Hv' := Lib.hid ((Hv.out.below Hb2.out).more Hb2.out.size)
        clear Hv
        have Hv := Hv'
        clear Hv'
        have Hm' := Lib.hid ((Hm.out.below Hb2.out).more Hb2.out.size)
        clear Hm
        have Hm := Hm'
        clear Hm'
        have Bw' : Hid (Below w.heap.size w w2) := Bw.out.trans (Hb2.out.mono Bw.out.size)
        clear Bw
        have Bw := Bw'
        clear Bw'
        clear Hb2
        have R3 := Lib.hid (blk_range H3.out)
        go_wp2_with (first
          | ((with_reducible refine gateL 29 ?_); refine wpList_load_g (by rfl) 29 (.tmp 3) rfl w.heap.size 0 rfl (confCs A f.vips.length c f) _ R3.out conf_under rfl (conf_szL Hs.out) ?_))
        clear R3
        refine (putC_no A c f Hs.out w2 Hr.out hnc Hv.out (by omega)).mono ?_
        rintro e w3 ⟨rfl, hb3⟩
        have Hb3 := Lib.hid hb3
        clear hb3
        have H3' := Lib.hid (Blk.below H3.out Hb3.out H3.out.lt)
        clear H3
        have H3 := H3'
        clear H3'
        have Hv' := Lib.hid ((Hv.out.below Hb3.out).more Hb3.out.size)
        clear Hv
        have Hv := Hv'
        clear Hv'
        have Hm' := Lib.hid ((Hm.out.below Hb3.out).more Hb3.out.size)
        clear Hm
        have Hm := Hm'
        clear Hm'
        have Bw' : Hid (Below w.heap.size w w3) := Bw.out.trans (Hb3.out.mono Bw.out.size)
        clear Bw
        have Bw := Bw'
        clear Bw'
        clear Hb3
        go_wp2
        go_ret
        exact ⟨rfl, Bw.out⟩
      · have hpos := confPut_pos f
        have hle := confPut_le Hs.out hr
        have hcutN := @confCut f Hs.out hr (at' % (confPutS f).length) (Nat.mod_lt _ hpos)
        have hmore : l2 ≠ [] → confGetS (confPutS f ++ l2) = none := fun h => confMore Hs.out hr h
        have hown := confOwn Hs.out hr
        obtain ⟨m, hmm⟩ : ∃ m, m = confPutS f := ⟨_, rfl⟩
        rw [← hmm] at hpos hle hcutN hmore hown
        have Hcut := Lib.hid hcutN
        have Hmore := Lib.hid hmore
        have Hown := Lib.hid hown
        have Hmm := Lib.hid hmm.symm
        have Hr := Lib.hid hr
        clear hr hcutN hmore hown hmm
        obtain ⟨i0, hi0, hz0, hz1, hz2⟩ := info_parts u8_infoO
        go_enter Try.func7, Try.ntmps7
        go_upto_region 1 with fail
        rw [← HW.out]
        clear HW
        go_wp2_with fail
        refine (awake22 W).mono ?_
        rintro e w1 ⟨rfl, hb4⟩
        have Hb4 := Lib.hid hb4
        clear hb4
        have H3' := Lib.hid (Blk.below H3.out Hb4.out H3.out.lt)
        clear H3
        have H3 := H3'
        clear H3'
        have Hv' := Lib.hid ((Hv.out.below Hb4.out).more Hb4.out.size)
        clear Hv
        have Hv := Hv'
        clear Hv'
        have Hm' := Lib.hid ((Hm.out.below Hb4.out).more Hb4.out.size)
        clear Hm
        have Hm := Hm'
        clear Hm'
        have Bw' : Hid (Below w.heap.size w w1) := Bw.out.trans (Hb4.out.mono Bw.out.size)
        clear Bw
        have Bw := Bw'
        clear Bw'
        clear Hb4
        have R3 := Lib.hid (blk_range H3.out)
        go_wp2_with (first
          | ((with_reducible refine gateL 29 ?_); refine wpList_load_g (by rfl) 29 (.tmp 3) rfl w.heap.size 0 rfl (confCs A f.vips.length c f) _ R3.out conf_under rfl (conf_szL Hs.out) ?_))
        clear R3
        refine (few_yes A f.vips.length c f hf w1).mono ?_
        rintro e w2 ⟨rfl, hb5⟩
        have Hb5 := Lib.hid hb5
        clear hb5
        have H3' := Lib.hid (Blk.below H3.out Hb5.out H3.out.lt)
        clear H3
        have H3 := H3'
        clear H3'
        have Hv' := Lib.hid ((Hv.out.below Hb5.out).more Hb5.out.size)
        clear Hv
        have Hv := Hv'
        clear Hv'
        have Hm' := Lib.hid ((Hm.out.below Hb5.out).more Hb5.out.size)
        clear Hm
        have Hm := Hm'
        clear Hm'
        have Bw' : Hid (Below w.heap.size w w2) := Bw.out.trans (Hb5.out.mono Bw.out.size)
        clear Bw
        have Bw := Bw'
        clear Bw'
        clear Hb5
        have R3 := Lib.hid (blk_range H3.out)
        go_wp2_with (first
          | ((with_reducible refine gateL 29 ?_); refine wpList_load_g (by rfl) 29 (.tmp 3) rfl w.heap.size 0 rfl (confCs A f.vips.length c f) _ R3.out conf_under rfl (conf_szL Hs.out) ?_))
        clear R3
        refine (putC_yes A c f Hs.out w2 Hr.out hnc Hv.out (by omega) m Hmm.out).mono ?_
        rintro e w3 ⟨A3, c3, rfl, hown3, hb6⟩
        have Hb6 := Lib.hid hb6
        clear hb6
        have Ho := Lib.hid hown3
        clear hown3
        have H3' := Lib.hid (Blk.below H3.out Hb6.out H3.out.lt)
        clear H3
        have H3 := H3'
        clear H3'
        have Hv' := Lib.hid ((Hv.out.below Hb6.out).more Hb6.out.size)
        clear Hv
        have Hv := Hv'
        clear Hv'
        have Hm' := Lib.hid ((Hm.out.below Hb6.out).more Hb6.out.size)
        clear Hm
        have Hm := Hm'
        clear Hm'
        have Bw' : Hid (Below w.heap.size w w3) := Bw.out.trans (Hb6.out.mono Bw.out.size)
        clear Bw
        have Bw := Bw'
        clear Bw'
        clear Hb6
        have hc3 : m.length ≤ c3 := own_le Ho.out
        have hposI : ¬ (m.length : Int) = 0 := by omega
        have hkl : at' % m.length < m.length := Nat.mod_lt _ (by omega)
        have hk1 : (0 : Int) ≤ (at' : Int) % (m.length : Int) := by omega
        have hk2 : (at' : Int) % (m.length : Int) ≤ (c3 : Int) := by omega
        have HLk : Hid (at' % m.length = (m.take (at' % m.length)).length) := by show _ = _; rw [List.length_take, Nat.min_eq_left (Nat.le_of_lt hkl)]
        have hlen0 : ((m.length : Int) == 0) = false := beq_eq_false_iff_ne.2 (by omega)
        go_wp2_with fail
        refine (getC_no A3 _ c3 _ w3 HLk.out ((BS.of_own Ho.out).1.take _) (by omega) Hcut.out F0 HE0.out).mono ?_
        rintro e w4 ⟨rfl, hb7⟩
        have Hb7 := Lib.hid hb7
        clear hb7
        have H3' := Lib.hid (Blk.below H3.out Hb7.out H3.out.lt)
        clear H3
        have H3 := H3'
        clear H3'
        have Hv' := Lib.hid ((Hv.out.below Hb7.out).more Hb7.out.size)
        clear Hv
        have Hv := Hv'
        clear Hv'
        have Hm' := Lib.hid ((Hm.out.below Hb7.out).more Hb7.out.size)
        clear Hm
        have Hm := Hm'
        clear Hm'
        have Ho' := Lib.hid (own_below Ho.out Hb7.out)
        clear Ho
        have Ho := Ho'
        clear Ho'
        have Bw' : Hid (Below w.heap.size w w4) := Bw.out.trans (Hb7.out.mono Bw.out.size)
        clear Bw
        have Bw := Bw'
        clear Bw'
        clear Hb7
        obtain ⟨x8, hx8⟩ : ∃ W, W = w4.alloc (.cells (confCs none 0 0 conf0).toArray 29) := ⟨_, rfl⟩
        obtain ⟨y8, hy8⟩ : ∃ W, W = x8.setCells w4.heap.size 0 (confCs none 0 0 F0) := ⟨_, rfl⟩
        obtain ⟨hth8, hbx8, hbe8⟩ := boxed w4 x8 y8 29 (confCs none 0 0 conf0) (confCs none 0 0 F0) (by rw [conf_len HF0.out, conf_len conf0_shape]) hx8 hy8
        rw [conf0_lit] at hx8
        have HX8 := Lib.hid hx8
        have HY8 := Lib.hid hy8
        have Hth8 := Lib.hid hth8
        have Hbe8 := Lib.hid hbe8
        have H9n := Lib.hid hbx8
        clear hx8 hy8 hth8 hbx8 hbe8
        have R3 := Lib.hid (blk_range H3.out)
        go_upto_region 7 with (first
          | ((with_reducible refine gateL 29 ?_); refine wpList_load_g (by rfl) 29 (.tmp 3) rfl w.heap.size 0 rfl (confCs A f.vips.length c f) _ R3.out conf_under rfl (conf_szL Hs.out) ?_)
          | (rw [← HX8.out]; (with_reducible refine gateS 29 ?_); refine wpList_store_mid rfl 29 (.tmp 9) (.tmp 49) rfl w4.heap.size 0 (confCs none 0 0 F0).toArray rfl rfl Hth8.out (conf_szA HF0.out) (conf_one none 0 0 F0) ?_))
        clear R3
        rw [← HY8.out]
        clear HX8 HY8 Hth8
        have H3' := Lib.hid (Blk.below H3.out Hbe8.out H3.out.lt)
        clear H3
        have H3 := H3'
        clear H3'
        have Hv' := Lib.hid ((Hv.out.below Hbe8.out).more Hbe8.out.size)
        clear Hv
        have Hv := Hv'
        clear Hv'
        have Hm' := Lib.hid ((Hm.out.below Hbe8.out).more Hbe8.out.size)
        clear Hm
        have Hm := Hm'
        clear Hm'
        have Ho' := Lib.hid (own_below Ho.out Hbe8.out)
        clear Ho
        have Ho := Ho'
        clear Ho'
        have Bw' : Hid (Below w.heap.size w y8) := Bw.out.trans (Hbe8.out.mono Bw.out.size)
        clear Bw
        have Bw := Bw'
        clear Bw'
        have H9 := H9n
        clear H9n Hbe8
        clear H9
        go_wp2_with (first
            | (at_builtin
               refine wpList_append_bytes _ rfl (.tmp 52) (.tmp 53) 40 rfl y8.heap.size 5 i0 (.int .u8 0) 1 Try.underlying40 hi0 hz0 hz1 hz2 rfl (.slice (some ⟨y8.heap.size, 0, none⟩) 0 0) [] rfl (own_none y8 _ _ (Nat.le_refl _) _ rfl) (y8.alloc (.cells #[] 5)).heap.size A3 _ c3 m rfl rfl (BS.of_own (own_below Ho.out ((Below.refl _ _).alloc (Nat.le_refl _) _))).1 ?_ ?_ ?_ ?_
               · go_loud (simp; unfold maxLen; omega)
               · go_loud (simp; omega)
               · go_loud (simp)
               intro A5 c5 w5 hown5 hg5 _
               have Hg5 : Hid (Below y8.heap.size y8 w5) := ((Below.refl _ _).alloc (Nat.le_refl _) _).grown hg5 (by simp) (fun k hk => by simp [Value.ownBlock] at hk; omega)
               have hown5' : w5.ownsRow y8.heap.size 5 1 (.slice A5 m.length c5) m.length (bcells m) := by simpa using hown5
               have Hown5 := Lib.hid hown5'
               have Hm5 := Lib.hid ((Hm.out.below Hg5.out).more Hg5.out.size)
               clear hown5 hown5' hg5)
            | (at_builtin
               refine wpList_append_bytes _ rfl (.tmp 54) (.tmp 55) 40 rfl y8.heap.size 5 i0 (.int .u8 0) 1 Try.underlying40 hi0 hz0 hz1 hz2 rfl (.slice A5 m.length c5) m rfl Hown5.out w5.heap.size A2 _ c2 l2 rfl rfl Hm5.out ?_ ?_ Hg5.out.size ?_
               · go_loud (unfold maxLen; omega)
               · go_loud (omega)
               intro A6 c6 w6 hown6 hg6 _
               have Hown6 := Lib.hid hown6
               have Hg6 : Hid (Below y8.heap.size y8 w6) := Hg5.out.grown hg6 Hg5.out.size (fun k hk => (Hown5.out.lt k hk).1)
               clear hown6 hg6))
        clear hi0 hz0 hz1 hz2
        have H3' := Lib.hid (Blk.below H3.out Hg6.out H3.out.lt)
        clear H3
        have H3 := H3'
        clear H3'
        have Hv' := Lib.hid ((Hv.out.below Hg6.out).more Hg6.out.size)
        clear Hv
        have Hv := Hv'
        clear Hv'
        have Hm' := Lib.hid ((Hm.out.below Hg6.out).more Hg6.out.size)
        clear Hm
        have Hm := Hm'
        clear Hm'
        have Ho' := Lib.hid (own_below Ho.out Hg6.out)
        clear Ho
        have Ho := Ho'
        clear Ho'
        have Bw' : Hid (Below w.heap.size w w6) := Bw.out.trans (Hg6.out.mono Bw.out.size)
        clear Bw
        have Bw := Bw'
        clear Bw'
        clear Hg5 Hg6 Hown5 Hm5
        have H6l : (m ++ l2).length ≤ 1000000000 := by rw [List.length_append]; omega
        by_cases hnil : l2.length = 0
        · have Hy : Hid (confGetS (m ++ l2) = some f) := by
            have hl : l2 = [] := List.eq_nil_of_length_eq_zero hnil
            rw [hl, List.append_nil]
            exact Hown.out
          have hl0 : ((l2.length : Int) == 0) = true := beq_iff_eq.2 (by omega)
          clear hnil
          refine (getC_yes A6 _ c6 (m ++ l2) w6 (by simp) (BS.of_own Hown6.out).1 (by simpa using H6l) f Hy.out).mono ?_
          rintro e w7 ⟨A7, c7, rfl, _, _, _, hb9⟩
          have Hb9 := Lib.hid hb9
          clear hb9
          have H3' := Lib.hid (Blk.below H3.out Hb9.out H3.out.lt)
          clear H3
          have H3 := H3'
          clear H3'
          have Hv' := Lib.hid ((Hv.out.below Hb9.out).more Hb9.out.size)
          clear Hv
          have Hv := Hv'
          clear Hv'
          have Hm' := Lib.hid ((Hm.out.below Hb9.out).more Hb9.out.size)
          clear Hm
          have Hm := Hm'
          clear Hm'
          have Ho' := Lib.hid (own_below Ho.out Hb9.out)
          clear Ho
          have Ho := Ho'
          clear Ho'
          have Bw' : Hid (Below w.heap.size w w7) := Bw.out.trans (Hb9.out.mono Bw.out.size)
          clear Bw
          have Bw := Bw'
          clear Bw'
          clear Hb9
          obtain ⟨x10, hx10⟩ : ∃ W, W = w7.alloc (.cells (confCs none 0 0 conf0).toArray 29) := ⟨_, rfl⟩
          obtain ⟨y10, hy10⟩ : ∃ W, W = x10.setCells w7.heap.size 0 (confCs A7 f.vips.length c7 f) := ⟨_, rfl⟩
          obtain ⟨hth10, hbx10, hbe10⟩ := boxed w7 x10 y10 29 (confCs none 0 0 conf0) (confCs A7 f.vips.length c7 f) (by rw [conf_len Hs.out, conf_len conf0_shape]) hx10 hy10
          rw [conf0_lit] at hx10
          have HX10 := Lib.hid hx10
          have HY10 := Lib.hid hy10
          have Hth10 := Lib.hid hth10
          have Hbe10 := Lib.hid hbe10
          have H11n := Lib.hid hbx10
          clear hx10 hy10 hth10 hbx10 hbe10
          have R3 := Lib.hid (blk_range H3.out)
          go_upto_region 8 with (first
            | ((with_reducible refine gateL 29 ?_); refine wpList_load_g (by rfl) 29 (.tmp 3) rfl w.heap.size 0 rfl (confCs A f.vips.length c f) _ R3.out conf_under rfl (conf_szL Hs.out) ?_)
            | (rw [← HX10.out]; (with_reducible refine gateS 29 ?_); refine wpList_store_mid rfl 29 (.tmp 11) (.tmp 58) rfl w7.heap.size 0 (confCs A7 f.vips.length c7 f).toArray rfl rfl Hth10.out (conf_szA Hs.out) (conf_one A7 f.vips.length c7 f) ?_))
          clear R3
          rw [← HY10.out]
          clear HX10 HY10 Hth10
          have H3' := Lib.hid (Blk.below H3.out Hbe10.out H3.out.lt)
          clear H3
          have H3 := H3'
          clear H3'
          have Hv' := Lib.hid ((Hv.out.below Hbe10.out).more Hbe10.out.size)
          clear Hv
          have Hv := Hv'
          clear Hv'
          have Hm' := Lib.hid ((Hm.out.below Hbe10.out).more Hbe10.out.size)
          clear Hm
          have Hm := Hm'
          clear Hm'
          have Ho' := Lib.hid (own_below Ho.out Hbe10.out)
          clear Ho
          have Ho := Ho'
          clear Ho'
          have Bw' : Hid (Below w.heap.size w y10) := Bw.out.trans (Hbe10.out.mono Bw.out.size)
          clear Bw
          have Bw := Bw'
          clear Bw'
          have H11 := H11n
          clear H11n Hbe10
          go_wp2
          go_ret
          exact ⟨rfl, Bw.out⟩
        · have Hy : Hid (confGetS (m ++ l2) = none) := Hmore.out (fun h => hnil (by rw [h]; rfl))
          have hl0 : ((l2.length : Int) == 0) = false := beq_eq_false_iff_ne.2 (by omega)
          clear hnil
          refine (getC_no A6 _ c6 (m ++ l2) w6 (by simp) (BS.of_own Hown6.out).1 (by simpa using H6l) Hy.out F0 HE0.out).mono ?_
          rintro e w7 ⟨rfl, hb11⟩
          have Hb11 := Lib.hid hb11
          clear hb11
          have H3' := Lib.hid (Blk.below H3.out Hb11.out H3.out.lt)
          clear H3
          have H3 := H3'
          clear H3'
          have Hv' := Lib.hid ((Hv.out.below Hb11.out).more Hb11.out.size)
          clear Hv
          have Hv := Hv'
          clear Hv'
          have Hm' := Lib.hid ((Hm.out.below Hb11.out).more Hb11.out.size)
          clear Hm
          have Hm := Hm'
          clear Hm'
          have Ho' := Lib.hid (own_below Ho.out Hb11.out)
          clear Ho
          have Ho := Ho'
          clear Ho'
          have Bw' : Hid (Below w.heap.size w w7) := Bw.out.trans (Hb11.out.mono Bw.out.size)
          clear Bw
          have Bw := Bw'
          clear Bw'
          clear Hb11
          obtain ⟨x12, hx12⟩ : ∃ W, W = w7.alloc (.cells (confCs none 0 0 conf0).toArray 29) := ⟨_, rfl⟩
          obtain ⟨y12, hy12⟩ : ∃ W, W = x12.setCells w7.heap.size 0 (confCs none 0 0 F0) := ⟨_, rfl⟩
          obtain ⟨hth12, hbx12, hbe12⟩ := boxed w7 x12 y12 29 (confCs none 0 0 conf0) (confCs none 0 0 F0) (by rw [conf_len HF0.out, conf_len conf0_shape]) hx12 hy12
          rw [conf0_lit] at hx12
          have HX12 := Lib.hid hx12
          have HY12 := Lib.hid hy12
          have Hth12 := Lib.hid hth12
          have Hbe12 := Lib.hid hbe12
          have H11n := Lib.hid hbx12
          clear hx12 hy12 hth12 hbx12 hbe12
          have R3 := Lib.hid (blk_range H3.out)
          go_upto_region 8 with (first
            | ((with_reducible refine gateL 29 ?_); refine wpList_load_g (by rfl) 29 (.tmp 3) rfl w.heap.size 0 rfl (confCs A f.vips.length c f) _ R3.out conf_under rfl (conf_szL Hs.out) ?_)
            | (rw [← HX12.out]; (with_reducible refine gateS 29 ?_); refine wpList_store_mid rfl 29 (.tmp 11) (.tmp 58) rfl w7.heap.size 0 (confCs none 0 0 F0).toArray rfl rfl Hth12.out (conf_szA HF0.out) (conf_one none 0 0 F0) ?_))
          clear R3
          rw [← HY12.out]
          clear HX12 HY12 Hth12
          have H3' := Lib.hid (Blk.below H3.out Hbe12.out H3.out.lt)
          clear H3
          have H3 := H3'
          clear H3'
          have Hv' := Lib.hid ((Hv.out.below Hbe12.out).more Hbe12.out.size)
          clear Hv
          have Hv := Hv'
          clear Hv'
          have Hm' := Lib.hid ((Hm.out.below Hbe12.out).more Hbe12.out.size)
          clear Hm
          have Hm := Hm'
          clear Hm'
          have Ho' := Lib.hid (own_below Ho.out Hbe12.out)
          clear Ho
          have Ho := Ho'
          clear Ho'
          have Bw' : Hid (Below w.heap.size w y12) := Bw.out.trans (Hbe12.out.mono Bw.out.size)
          clear Bw
          have Bw := Bw'
          clear Bw'
          have H11 := H11n
          clear H11n Hbe12
          go_wp2
          go_ret
          exact ⟨rfl, Bw.out⟩
    · have hlI : (100 : Int) < (l2.length : Int) := by omega
      go_enter Try.func7, Try.ntmps7
      go_upto_region 1 with fail
      rw [← HW.out]
      clear HW
      go_wp2_with fail
      refine (awake22 W).mono ?_
      rintro e w1 ⟨rfl, hb13⟩
      have Hb13 := Lib.hid hb13
      clear hb13
      have H3' := Lib.hid (Blk.below H3.out Hb13.out H3.out.lt)
      clear H3
      have H3 := H3'
      clear H3'
      have Hv' := Lib.hid ((Hv.out.below Hb13.out).more Hb13.out.size)
      clear Hv
      have Hv := Hv'
      clear Hv'
      have Hm' := Lib.hid ((Hm.out.below Hb13.out).more Hb13.out.size)
      clear Hm
      have Hm := Hm'
      clear Hm'
      have Bw' : Hid (Below w.heap.size w w1) := Bw.out.trans (Hb13.out.mono Bw.out.size)
      clear Bw
      have Bw := Bw'
      clear Bw'
      clear Hb13
      have R3 := Lib.hid (blk_range H3.out)
      go_wp2_with (first
        | ((with_reducible refine gateL 29 ?_); refine wpList_load_g (by rfl) 29 (.tmp 3) rfl w.heap.size 0 rfl (confCs A f.vips.length c f) _ R3.out conf_under rfl (conf_szL Hs.out) ?_))
      clear R3
      refine (few_yes A f.vips.length c f hf w1).mono ?_
      rintro e w2 ⟨rfl, hb14⟩
      have Hb14 := Lib.hid hb14
      clear hb14
      have H3' := Lib.hid (Blk.below H3.out Hb14.out H3.out.lt)
      clear H3
      have H3 := H3'
      clear H3'
      have Hv' := Lib.hid ((Hv.out.below Hb14.out).more Hb14.out.size)
      clear Hv
      have Hv := Hv'
      clear Hv'
      have Hm' := Lib.hid ((Hm.out.below Hb14.out).more Hb14.out.size)
      clear Hm
      have Hm := Hm'
      clear Hm'
      have Bw' : Hid (Below w.heap.size w w2) := Bw.out.trans (Hb14.out.mono Bw.out.size)
      clear Bw
      have Bw := Bw'
      clear Bw'
      clear Hb14
      go_wp2_with fail
      refine (awake22 w2).mono ?_
      rintro e wz ⟨rfl, hb15⟩
      have Hb15 := Lib.hid hb15
      clear hb15
      have H3' := Lib.hid (Blk.below H3.out Hb15.out H3.out.lt)
      clear H3
      have H3 := H3'
      clear H3'
      have Hv' := Lib.hid ((Hv.out.below Hb15.out).more Hb15.out.size)
      clear Hv
      have Hv := Hv'
      clear Hv'
      have Hm' := Lib.hid ((Hm.out.below Hb15.out).more Hb15.out.size)
      clear Hm
      have Hm := Hm'
      clear Hm'
      have Bw' : Hid (Below w.heap.size w wz) := Bw.out.trans (Hb15.out.mono Bw.out.size)
      clear Bw
      have Bw := Bw'
      clear Bw'
      clear Hb15
      go_wp2
      go_ret
      exact ⟨rfl, Bw.out⟩
  · go_enter Try.func7, Try.ntmps7
    go_upto_region 1 with fail
    rw [← HW.out]
    clear HW
    go_wp2_with fail
    refine (awake22 W).mono ?_
    rintro e w1 ⟨rfl, hb16⟩
    have Hb16 := Lib.hid hb16
    clear hb16
    have H3' := Lib.hid (Blk.below H3.out Hb16.out H3.out.lt)
    clear H3
    have H3 := H3'
    clear H3'
    have Hv' := Lib.hid ((Hv.out.below Hb16.out).more Hb16.out.size)
    clear Hv
    have Hv := Hv'
    clear Hv'
    have Hm' := Lib.hid ((Hm.out.below Hb16.out).more Hb16.out.size)
    clear Hm
    have Hm := Hm'
    clear Hm'
    have Bw' : Hid (Below w.heap.size w w1) := Bw.out.trans (Hb16.out.mono Bw.out.size)
    clear Bw
    have Bw := Bw'
    clear Bw'
    clear Hb16
    have R3 := Lib.hid (blk_range H3.out)
    go_wp2_with (first
      | ((with_reducible refine gateL 29 ?_); refine wpList_load_g (by rfl) 29 (.tmp 3) rfl w.heap.size 0 rfl (confCs A f.vips.length c f) _ R3.out conf_under rfl (conf_szL Hs.out) ?_))
    clear R3
    refine (few_no A f.vips.length c f hf w1).mono ?_
    rintro e w2 ⟨rfl, hb17⟩
    have Hb17 := Lib.hid hb17
    clear hb17
    have H3' := Lib.hid (Blk.below H3.out Hb17.out H3.out.lt)
    clear H3
    have H3 := H3'
    clear H3'
    have Hv' := Lib.hid ((Hv.out.below Hb17.out).more Hb17.out.size)
    clear Hv
    have Hv := Hv'
    clear Hv'
    have Hm' := Lib.hid ((Hm.out.below Hb17.out).more Hb17.out.size)
    clear Hm
    have Hm := Hm'
    clear Hm'
    have Bw' : Hid (Below w.heap.size w w2) := Bw.out.trans (Hb17.out.mono Bw.out.size)
    clear Bw
    have Bw := Bw'
    clear Bw'
    clear Hb17
    go_wp2_with fail
    refine (awake22 w2).mono ?_
    rintro e wz ⟨rfl, hb18⟩
    have Hb18 := Lib.hid hb18
    clear hb18
    have H3' := Lib.hid (Blk.below H3.out Hb18.out H3.out.lt)
    clear H3
    have H3 := H3'
    clear H3'
    have Hv' := Lib.hid ((Hv.out.below Hb18.out).more Hb18.out.size)
    clear Hv
    have Hv := Hv'
    clear Hv'
    have Hm' := Lib.hid ((Hm.out.below Hb18.out).more Hb18.out.size)
    clear Hm
    have Hm := Hm'
    clear Hm'
    have Bw' : Hid (Below w.heap.size w wz) := Bw.out.trans (Hb18.out.mono Bw.out.size)
    clear Bw
    have Bw := Bw'
    clear Bw'
    clear Hb18
    go_wp2
    go_ret
    exact ⟨rfl, Bw.out⟩
end Go.Proofs.Ytmkeljcjhcaigaa
