/- ConfBack: if bytes are a config's, that is right, and has just these; a right config comes back as it was (printed by gen_cback.py). -/
import Derived.Test.YtmkeljcjhcaigaaCwC
namespace Go.Proofs.Ytmkeljcjhcaigaa
open Go.RowKit
set_option linter.unusedVariables false
set_option linter.unusedSimpArgs false

set_option maxHeartbeats 2000000 in
set_option maxRecDepth 100000 in
theorem walk_confBack (w : World) (A0 : Option Addr) (n0 c0 : Nat) (l : List UInt8) (hn0 : n0 = l.length) (hc0 : n0 ≤ c0) (hm0 : n0 ≤ maxLen) (hb0 : BS w w.heap.size A0 l)
    (A : Option Addr) (n c : Nat) (f : ConfP) (hn : n = f.vips.length) (hnc : n ≤ c) (hm : n ≤ maxLen) (hb : VS w w.heap.size A f.vips) (hs : ConfShape f) :
    Calls Try.prog 6 #[.slice A0 n0 c0, confV A n c f] w fun e w' => e = .returned (.bool true) ∧ Below w.heap.size w w' := by
  subst hn hn0
  unfold confV
  obtain ⟨W, hW⟩ : ∃ W, W = w.alloc (.cells (confCs A f.vips.length c f).toArray 29) := ⟨_, rfl⟩
  have H3 : Hid (Blk W w.heap.size 29 (confCs A f.vips.length c f).toArray) := by rw [hW]; exact Blk.new w _ _ _ rfl
  have hB : Below w.heap.size w W := by rw [hW]; exact (Below.refl _ _).alloc (Nat.le_refl _) _
  have Bw := Lib.hid hB
  have Hv := Lib.hid ((hb.below hB).more hB.size)
  have Hm := Lib.hid ((hb0.below hB).more hB.size)
  have Hs := Lib.hid hs
  have HW := Lib.hid hW
  unfold maxLen at hm hm0
  clear hW hB hb hb0 hs
  by_cases h2 : l.length ≤ 3000
  · have hlI : ¬ (3000 : Int) < (l.length : Int) := by omega
    have hlB : decide ((3000 : Int) < (l.length : Int)) = false := decide_eq_false hlI
    by_cases hf : f.vips.length ≤ 100
    · obtain ⟨F0, hF0⟩ : ∃ F, F = conf0 := ⟨_, rfl⟩
      have HF0 : Hid (ConfShape F0) := by rw [hF0]; exact conf0_shape
      have HE0 := Lib.hid hF0
      clear hF0
      rcases hg : confGetS l with _ | d
      · have Hg := Lib.hid hg
        clear hg
        go_enter Try.func6, Try.ntmps6
        go_upto_region 1 with fail
        rw [← HW.out]
        clear HW
        go_wp2_with fail
        refine (awake22 W).mono ?_
        rintro e w1 ⟨rfl, hb1⟩
        have Hb1 := Lib.hid hb1
        clear hb1
        have H3' := Lib.hid (Blk.below H3.out Hb1.out H3.out.lt)
        clear H3
        have H3 := H3'
        clear H3'
        have Hv' := Lib.hid ((Hv.out.below Hb1.out).more Hb1.out.size)
        clear Hv
        have Hv := Hv'
        clear Hv'
        have Hm' := Lib.hid ((Hm.out.below Hb1.out).more Hb1.out.size)
        clear Hm
        have Hm := Hm'
        clear Hm'
        have Bw' : Hid (Below w.heap.size w w1) := Bw.out.trans (Hb1.out.mono Bw.out.size)
        clear Bw
        have Bw := Bw'
        clear Bw'
        clear Hb1
        have R3 := Lib.hid (blk_range H3.out)
        go_wp2_with (first
          | ((with_reducible refine gateL 29 ?_); refine wpList_load_g (by rfl) 29 (.tmp 3) rfl w.heap.size 0 rfl (confCs A f.vips.length c f) _ R3.out conf_under rfl (conf_szL Hs.out) ?_))
        clear R3
        refine (few_yes A f.vips.length c f hf w1).mono ?_
        rintro e w2 ⟨rfl, hb2⟩
        have Hb2 := Lib.hid hb2
        clear hb2
        have H3' := Lib.hid (Blk.below H3.out Hb2.out H3.out.lt)
        clear H3
        have H3 := H3'
        clear H3'
        have Hv' := Lib.hid ((Hv.out.below Hb2.out).more Hb2.out.size)
        clear Hv
        have Hv := Hv'
        clear Hv'
        have Hm' := Lib.hid ((Hm.out.below Hb2.out).more Hb2.out.size)
        clear Hm
        have Hm := Hm'
        clear Hm'
        have Bw' : Hid (Below w.heap.size w w2) := Bw.out.trans (Hb2.out.mono Bw.out.size)
        clear Bw
        have Bw := Bw'
        clear Bw'
        clear Hb2
        go_wp2_with fail
        refine (getC_no A0 _ c0 l w2 rfl Hm.out (by omega) Hg.out F0 HE0.out).mono ?_
        rintro e w3 ⟨rfl, hb3⟩
        have Hb3 := Lib.hid hb3
        clear hb3
        have H3' := Lib.hid (Blk.below H3.out Hb3.out H3.out.lt)
        clear H3
        have H3 := H3'
        clear H3'
        have Hv' := Lib.hid ((Hv.out.below Hb3.out).more Hb3.out.size)
        clear Hv
        have Hv := Hv'
        clear Hv'
        have Hm' := Lib.hid ((Hm.out.below Hb3.out).more Hb3.out.size)
        clear Hm
        have Hm := Hm'
        clear Hm'
        have Bw' : Hid (Below w.heap.size w w3) := Bw.out.trans (Hb3.out.mono Bw.out.size)
        clear Bw
        have Bw := Bw'
        clear Bw'
        clear Hb3
        obtain ⟨x4, hx4⟩ : ∃ W, W = w3.alloc (.cells (confCs none 0 0 conf0).toArray 29) := ⟨_, rfl⟩
        obtain ⟨y4, hy4⟩ : ∃ W, W = x4.setCells w3.heap.size 0 (confCs none 0 0 F0) := ⟨_, rfl⟩
        obtain ⟨hth4, hbx4, hbe4⟩ := boxed w3 x4 y4 29 (confCs none 0 0 conf0) (confCs none 0 0 F0) (by rw [conf_len HF0.out, conf_len conf0_shape]) hx4 hy4
        rw [conf0_lit] at hx4
        have HX4 := Lib.hid hx4
        have HY4 := Lib.hid hy4
        have Hth4 := Lib.hid hth4
        have Hbe4 := Lib.hid hbe4
        have H5n := Lib.hid hbx4
        clear hx4 hy4 hth4 hbx4 hbe4
        have R3 := Lib.hid (blk_range H3.out)
        go_upto_region 4 with (first
          | ((with_reducible refine gateL 29 ?_); refine wpList_load_g (by rfl) 29 (.tmp 3) rfl w.heap.size 0 rfl (confCs A f.vips.length c f) _ R3.out conf_under rfl (conf_szL Hs.out) ?_)
          | (rw [← HX4.out]; (with_reducible refine gateS 29 ?_); refine wpList_store_mid rfl 29 (.tmp 5) (.tmp 29) rfl w3.heap.size 0 (confCs none 0 0 F0).toArray rfl rfl Hth4.out (conf_szA HF0.out) (conf_one none 0 0 F0) ?_))
        clear R3
        rw [← HY4.out]
        clear HX4 HY4 Hth4
        have H3' := Lib.hid (Blk.below H3.out Hbe4.out H3.out.lt)
        clear H3
        have H3 := H3'
        clear H3'
        have Hv' := Lib.hid ((Hv.out.below Hbe4.out).more Hbe4.out.size)
        clear Hv
        have Hv := Hv'
        clear Hv'
        have Hm' := Lib.hid ((Hm.out.below Hbe4.out).more Hbe4.out.size)
        clear Hm
        have Hm := Hm'
        clear Hm'
        have Bw' : Hid (Below w.heap.size w y4) := Bw.out.trans (Hbe4.out.mono Bw.out.size)
        clear Bw
        have Bw := Bw'
        clear Bw'
        have H5 := H5n
        clear H5n Hbe4
        clear H5
        rcases hr : rightB f with _ | _
        · have Hr := Lib.hid hr
          clear hr
          have R3 := Lib.hid (blk_range H3.out)
          go_wp2_with (first
            | ((with_reducible refine gateL 29 ?_); refine wpList_load_g (by rfl) 29 (.tmp 3) rfl w.heap.size 0 rfl (confCs A f.vips.length c f) _ R3.out conf_under rfl (conf_szL Hs.out) ?_))
          clear R3
          refine (putC_no A c f Hs.out y4 Hr.out hnc Hv.out (by omega)).mono ?_
          rintro e w5 ⟨rfl, hb5⟩
          have Hb5 := Lib.hid hb5
          clear hb5
          have H3' := Lib.hid (Blk.below H3.out Hb5.out H3.out.lt)
          clear H3
          have H3 := H3'
          clear H3'
          have Hv' := Lib.hid ((Hv.out.below Hb5.out).more Hb5.out.size)
          clear Hv
          have Hv := Hv'
          clear Hv'
          have Hm' := Lib.hid ((Hm.out.below Hb5.out).more Hb5.out.size)
          clear Hm
          have Hm := Hm'
          clear Hm'
          have Bw' : Hid (Below w.heap.size w w5) := Bw.out.trans (Hb5.out.mono Bw.out.size)
          clear Bw
          have Bw := Bw'
          clear Bw'
          clear Hb5
          have R3 := Lib.hid (blk_range H3.out)
          go_wp2_with (first
            | ((with_reducible refine gateL 29 ?_); refine wpList_load_g (by rfl) 29 (.tmp 3) rfl w.heap.size 0 rfl (confCs A f.vips.length c f) _ R3.out conf_under rfl (conf_szL Hs.out) ?_))
          clear R3
          refine (rightC_is A c f Hs.out w5 false Hr.out hnc Hv.out (by omega)).mono ?_
          rintro e w6 ⟨rfl, hb6⟩
          have Hb6 := Lib.hid hb6
          clear hb6
          have H3' := Lib.hid (Blk.below H3.out Hb6.out H3.out.lt)
          clear H3
          have H3 := H3'
          clear H3'
          have Hv' := Lib.hid ((Hv.out.below Hb6.out).more Hb6.out.size)
          clear Hv
          have Hv := Hv'
          clear Hv'
          have Hm' := Lib.hid ((Hm.out.below Hb6.out).more Hb6.out.size)
          clear Hm
          have Hm := Hm'
          clear Hm'
          have Bw' : Hid (Below w.heap.size w w6) := Bw.out.trans (Hb6.out.mono Bw.out.size)
          clear Bw
          have Bw := Bw'
          clear Bw'
          clear Hb6
          go_wp2
          go_ret
          exact ⟨rfl, Bw.out⟩
        · have hle := confPut_le Hs.out hr
          have hown := confOwn Hs.out hr
          obtain ⟨m, hmm⟩ : ∃ m, m = confPutS f := ⟨_, rfl⟩
          rw [← hmm] at hle hown
          have Hown := Lib.hid hown
          have Hmm := Lib.hid hmm.symm
          have Hr := Lib.hid hr
          clear hr hown hmm
          have R3 := Lib.hid (blk_range H3.out)
          go_wp2_with (first
            | ((with_reducible refine gateL 29 ?_); refine wpList_load_g (by rfl) 29 (.tmp 3) rfl w.heap.size 0 rfl (confCs A f.vips.length c f) _ R3.out conf_under rfl (conf_szL Hs.out) ?_))
          clear R3
          refine (putC_yes A c f Hs.out y4 Hr.out hnc Hv.out (by omega) m Hmm.out).mono ?_
          rintro e w5 ⟨A5, c5, rfl, hown5, hb7⟩
          have Hb7 := Lib.hid hb7
          clear hb7
          have Ho := Lib.hid (BS.of_own hown5).1
          clear hown5
          have H3' := Lib.hid (Blk.below H3.out Hb7.out H3.out.lt)
          clear H3
          have H3 := H3'
          clear H3'
          have Hv' := Lib.hid ((Hv.out.below Hb7.out).more Hb7.out.size)
          clear Hv
          have Hv := Hv'
          clear Hv'
          have Hm' := Lib.hid ((Hm.out.below Hb7.out).more Hb7.out.size)
          clear Hm
          have Hm := Hm'
          clear Hm'
          have Bw' : Hid (Below w.heap.size w w5) := Bw.out.trans (Hb7.out.mono Bw.out.size)
          clear Bw
          have Bw := Bw'
          clear Bw'
          clear Hb7
          go_wp2_with fail
          refine (getC_yes A5 _ c5 m w5 rfl Ho.out (by omega) f Hown.out).mono ?_
          rintro e w6 ⟨A6, c6, rfl, hv6, _, _, hb8⟩
          have Hb8 := Lib.hid hb8
          clear hb8
          have Hv6 := Lib.hid hv6
          clear hv6
          have H3' := Lib.hid (Blk.below H3.out Hb8.out H3.out.lt)
          clear H3
          have H3 := H3'
          clear H3'
          have Hv' := Lib.hid ((Hv.out.below Hb8.out).more Hb8.out.size)
          clear Hv
          have Hv := Hv'
          clear Hv'
          have Hm' := Lib.hid ((Hm.out.below Hb8.out).more Hb8.out.size)
          clear Hm
          have Hm := Hm'
          clear Hm'
          have Ho' := Lib.hid ((Ho.out.below Hb8.out).more Hb8.out.size)
          clear Ho
          have Ho := Ho'
          clear Ho'
          have Bw' : Hid (Below w.heap.size w w6) := Bw.out.trans (Hb8.out.mono Bw.out.size)
          clear Bw
          have Bw := Bw'
          clear Bw'
          clear Hb8
          obtain ⟨x9, hx9⟩ : ∃ W, W = w6.alloc (.cells (confCs none 0 0 conf0).toArray 29) := ⟨_, rfl⟩
          obtain ⟨y9, hy9⟩ : ∃ W, W = x9.setCells w6.heap.size 0 (confCs A6 f.vips.length c6 f) := ⟨_, rfl⟩
          obtain ⟨hth9, hbx9, hbe9⟩ := boxed w6 x9 y9 29 (confCs none 0 0 conf0) (confCs A6 f.vips.length c6 f) (by rw [conf_len Hs.out, conf_len conf0_shape]) hx9 hy9
          rw [conf0_lit] at hx9
          have HX9 := Lib.hid hx9
          have HY9 := Lib.hid hy9
          have Hth9 := Lib.hid hth9
          have Hbe9 := Lib.hid hbe9
          have H11n := Lib.hid hbx9
          clear hx9 hy9 hth9 hbx9 hbe9
          have R3 := Lib.hid (blk_range H3.out)
          go_upto_region 12 with (first
            | ((with_reducible refine gateL 29 ?_); refine wpList_load_g (by rfl) 29 (.tmp 3) rfl w.heap.size 0 rfl (confCs A f.vips.length c f) _ R3.out conf_under rfl (conf_szL Hs.out) ?_)
            | (rw [← HX9.out]; (with_reducible refine gateS 29 ?_); refine wpList_store_mid rfl 29 (.tmp 11) (.tmp 65) rfl w6.heap.size 0 (confCs A6 f.vips.length c6 f).toArray rfl rfl Hth9.out (conf_szA Hs.out) (conf_one A6 f.vips.length c6 f) ?_))
          clear R3
          rw [← HY9.out]
          clear HX9 HY9 Hth9
          have H3' := Lib.hid (Blk.below H3.out Hbe9.out H3.out.lt)
          clear H3
          have H3 := H3'
          clear H3'
          have Hv' := Lib.hid ((Hv.out.below Hbe9.out).more Hbe9.out.size)
          clear Hv
          have Hv := Hv'
          clear Hv'
          have Hm' := Lib.hid ((Hm.out.below Hbe9.out).more Hbe9.out.size)
          clear Hm
          have Hm := Hm'
          clear Hm'
          have Ho' := Lib.hid ((Ho.out.below Hbe9.out).more Hbe9.out.size)
          clear Ho
          have Ho := Ho'
          clear Ho'
          have Hv6' := Lib.hid (Hv6.out.below Hbe9.out)
          clear Hv6
          have Hv6 := Hv6'
          clear Hv6'
          have Bw' : Hid (Below w.heap.size w y9) := Bw.out.trans (Hbe9.out.mono Bw.out.size)
          clear Bw
          have Bw := Bw'
          clear Bw'
          have H11 := H11n
          clear H11n Hbe9
          have R3 := Lib.hid (blk_range H3.out)
          have R11 := Lib.hid (blk_range H11.out)
          go_wp2_with (first
            | ((with_reducible refine gateL 29 ?_); refine wpList_load_g (by rfl) 29 (.tmp 3) rfl w.heap.size 0 rfl (confCs A f.vips.length c f) _ R3.out conf_under rfl (conf_szL Hs.out) ?_)
            | ((with_reducible refine gateL 29 ?_); refine wpList_load_g (by rfl) 29 (.tmp 11) rfl w6.heap.size 0 rfl (confCs A6 f.vips.length c6 f) _ R11.out conf_under rfl (conf_szL Hs.out) ?_))
          clear R3
          clear R11
          refine (sameC_is A6 c6 f Hs.out A c f Hs.out y9 true (sameB_iff.2 rfl) Hv6.out.vs Hv.out (by omega) (by omega)).mono ?_
          rintro e w7 ⟨rfl, hb10⟩
          have Hb10 := Lib.hid hb10
          clear hb10
          have H3' := Lib.hid (Blk.below H3.out Hb10.out H3.out.lt)
          clear H3
          have H3 := H3'
          clear H3'
          have H11' := Lib.hid (Blk.below H11.out Hb10.out H11.out.lt)
          clear H11
          have H11 := H11'
          clear H11'
          have Hv' := Lib.hid ((Hv.out.below Hb10.out).more Hb10.out.size)
          clear Hv
          have Hv := Hv'
          clear Hv'
          have Hm' := Lib.hid ((Hm.out.below Hb10.out).more Hb10.out.size)
          clear Hm
          have Hm := Hm'
          clear Hm'
          have Ho' := Lib.hid ((Ho.out.below Hb10.out).more Hb10.out.size)
          clear Ho
          have Ho := Ho'
          clear Ho'
          have Hv6' := Lib.hid (Hv6.out.below Hb10.out)
          clear Hv6
          have Hv6 := Hv6'
          clear Hv6'
          have Bw' : Hid (Below w.heap.size w w7) := Bw.out.trans (Hb10.out.mono Bw.out.size)
          clear Bw
          have Bw := Bw'
          clear Bw'
          clear Hb10
          go_wp2
          go_ret
          exact ⟨rfl, Bw.out⟩
      · obtain ⟨hp1, hp2, hp3⟩ := confGet_iff.1 hg
        have Hd := Lib.hid hp3
        have Hdr := Lib.hid (rightB_iff.2 hp2)
        have hd64 := (right_vips hp3 hp2).1
        have Hdp := Lib.hid hp1.symm
        have Hg := Lib.hid hg
        clear hg hp1 hp2 hp3
        go_enter Try.func6, Try.ntmps6
        go_upto_region 1 with fail
        rw [← HW.out]
        clear HW
        go_wp2_with fail
        refine (awake22 W).mono ?_
        rintro e w1 ⟨rfl, hb11⟩
        have Hb11 := Lib.hid hb11
        clear hb11
        have H3' := Lib.hid (Blk.below H3.out Hb11.out H3.out.lt)
        clear H3
        have H3 := H3'
        clear H3'
        have Hv' := Lib.hid ((Hv.out.below Hb11.out).more Hb11.out.size)
        clear Hv
        have Hv := Hv'
        clear Hv'
        have Hm' := Lib.hid ((Hm.out.below Hb11.out).more Hb11.out.size)
        clear Hm
        have Hm := Hm'
        clear Hm'
        have Bw' : Hid (Below w.heap.size w w1) := Bw.out.trans (Hb11.out.mono Bw.out.size)
        clear Bw
        have Bw := Bw'
        clear Bw'
        clear Hb11
        have R3 := Lib.hid (blk_range H3.out)
        go_wp2_with (first
          | ((with_reducible refine gateL 29 ?_); refine wpList_load_g (by rfl) 29 (.tmp 3) rfl w.heap.size 0 rfl (confCs A f.vips.length c f) _ R3.out conf_under rfl (conf_szL Hs.out) ?_))
        clear R3
        refine (few_yes A f.vips.length c f hf w1).mono ?_
        rintro e w2 ⟨rfl, hb12⟩
        have Hb12 := Lib.hid hb12
        clear hb12
        have H3' := Lib.hid (Blk.below H3.out Hb12.out H3.out.lt)
        clear H3
        have H3 := H3'
        clear H3'
        have Hv' := Lib.hid ((Hv.out.below Hb12.out).more Hb12.out.size)
        clear Hv
        have Hv := Hv'
        clear Hv'
        have Hm' := Lib.hid ((Hm.out.below Hb12.out).more Hb12.out.size)
        clear Hm
        have Hm := Hm'
        clear Hm'
        have Bw' : Hid (Below w.heap.size w w2) := Bw.out.trans (Hb12.out.mono Bw.out.size)
        clear Bw
        have Bw := Bw'
        clear Bw'
        clear Hb12
        go_wp2_with fail
        refine (getC_yes A0 _ c0 l w2 rfl Hm.out (by omega) d Hg.out).mono ?_
        rintro e w3 ⟨A3, c3, rfl, hv3, hc3, _, hb13⟩
        have Hb13 := Lib.hid hb13
        clear hb13
        have Hv3 := Lib.hid hv3
        clear hv3
        have H3' := Lib.hid (Blk.below H3.out Hb13.out H3.out.lt)
        clear H3
        have H3 := H3'
        clear H3'
        have Hv' := Lib.hid ((Hv.out.below Hb13.out).more Hb13.out.size)
        clear Hv
        have Hv := Hv'
        clear Hv'
        have Hm' := Lib.hid ((Hm.out.below Hb13.out).more Hb13.out.size)
        clear Hm
        have Hm := Hm'
        clear Hm'
        have Bw' : Hid (Below w.heap.size w w3) := Bw.out.trans (Hb13.out.mono Bw.out.size)
        clear Bw
        have Bw := Bw'
        clear Bw'
        clear Hb13
        obtain ⟨x14, hx14⟩ : ∃ W, W = w3.alloc (.cells (confCs none 0 0 conf0).toArray 29) := ⟨_, rfl⟩
        obtain ⟨y14, hy14⟩ : ∃ W, W = x14.setCells w3.heap.size 0 (confCs A3 d.vips.length c3 d) := ⟨_, rfl⟩
        obtain ⟨hth14, hbx14, hbe14⟩ := boxed w3 x14 y14 29 (confCs none 0 0 conf0) (confCs A3 d.vips.length c3 d) (by rw [conf_len Hd.out, conf_len conf0_shape]) hx14 hy14
        rw [conf0_lit] at hx14
        have HX14 := Lib.hid hx14
        have HY14 := Lib.hid hy14
        have Hth14 := Lib.hid hth14
        have Hbe14 := Lib.hid hbe14
        have H5n := Lib.hid hbx14
        clear hx14 hy14 hth14 hbx14 hbe14
        have R3 := Lib.hid (blk_range H3.out)
        go_upto_region 4 with (first
          | ((with_reducible refine gateL 29 ?_); refine wpList_load_g (by rfl) 29 (.tmp 3) rfl w.heap.size 0 rfl (confCs A f.vips.length c f) _ R3.out conf_under rfl (conf_szL Hs.out) ?_)
          | (rw [← HX14.out]; (with_reducible refine gateS 29 ?_); refine wpList_store_mid rfl 29 (.tmp 5) (.tmp 29) rfl w3.heap.size 0 (confCs A3 d.vips.length c3 d).toArray rfl rfl Hth14.out (conf_szA Hd.out) (conf_one A3 d.vips.length c3 d) ?_))
        clear R3
        rw [← HY14.out]
        clear HX14 HY14 Hth14
        have H3' := Lib.hid (Blk.below H3.out Hbe14.out H3.out.lt)
        clear H3
        have H3 := H3'
        clear H3'
        have Hv' := Lib.hid ((Hv.out.below Hbe14.out).more Hbe14.out.size)
        clear Hv
        have Hv := Hv'
        clear Hv'
        have Hm' := Lib.hid ((Hm.out.below Hbe14.out).more Hbe14.out.size)
        clear Hm
        have Hm := Hm'
        clear Hm'
        have Hv3' := Lib.hid (Hv3.out.below Hbe14.out)
        clear Hv3
        have Hv3 := Hv3'
        clear Hv3'
        have Bw' : Hid (Below w.heap.size w y14) := Bw.out.trans (Hbe14.out.mono Bw.out.size)
        clear Bw
        have Bw := Bw'
        clear Bw'
        have H5 := H5n
        clear H5n Hbe14
        have R3 := Lib.hid (blk_range H3.out)
        have R5 := Lib.hid (blk_range H5.out)
        go_wp2_with (first
          | ((with_reducible refine gateL 29 ?_); refine wpList_load_g (by rfl) 29 (.tmp 3) rfl w.heap.size 0 rfl (confCs A f.vips.length c f) _ R3.out conf_under rfl (conf_szL Hs.out) ?_)
          | ((with_reducible refine gateL 29 ?_); refine wpList_load_g (by rfl) 29 (.tmp 5) rfl w3.heap.size 0 rfl (confCs A3 d.vips.length c3 d) _ R5.out conf_under rfl (conf_szL Hd.out) ?_))
        clear R3
        clear R5
        refine (putC_yes A3 c3 d Hd.out y14 Hdr.out hc3 Hv3.out.vs (by omega) l Hdp.out).mono ?_
        rintro e w4 ⟨A4, c4, rfl, hown4, hb15⟩
        have Hb15 := Lib.hid hb15
        clear hb15
        have Ho4 := Lib.hid (BS.of_own hown4).1
        clear hown4
        have H3' := Lib.hid (Blk.below H3.out Hb15.out H3.out.lt)
        clear H3
        have H3 := H3'
        clear H3'
        have H5' := Lib.hid (Blk.below H5.out Hb15.out H5.out.lt)
        clear H5
        have H5 := H5'
        clear H5'
        have Hv' := Lib.hid ((Hv.out.below Hb15.out).more Hb15.out.size)
        clear Hv
        have Hv := Hv'
        clear Hv'
        have Hm' := Lib.hid ((Hm.out.below Hb15.out).more Hb15.out.size)
        clear Hm
        have Hm := Hm'
        clear Hm'
        have Hv3' := Lib.hid (Hv3.out.below Hb15.out)
        clear Hv3
        have Hv3 := Hv3'
        clear Hv3'
        have Bw' : Hid (Below w.heap.size w w4) := Bw.out.trans (Hb15.out.mono Bw.out.size)
        clear Bw
        have Bw := Bw'
        clear Bw'
        clear Hb15
        have hcv1 := run_convert_bs (P := Try.prog) 40 9 5 Try.underlying40 Try.underlying5 Try.underlying9 w4 _ A4 l Ho4.out _ c4 rfl
        have hcv2 := run_convert_bs (P := Try.prog) 40 9 5 Try.underlying40 Try.underlying5 Try.underlying9 w4 _ A0 l Hm.out _ c0 rfl
        have R3 := Lib.hid (blk_range H3.out)
        have R5 := Lib.hid (blk_range H5.out)
        go_wp2_with (first
          | ((with_reducible refine gateL 29 ?_); refine wpList_load_g (by rfl) 29 (.tmp 3) rfl w.heap.size 0 rfl (confCs A f.vips.length c f) _ R3.out conf_under rfl (conf_szL Hs.out) ?_)
          | ((with_reducible refine gateL 29 ?_); refine wpList_load_g (by rfl) 29 (.tmp 5) rfl w3.heap.size 0 rfl (confCs A3 d.vips.length c3 d) _ R5.out conf_under rfl (conf_szL Hd.out) ?_))
        clear R3
        clear R5
        clear hcv1 hcv2
        refine (rightC_is A3 c3 d Hd.out w4 true Hdr.out hc3 Hv3.out.vs (by omega)).mono ?_
        rintro e wr ⟨rfl, hb16⟩
        have Hb16 := Lib.hid hb16
        clear hb16
        have H3' := Lib.hid (Blk.below H3.out Hb16.out H3.out.lt)
        clear H3
        have H3 := H3'
        clear H3'
        have H5' := Lib.hid (Blk.below H5.out Hb16.out H5.out.lt)
        clear H5
        have H5 := H5'
        clear H5'
        have Hv' := Lib.hid ((Hv.out.below Hb16.out).more Hb16.out.size)
        clear Hv
        have Hv := Hv'
        clear Hv'
        have Hm' := Lib.hid ((Hm.out.below Hb16.out).more Hb16.out.size)
        clear Hm
        have Hm := Hm'
        clear Hm'
        have Hv3' := Lib.hid (Hv3.out.below Hb16.out)
        clear Hv3
        have Hv3 := Hv3'
        clear Hv3'
        have Ho4' := Lib.hid ((Ho4.out.below Hb16.out).more Hb16.out.size)
        clear Ho4
        have Ho4 := Ho4'
        clear Ho4'
        have Bw' : Hid (Below w.heap.size w wr) := Bw.out.trans (Hb16.out.mono Bw.out.size)
        clear Bw
        have Bw := Bw'
        clear Bw'
        clear Hb16
        clear H5
        rcases hr : rightB f with _ | _
        · have Hr := Lib.hid hr
          clear hr
          have R3 := Lib.hid (blk_range H3.out)
          go_wp2_with (first
            | ((with_reducible refine gateL 29 ?_); refine wpList_load_g (by rfl) 29 (.tmp 3) rfl w.heap.size 0 rfl (confCs A f.vips.length c f) _ R3.out conf_under rfl (conf_szL Hs.out) ?_))
          clear R3
          refine (putC_no A c f Hs.out wr Hr.out hnc Hv.out (by omega)).mono ?_
          rintro e w5 ⟨rfl, hb17⟩
          have Hb17 := Lib.hid hb17
          clear hb17
          have H3' := Lib.hid (Blk.below H3.out Hb17.out H3.out.lt)
          clear H3
          have H3 := H3'
          clear H3'
          have Hv' := Lib.hid ((Hv.out.below Hb17.out).more Hb17.out.size)
          clear Hv
          have Hv := Hv'
          clear Hv'
          have Hm' := Lib.hid ((Hm.out.below Hb17.out).more Hb17.out.size)
          clear Hm
          have Hm := Hm'
          clear Hm'
          have Hv3' := Lib.hid (Hv3.out.below Hb17.out)
          clear Hv3
          have Hv3 := Hv3'
          clear Hv3'
          have Ho4' := Lib.hid ((Ho4.out.below Hb17.out).more Hb17.out.size)
          clear Ho4
          have Ho4 := Ho4'
          clear Ho4'
          have Bw' : Hid (Below w.heap.size w w5) := Bw.out.trans (Hb17.out.mono Bw.out.size)
          clear Bw
          have Bw := Bw'
          clear Bw'
          clear Hb17
          have R3 := Lib.hid (blk_range H3.out)
          go_wp2_with (first
            | ((with_reducible refine gateL 29 ?_); refine wpList_load_g (by rfl) 29 (.tmp 3) rfl w.heap.size 0 rfl (confCs A f.vips.length c f) _ R3.out conf_under rfl (conf_szL Hs.out) ?_))
          clear R3
          refine (rightC_is A c f Hs.out w5 false Hr.out hnc Hv.out (by omega)).mono ?_
          rintro e w6 ⟨rfl, hb18⟩
          have Hb18 := Lib.hid hb18
          clear hb18
          have H3' := Lib.hid (Blk.below H3.out Hb18.out H3.out.lt)
          clear H3
          have H3 := H3'
          clear H3'
          have Hv' := Lib.hid ((Hv.out.below Hb18.out).more Hb18.out.size)
          clear Hv
          have Hv := Hv'
          clear Hv'
          have Hm' := Lib.hid ((Hm.out.below Hb18.out).more Hb18.out.size)
          clear Hm
          have Hm := Hm'
          clear Hm'
          have Hv3' := Lib.hid (Hv3.out.below Hb18.out)
          clear Hv3
          have Hv3 := Hv3'
          clear Hv3'
          have Ho4' := Lib.hid ((Ho4.out.below Hb18.out).more Hb18.out.size)
          clear Ho4
          have Ho4 := Ho4'
          clear Ho4'
          have Bw' : Hid (Below w.heap.size w w6) := Bw.out.trans (Hb18.out.mono Bw.out.size)
          clear Bw
          have Bw := Bw'
          clear Bw'
          clear Hb18
          go_wp2
          go_ret
          exact ⟨rfl, Bw.out⟩
        · have hle := confPut_le Hs.out hr
          have hown := confOwn Hs.out hr
          obtain ⟨m, hmm⟩ : ∃ m, m = confPutS f := ⟨_, rfl⟩
          rw [← hmm] at hle hown
          have Hown := Lib.hid hown
          have Hmm := Lib.hid hmm.symm
          have Hr := Lib.hid hr
          clear hr hown hmm
          have R3 := Lib.hid (blk_range H3.out)
          go_wp2_with (first
            | ((with_reducible refine gateL 29 ?_); refine wpList_load_g (by rfl) 29 (.tmp 3) rfl w.heap.size 0 rfl (confCs A f.vips.length c f) _ R3.out conf_under rfl (conf_szL Hs.out) ?_))
          clear R3
          refine (putC_yes A c f Hs.out wr Hr.out hnc Hv.out (by omega) m Hmm.out).mono ?_
          rintro e w5 ⟨A5, c5, rfl, hown5, hb19⟩
          have Hb19 := Lib.hid hb19
          clear hb19
          have Ho := Lib.hid (BS.of_own hown5).1
          clear hown5
          have H3' := Lib.hid (Blk.below H3.out Hb19.out H3.out.lt)
          clear H3
          have H3 := H3'
          clear H3'
          have Hv' := Lib.hid ((Hv.out.below Hb19.out).more Hb19.out.size)
          clear Hv
          have Hv := Hv'
          clear Hv'
          have Hm' := Lib.hid ((Hm.out.below Hb19.out).more Hb19.out.size)
          clear Hm
          have Hm := Hm'
          clear Hm'
          have Hv3' := Lib.hid (Hv3.out.below Hb19.out)
          clear Hv3
          have Hv3 := Hv3'
          clear Hv3'
          have Ho4' := Lib.hid ((Ho4.out.below Hb19.out).more Hb19.out.size)
          clear Ho4
          have Ho4 := Ho4'
          clear Ho4'
          have Bw' : Hid (Below w.heap.size w w5) := Bw.out.trans (Hb19.out.mono Bw.out.size)
          clear Bw
          have Bw := Bw'
          clear Bw'
          clear Hb19
          go_wp2_with fail
          refine (getC_yes A5 _ c5 m w5 rfl Ho.out (by omega) f Hown.out).mono ?_
          rintro e w6 ⟨A6, c6, rfl, hv6, _, _, hb20⟩
          have Hb20 := Lib.hid hb20
          clear hb20
          have Hv6 := Lib.hid hv6
          clear hv6
          have H3' := Lib.hid (Blk.below H3.out Hb20.out H3.out.lt)
          clear H3
          have H3 := H3'
          clear H3'
          have Hv' := Lib.hid ((Hv.out.below Hb20.out).more Hb20.out.size)
          clear Hv
          have Hv := Hv'
          clear Hv'
          have Hm' := Lib.hid ((Hm.out.below Hb20.out).more Hb20.out.size)
          clear Hm
          have Hm := Hm'
          clear Hm'
          have Hv3' := Lib.hid (Hv3.out.below Hb20.out)
          clear Hv3
          have Hv3 := Hv3'
          clear Hv3'
          have Ho4' := Lib.hid ((Ho4.out.below Hb20.out).more Hb20.out.size)
          clear Ho4
          have Ho4 := Ho4'
          clear Ho4'
          have Ho' := Lib.hid ((Ho.out.below Hb20.out).more Hb20.out.size)
          clear Ho
          have Ho := Ho'
          clear Ho'
          have Bw' : Hid (Below w.heap.size w w6) := Bw.out.trans (Hb20.out.mono Bw.out.size)
          clear Bw
          have Bw := Bw'
          clear Bw'
          clear Hb20
          obtain ⟨x21, hx21⟩ : ∃ W, W = w6.alloc (.cells (confCs none 0 0 conf0).toArray 29) := ⟨_, rfl⟩
          obtain ⟨y21, hy21⟩ : ∃ W, W = x21.setCells w6.heap.size 0 (confCs A6 f.vips.length c6 f) := ⟨_, rfl⟩
          obtain ⟨hth21, hbx21, hbe21⟩ := boxed w6 x21 y21 29 (confCs none 0 0 conf0) (confCs A6 f.vips.length c6 f) (by rw [conf_len Hs.out, conf_len conf0_shape]) hx21 hy21
          rw [conf0_lit] at hx21
          have HX21 := Lib.hid hx21
          have HY21 := Lib.hid hy21
          have Hth21 := Lib.hid hth21
          have Hbe21 := Lib.hid hbe21
          have H11n := Lib.hid hbx21
          clear hx21 hy21 hth21 hbx21 hbe21
          have R3 := Lib.hid (blk_range H3.out)
          go_upto_region 12 with (first
            | ((with_reducible refine gateL 29 ?_); refine wpList_load_g (by rfl) 29 (.tmp 3) rfl w.heap.size 0 rfl (confCs A f.vips.length c f) _ R3.out conf_under rfl (conf_szL Hs.out) ?_)
            | (rw [← HX21.out]; (with_reducible refine gateS 29 ?_); refine wpList_store_mid rfl 29 (.tmp 11) (.tmp 65) rfl w6.heap.size 0 (confCs A6 f.vips.length c6 f).toArray rfl rfl Hth21.out (conf_szA Hs.out) (conf_one A6 f.vips.length c6 f) ?_))
          clear R3
          rw [← HY21.out]
          clear HX21 HY21 Hth21
          have H3' := Lib.hid (Blk.below H3.out Hbe21.out H3.out.lt)
          clear H3
          have H3 := H3'
          clear H3'
          have Hv' := Lib.hid ((Hv.out.below Hbe21.out).more Hbe21.out.size)
          clear Hv
          have Hv := Hv'
          clear Hv'
          have Hm' := Lib.hid ((Hm.out.below Hbe21.out).more Hbe21.out.size)
          clear Hm
          have Hm := Hm'
          clear Hm'
          have Hv3' := Lib.hid (Hv3.out.below Hbe21.out)
          clear Hv3
          have Hv3 := Hv3'
          clear Hv3'
          have Ho4' := Lib.hid ((Ho4.out.below Hbe21.out).more Hbe21.out.size)
          clear Ho4
          have Ho4 := Ho4'
          clear Ho4'
          have Ho' := Lib.hid ((Ho.out.below Hbe21.out).more Hbe21.out.size)
          clear Ho
          have Ho := Ho'
          clear Ho'
          have Hv6' := Lib.hid (Hv6.out.below Hbe21.out)
          clear Hv6
          have Hv6 := Hv6'
          clear Hv6'
          have Bw' : Hid (Below w.heap.size w y21) := Bw.out.trans (Hbe21.out.mono Bw.out.size)
          clear Bw
          have Bw := Bw'
          clear Bw'
          have H11 := H11n
          clear H11n Hbe21
          have R3 := Lib.hid (blk_range H3.out)
          have R11 := Lib.hid (blk_range H11.out)
          go_wp2_with (first
            | ((with_reducible refine gateL 29 ?_); refine wpList_load_g (by rfl) 29 (.tmp 3) rfl w.heap.size 0 rfl (confCs A f.vips.length c f) _ R3.out conf_under rfl (conf_szL Hs.out) ?_)
            | ((with_reducible refine gateL 29 ?_); refine wpList_load_g (by rfl) 29 (.tmp 11) rfl w6.heap.size 0 rfl (confCs A6 f.vips.length c6 f) _ R11.out conf_under rfl (conf_szL Hs.out) ?_))
          clear R3
          clear R11
          refine (sameC_is A6 c6 f Hs.out A c f Hs.out y21 true (sameB_iff.2 rfl) Hv6.out.vs Hv.out (by omega) (by omega)).mono ?_
          rintro e w7 ⟨rfl, hb22⟩
          have Hb22 := Lib.hid hb22
          clear hb22
          have H3' := Lib.hid (Blk.below H3.out Hb22.out H3.out.lt)
          clear H3
          have H3 := H3'
          clear H3'
          have H11' := Lib.hid (Blk.below H11.out Hb22.out H11.out.lt)
          clear H11
          have H11 := H11'
          clear H11'
          have Hv' := Lib.hid ((Hv.out.below Hb22.out).more Hb22.out.size)
          clear Hv
          have Hv := Hv'
          clear Hv'
          have Hm' := Lib.hid ((Hm.out.below Hb22.out).more Hb22.out.size)
          clear Hm
          have Hm := Hm'
          clear Hm'
          have Hv3' := Lib.hid (Hv3.out.below Hb22.out)
          clear Hv3
          have Hv3 := Hv3'
          clear Hv3'
          have Ho4' := Lib.hid ((Ho4.out.below Hb22.out).more Hb22.out.size)
          clear Ho4
          have Ho4 := Ho4'
          clear Ho4'
          have Ho' := Lib.hid ((Ho.out.below Hb22.out).more Hb22.out.size)
          clear Ho
          have Ho := Ho'
          clear Ho'
          have Hv6' := Lib.hid (Hv6.out.below Hb22.out)
          clear Hv6
          have Hv6 := Hv6'
          clear Hv6'
          have Bw' : Hid (Below w.heap.size w w7) := Bw.out.trans (Hb22.out.mono Bw.out.size)
          clear Bw
          have Bw := Bw'
          clear Bw'
          clear Hb22
          go_wp2
          go_ret
          exact ⟨rfl, Bw.out⟩
    · go_enter Try.func6, Try.ntmps6
      go_upto_region 1 with fail
      rw [← HW.out]
      clear HW
      go_wp2_with fail
      refine (awake22 W).mono ?_
      rintro e w1 ⟨rfl, hb23⟩
      have Hb23 := Lib.hid hb23
      clear hb23
      have H3' := Lib.hid (Blk.below H3.out Hb23.out H3.out.lt)
      clear H3
      have H3 := H3'
      clear H3'
      have Hv' := Lib.hid ((Hv.out.below Hb23.out).more Hb23.out.size)
      clear Hv
      have Hv := Hv'
      clear Hv'
      have Hm' := Lib.hid ((Hm.out.below Hb23.out).more Hb23.out.size)
      clear Hm
      have Hm := Hm'
      clear Hm'
      have Bw' : Hid (Below w.heap.size w w1) := Bw.out.trans (Hb23.out.mono Bw.out.size)
      clear Bw
      have Bw := Bw'
      clear Bw'
      clear Hb23
      have R3 := Lib.hid (blk_range H3.out)
      go_wp2_with (first
        | ((with_reducible refine gateL 29 ?_); refine wpList_load_g (by rfl) 29 (.tmp 3) rfl w.heap.size 0 rfl (confCs A f.vips.length c f) _ R3.out conf_under rfl (conf_szL Hs.out) ?_))
      clear R3
      refine (few_no A f.vips.length c f hf w1).mono ?_
      rintro e w2 ⟨rfl, hb24⟩
      have Hb24 := Lib.hid hb24
      clear hb24
      have H3' := Lib.hid (Blk.below H3.out Hb24.out H3.out.lt)
      clear H3
      have H3 := H3'
      clear H3'
      have Hv' := Lib.hid ((Hv.out.below Hb24.out).more Hb24.out.size)
      clear Hv
      have Hv := Hv'
      clear Hv'
      have Hm' := Lib.hid ((Hm.out.below Hb24.out).more Hb24.out.size)
      clear Hm
      have Hm := Hm'
      clear Hm'
      have Bw' : Hid (Below w.heap.size w w2) := Bw.out.trans (Hb24.out.mono Bw.out.size)
      clear Bw
      have Bw := Bw'
      clear Bw'
      clear Hb24
      go_wp2_with fail
      refine (awake22 w2).mono ?_
      rintro e wz ⟨rfl, hb25⟩
      have Hb25 := Lib.hid hb25
      clear hb25
      have H3' := Lib.hid (Blk.below H3.out Hb25.out H3.out.lt)
      clear H3
      have H3 := H3'
      clear H3'
      have Hv' := Lib.hid ((Hv.out.below Hb25.out).more Hb25.out.size)
      clear Hv
      have Hv := Hv'
      clear Hv'
      have Hm' := Lib.hid ((Hm.out.below Hb25.out).more Hb25.out.size)
      clear Hm
      have Hm := Hm'
      clear Hm'
      have Bw' : Hid (Below w.heap.size w wz) := Bw.out.trans (Hb25.out.mono Bw.out.size)
      clear Bw
      have Bw := Bw'
      clear Bw'
      clear Hb25
      go_wp2
      go_ret
      exact ⟨rfl, Bw.out⟩
  · have hlI : (3000 : Int) < (l.length : Int) := by omega
    go_enter Try.func6, Try.ntmps6
    go_upto_region 1 with fail
    rw [← HW.out]
    clear HW
    go_wp2_with fail
    refine (awake22 W).mono ?_
    rintro e w1 ⟨rfl, hb26⟩
    have Hb26 := Lib.hid hb26
    clear hb26
    have H3' := Lib.hid (Blk.below H3.out Hb26.out H3.out.lt)
    clear H3
    have H3 := H3'
    clear H3'
    have Hv' := Lib.hid ((Hv.out.below Hb26.out).more Hb26.out.size)
    clear Hv
    have Hv := Hv'
    clear Hv'
    have Hm' := Lib.hid ((Hm.out.below Hb26.out).more Hb26.out.size)
    clear Hm
    have Hm := Hm'
    clear Hm'
    have Bw' : Hid (Below w.heap.size w w1) := Bw.out.trans (Hb26.out.mono Bw.out.size)
    clear Bw
    have Bw := Bw'
    clear Bw'
    clear Hb26
    go_wp2_with fail
    refine (awake22 w1).mono ?_
    rintro e wz ⟨rfl, hb27⟩
    have Hb27 := Lib.hid hb27
    clear hb27
    have H3' := Lib.hid (Blk.below H3.out Hb27.out H3.out.lt)
    clear H3
    have H3 := H3'
    clear H3'
    have Hv' := Lib.hid ((Hv.out.below Hb27.out).more Hb27.out.size)
    clear Hv
    have Hv := Hv'
    clear Hv'
    have Hm' := Lib.hid ((Hm.out.below Hb27.out).more Hb27.out.size)
    clear Hm
    have Hm := Hm'
    clear Hm'
    have Bw' : Hid (Below w.heap.size w wz) := Bw.out.trans (Hb27.out.mono Bw.out.size)
    clear Bw
    have Bw := Bw'
    clear Bw'
    clear Hb27
    go_wp2
    go_ret
    exact ⟨rfl, Bw.out⟩
end Go.Proofs.Ytmkeljcjhcaigaa
