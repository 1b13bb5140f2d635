/- ConfGets: of whatever bytes: the config whose bytes they are, or that there is none (printed by gen_cgets.py). -/
import Derived.Test.YtmkeljcjhcaigaaRGet
namespace Go.Proofs.Ytmkeljcjhcaigaa
open Go.RowKit
set_option linter.unusedVariables false
set_option linter.unusedSimpArgs false

theorem rgetC_no (A : Option Addr) (n c : Nat) (l : List UInt8) (w : World) (hn : n = l.length) (hc : n ≤ c) (hb : BS w w.heap.size A l) (hl : n ≤ 1000000) (hno : confGetS l = none) (F0 : ConfP) (hF : F0 = conf0) :
    Calls Try.prog 23 #[.slice A n c] w fun e w' => e = .returned (.tuple #[.agg (confCs none 0 0 F0).toArray, .bool false]) ∧ Below w.heap.size w w' := by
  subst hF
  refine (rget_any A n c l w hn hc hb hl).mono ?_
  rintro e w' ⟨h1, h2, _⟩
  exact ⟨h2 hno, h1⟩
theorem rgetC_yes (A : Option Addr) (n c : Nat) (l : List UInt8) (w : World) (hn : n = l.length) (hc : n ≤ c) (hb : BS w w.heap.size A l) (hl : n ≤ 1000000) (f : ConfP) (hyes : confGetS l = some f) :
    Calls Try.prog 23 #[.slice A n c] w fun e w' => ∃ A c, e = .returned (.tuple #[.agg (confCs A f.vips.length c f).toArray, .bool true]) ∧ VOwn w' w.heap.size A c f.vips ∧ Below w.heap.size w w' := by
  refine (rget_any A n c l w hn hc hb hl).mono ?_
  rintro e w' ⟨h1, _, h3⟩
  obtain ⟨A', c', h4, h5, _, _⟩ := h3 f hyes
  exact ⟨A', c', h4, h5, h1⟩

theorem same0 (F0 : ConfP) (hF : F0 = conf0) (w : World) :
    Calls Try.prog 18 #[.agg (confCs none 0 0 F0).toArray, .agg (confCs none 0 0 conf0).toArray] w fun e w' => e = .returned (.bool true) ∧ Below w.heap.size w w' := by
  subst hF
  exact sameC_is none 0 conf0 conf0_shape none 0 conf0 conf0_shape w true (same_self conf0) (fun h => absurd h (by decide)) (fun h => absurd h (by decide)) (by decide) (by decide)

set_option maxHeartbeats 2000000 in
set_option maxRecDepth 100000 in
theorem walk_confGets (w : World) (A : Option Addr) (n c : Nat) (l : List UInt8) (hn : n = l.length) (hc : n ≤ c) (hm : n ≤ maxLen) (hb : BS w w.heap.size A l) :
    Calls Try.prog 5 #[.slice A n c] w fun e w' => e = .returned (.bool true) ∧ Below w.heap.size w w' := by
  subst hn
  unfold maxLen at hm
  have Hm := Lib.hid hb
  have Bw := Lib.hid (Below.refl w.heap.size w)
  clear hb
  by_cases hl : l.length ≤ 3000
  rotate_left
  · have hlI : (3000 : Int) < (l.length : Int) := by omega
    go_enter Try.func5, Try.ntmps5
    go_wp2_with fail
    refine (awake22 w).mono ?_
    rintro e w1 ⟨rfl, hb1⟩
    have Hb1 := Lib.hid hb1
    clear hb1
    have Hm' := Lib.hid ((Hm.out.below Hb1.out).more Hb1.out.size)
    clear Hm
    have Hm := Hm'
    clear Hm'
    have Bw' : Hid (Below w.heap.size w w1) := Bw.out.trans (Hb1.out.mono Bw.out.size)
    clear Bw
    have Bw := Bw'
    clear Bw'
    clear Hb1
    go_wp2_with fail
    refine (awake22 w1).mono ?_
    rintro e wz ⟨rfl, hb2⟩
    have Hb2 := Lib.hid hb2
    clear hb2
    have Hm' := Lib.hid ((Hm.out.below Hb2.out).more Hb2.out.size)
    clear Hm
    have Hm := Hm'
    clear Hm'
    have Bw' : Hid (Below w.heap.size w wz) := Bw.out.trans (Hb2.out.mono Bw.out.size)
    clear Bw
    have Bw := Bw'
    clear Bw'
    clear Hb2
    go_wp2
    go_ret
    exact ⟨rfl, Bw.out⟩
  have hlI : ¬ (3000 : Int) < (l.length : Int) := by omega
  rcases hg : confGetS l with _ | f
  · have Hg := Lib.hid hg
    obtain ⟨F0, hF0⟩ : ∃ F, F = conf0 := ⟨_, rfl⟩
    have HF0 : Hid (ConfShape F0) := by rw [hF0]; exact conf0_shape
    have HE0 := Lib.hid hF0
    have HsB : Hid (sameB F0 conf0 = true) := by rw [hF0]; exact same_self conf0
    have HV0 : Hid (F0.vips = []) := by rw [hF0]; rfl
    clear hg hF0
    go_enter Try.func5, Try.ntmps5
    go_wp2_with fail
    refine (awake22 w).mono ?_
    rintro e w1 ⟨rfl, hb3⟩
    have Hb3 := Lib.hid hb3
    clear hb3
    have Hm' := Lib.hid ((Hm.out.below Hb3.out).more Hb3.out.size)
    clear Hm
    have Hm := Hm'
    clear Hm'
    have Bw' : Hid (Below w.heap.size w w1) := Bw.out.trans (Hb3.out.mono Bw.out.size)
    clear Bw
    have Bw := Bw'
    clear Bw'
    clear Hb3
    go_wp2_with fail
    refine (getC_no A _ c l w1 rfl Hm.out (by omega) Hg.out F0 HE0.out).mono ?_
    rintro e w2 ⟨rfl, hb4⟩
    have Hb4 := Lib.hid hb4
    clear hb4
    have Hm' := Lib.hid ((Hm.out.below Hb4.out).more Hb4.out.size)
    clear Hm
    have Hm := Hm'
    clear Hm'
    have Bw' : Hid (Below w.heap.size w w2) := Bw.out.trans (Hb4.out.mono Bw.out.size)
    clear Bw
    have Bw := Bw'
    clear Bw'
    clear Hb4
    obtain ⟨x5, hx5⟩ : ∃ W, W = w2.alloc (.cells (confCs none 0 0 conf0).toArray 29) := ⟨_, rfl⟩
    obtain ⟨y5, hy5⟩ : ∃ W, W = x5.setCells w2.heap.size 0 (confCs none 0 0 F0) := ⟨_, rfl⟩
    obtain ⟨hth5, hbx5, hbe5⟩ := boxed w2 x5 y5 29 (confCs none 0 0 conf0) (confCs none 0 0 F0) (by rw [conf_len HF0.out, conf_len conf0_shape]) hx5 hy5
    rw [conf0_lit] at hx5
    have HX5 := Lib.hid hx5
    have HY5 := Lib.hid hy5
    have Hth5 := Lib.hid hth5
    have Hbe5 := Lib.hid hbe5
    have H3n := Lib.hid hbx5
    clear hx5 hy5 hth5 hbx5 hbe5
    go_upto_region 4 with (first
      | (rw [← HX5.out]; (with_reducible refine gateS 29 ?_); refine wpList_store_mid rfl 29 (.tmp 3) (.tmp 18) rfl w2.heap.size 0 (confCs none 0 0 F0).toArray rfl rfl Hth5.out (conf_szA HF0.out) (conf_one none 0 0 F0) ?_))
    rw [← HY5.out]
    clear HX5 HY5 Hth5
    have Hm' := Lib.hid ((Hm.out.below Hbe5.out).more Hbe5.out.size)
    clear Hm
    have Hm := Hm'
    clear Hm'
    have Bw' : Hid (Below w.heap.size w y5) := Bw.out.trans (Hbe5.out.mono Bw.out.size)
    clear Bw
    have Bw := Bw'
    clear Bw'
    have H3 := H3n
    clear H3n Hbe5
    go_wp2_with fail
    refine (rgetC_no A _ c l y5 rfl hc Hm.out (by omega) Hg.out F0 HE0.out).mono ?_
    rintro e w3 ⟨rfl, hb6⟩
    have Hb6 := Lib.hid hb6
    clear hb6
    have H3' := Lib.hid (Blk.below H3.out Hb6.out H3.out.lt)
    clear H3
    have H3 := H3'
    clear H3'
    have Hm' := Lib.hid ((Hm.out.below Hb6.out).more Hb6.out.size)
    clear Hm
    have Hm := Hm'
    clear Hm'
    have Bw' : Hid (Below w.heap.size w w3) := Bw.out.trans (Hb6.out.mono Bw.out.size)
    clear Bw
    have Bw := Bw'
    clear Bw'
    clear Hb6
    obtain ⟨x7, hx7⟩ : ∃ W, W = w3.alloc (.cells (confCs none 0 0 conf0).toArray 29) := ⟨_, rfl⟩
    obtain ⟨y7, hy7⟩ : ∃ W, W = x7.setCells w3.heap.size 0 (confCs none 0 0 F0) := ⟨_, rfl⟩
    obtain ⟨hth7, hbx7, hbe7⟩ := boxed w3 x7 y7 29 (confCs none 0 0 conf0) (confCs none 0 0 F0) (by rw [conf_len HF0.out, conf_len conf0_shape]) hx7 hy7
    rw [conf0_lit] at hx7
    have HX7 := Lib.hid hx7
    have HY7 := Lib.hid hy7
    have Hth7 := Lib.hid hth7
    have Hbe7 := Lib.hid hbe7
    have H5n := Lib.hid hbx7
    clear hx7 hy7 hth7 hbx7 hbe7
    have R3 := Lib.hid (blk_range H3.out)
    go_upto_region 5 with (first
      | ((with_reducible refine gateL 29 ?_); refine wpList_load_g (by rfl) 29 (.tmp 3) rfl w2.heap.size 0 rfl (confCs none 0 0 F0) _ R3.out conf_under rfl (conf_szL HF0.out) ?_)
      | (rw [← HX7.out]; (with_reducible refine gateS 29 ?_); refine wpList_store_mid rfl 29 (.tmp 5) (.tmp 23) rfl w3.heap.size 0 (confCs none 0 0 F0).toArray rfl rfl Hth7.out (conf_szA HF0.out) (conf_one none 0 0 F0) ?_))
    clear R3
    rw [← HY7.out]
    clear HX7 HY7 Hth7
    have H3' := Lib.hid (Blk.below H3.out Hbe7.out H3.out.lt)
    clear H3
    have H3 := H3'
    clear H3'
    have Hm' := Lib.hid ((Hm.out.below Hbe7.out).more Hbe7.out.size)
    clear Hm
    have Hm := Hm'
    clear Hm'
    have Bw' : Hid (Below w.heap.size w y7) := Bw.out.trans (Hbe7.out.mono Bw.out.size)
    clear Bw
    have Bw := Bw'
    clear Bw'
    have H5 := H5n
    clear H5n Hbe7
    clear H5
    have R3 := Lib.hid (blk_range H3.out)
    go_wp2_with (first
      | ((with_reducible refine gateL 29 ?_); refine wpList_load_g (by rfl) 29 (.tmp 3) rfl w2.heap.size 0 rfl (confCs none 0 0 F0) _ R3.out conf_under rfl (conf_szL HF0.out) ?_))
    clear R3
    rw [← conf0_lit]
    refine (same0 F0 HE0.out y7).mono ?_
    rintro e w4 ⟨rfl, hb8⟩
    have Hb8 := Lib.hid hb8
    clear hb8
    have H3' := Lib.hid (Blk.below H3.out Hb8.out H3.out.lt)
    clear H3
    have H3 := H3'
    clear H3'
    have Hm' := Lib.hid ((Hm.out.below Hb8.out).more Hb8.out.size)
    clear Hm
    have Hm := Hm'
    clear Hm'
    have Bw' : Hid (Below w.heap.size w w4) := Bw.out.trans (Hb8.out.mono Bw.out.size)
    clear Bw
    have Bw := Bw'
    clear Bw'
    clear Hb8
    go_wp2
    go_ret
    exact ⟨rfl, Bw.out⟩
  · have Hg := Lib.hid hg
    have Hs : Hid (ConfShape f) := (confGet_iff.1 hg).2.2
    have hv64 : f.vips.length ≤ 64 := (right_vips (confGet_iff.1 hg).2.2 (confGet_iff.1 hg).2.1).1
    clear hg
    go_enter Try.func5, Try.ntmps5
    go_wp2_with fail
    refine (awake22 w).mono ?_
    rintro e w1 ⟨rfl, hb9⟩
    have Hb9 := Lib.hid hb9
    clear hb9
    have Hm' := Lib.hid ((Hm.out.below Hb9.out).more Hb9.out.size)
    clear Hm
    have Hm := Hm'
    clear Hm'
    have Bw' : Hid (Below w.heap.size w w1) := Bw.out.trans (Hb9.out.mono Bw.out.size)
    clear Bw
    have Bw := Bw'
    clear Bw'
    clear Hb9
    go_wp2_with fail
    refine (getC_yes A _ c l w1 rfl Hm.out (by omega) f Hg.out).mono ?_
    rintro e w2 ⟨A2, c2, rfl, hown2, _, _, hb10⟩
    have Hb10 := Lib.hid hb10
    clear hb10
    have HO2 := Lib.hid hown2
    clear hown2
    have Hm' := Lib.hid ((Hm.out.below Hb10.out).more Hb10.out.size)
    clear Hm
    have Hm := Hm'
    clear Hm'
    have Bw' : Hid (Below w.heap.size w w2) := Bw.out.trans (Hb10.out.mono Bw.out.size)
    clear Bw
    have Bw := Bw'
    clear Bw'
    clear Hb10
    obtain ⟨x11, hx11⟩ : ∃ W, W = w2.alloc (.cells (confCs none 0 0 conf0).toArray 29) := ⟨_, rfl⟩
    obtain ⟨y11, hy11⟩ : ∃ W, W = x11.setCells w2.heap.size 0 (confCs A2 f.vips.length c2 f) := ⟨_, rfl⟩
    obtain ⟨hth11, hbx11, hbe11⟩ := boxed w2 x11 y11 29 (confCs none 0 0 conf0) (confCs A2 f.vips.length c2 f) (by rw [conf_len Hs.out, conf_len conf0_shape]) hx11 hy11
    rw [conf0_lit] at hx11
    have HX11 := Lib.hid hx11
    have HY11 := Lib.hid hy11
    have Hth11 := Lib.hid hth11
    have Hbe11 := Lib.hid hbe11
    have H3n := Lib.hid hbx11
    clear hx11 hy11 hth11 hbx11 hbe11
    go_upto_region 4 with (first
      | (rw [← HX11.out]; (with_reducible refine gateS 29 ?_); refine wpList_store_mid rfl 29 (.tmp 3) (.tmp 18) rfl w2.heap.size 0 (confCs A2 f.vips.length c2 f).toArray rfl rfl Hth11.out (conf_szA Hs.out) (conf_one A2 f.vips.length c2 f) ?_))
    rw [← HY11.out]
    clear HX11 HY11 Hth11
    have Hm' := Lib.hid ((Hm.out.below Hbe11.out).more Hbe11.out.size)
    clear Hm
    have Hm := Hm'
    clear Hm'
    have HO2' := Lib.hid (HO2.out.below Hbe11.out)
    clear HO2
    have HO2 := HO2'
    clear HO2'
    have Bw' : Hid (Below w.heap.size w y11) := Bw.out.trans (Hbe11.out.mono Bw.out.size)
    clear Bw
    have Bw := Bw'
    clear Bw'
    have H3 := H3n
    clear H3n Hbe11
    go_wp2_with fail
    refine (rgetC_yes A _ c l y11 rfl hc Hm.out (by omega) f Hg.out).mono ?_
    rintro e w3 ⟨A3, c3, rfl, hown3, hb12⟩
    have Hb12 := Lib.hid hb12
    clear hb12
    have HO3 := Lib.hid hown3
    clear hown3
    have H3' := Lib.hid (Blk.below H3.out Hb12.out H3.out.lt)
    clear H3
    have H3 := H3'
    clear H3'
    have Hm' := Lib.hid ((Hm.out.below Hb12.out).more Hb12.out.size)
    clear Hm
    have Hm := Hm'
    clear Hm'
    have HO2' := Lib.hid (HO2.out.below Hb12.out)
    clear HO2
    have HO2 := HO2'
    clear HO2'
    have Bw' : Hid (Below w.heap.size w w3) := Bw.out.trans (Hb12.out.mono Bw.out.size)
    clear Bw
    have Bw := Bw'
    clear Bw'
    clear Hb12
    obtain ⟨x13, hx13⟩ : ∃ W, W = w3.alloc (.cells (confCs none 0 0 conf0).toArray 29) := ⟨_, rfl⟩
    obtain ⟨y13, hy13⟩ : ∃ W, W = x13.setCells w3.heap.size 0 (confCs A3 f.vips.length c3 f) := ⟨_, rfl⟩
    obtain ⟨hth13, hbx13, hbe13⟩ := boxed w3 x13 y13 29 (confCs none 0 0 conf0) (confCs A3 f.vips.length c3 f) (by rw [conf_len Hs.out, conf_len conf0_shape]) hx13 hy13
    rw [conf0_lit] at hx13
    have HX13 := Lib.hid hx13
    have HY13 := Lib.hid hy13
    have Hth13 := Lib.hid hth13
    have Hbe13 := Lib.hid hbe13
    have H5n := Lib.hid hbx13
    clear hx13 hy13 hth13 hbx13 hbe13
    have R3 := Lib.hid (blk_range H3.out)
    go_upto_region 5 with (first
      | ((with_reducible refine gateL 29 ?_); refine wpList_load_g (by rfl) 29 (.tmp 3) rfl w2.heap.size 0 rfl (confCs A2 f.vips.length c2 f) _ R3.out conf_under rfl (conf_szL Hs.out) ?_)
      | (rw [← HX13.out]; (with_reducible refine gateS 29 ?_); refine wpList_store_mid rfl 29 (.tmp 5) (.tmp 23) rfl w3.heap.size 0 (confCs A3 f.vips.length c3 f).toArray rfl rfl Hth13.out (conf_szA Hs.out) (conf_one A3 f.vips.length c3 f) ?_))
    clear R3
    rw [← HY13.out]
    clear HX13 HY13 Hth13
    have H3' := Lib.hid (Blk.below H3.out Hbe13.out H3.out.lt)
    clear H3
    have H3 := H3'
    clear H3'
    have Hm' := Lib.hid ((Hm.out.below Hbe13.out).more Hbe13.out.size)
    clear Hm
    have Hm := Hm'
    clear Hm'
    have HO2' := Lib.hid (HO2.out.below Hbe13.out)
    clear HO2
    have HO2 := HO2'
    clear HO2'
    have HO3' := Lib.hid (HO3.out.below Hbe13.out)
    clear HO3
    have HO3 := HO3'
    clear HO3'
    have Bw' : Hid (Below w.heap.size w y13) := Bw.out.trans (Hbe13.out.mono Bw.out.size)
    clear Bw
    have Bw := Bw'
    clear Bw'
    have H5 := H5n
    clear H5n Hbe13
    have R3 := Lib.hid (blk_range H3.out)
    have R5 := Lib.hid (blk_range H5.out)
    go_wp2_with (first
      | ((with_reducible refine gateL 29 ?_); refine wpList_load_g (by rfl) 29 (.tmp 3) rfl w2.heap.size 0 rfl (confCs A2 f.vips.length c2 f) _ R3.out conf_under rfl (conf_szL Hs.out) ?_)
      | ((with_reducible refine gateL 29 ?_); refine wpList_load_g (by rfl) 29 (.tmp 5) rfl w3.heap.size 0 rfl (confCs A3 f.vips.length c3 f) _ R5.out conf_under rfl (conf_szL Hs.out) ?_))
    clear R3
    clear R5
    refine (rsameE A2 c2 f Hs.out A3 c3 f Hs.out y13 true (same_self f) HO2.out.vs HO3.out.vs (by omega) (by omega)).mono ?_
    rintro e w4 ⟨rfl, hb14⟩
    have Hb14 := Lib.hid hb14
    clear hb14
    have H3' := Lib.hid (Blk.below H3.out Hb14.out H3.out.lt)
    clear H3
    have H3 := H3'
    clear H3'
    have H5' := Lib.hid (Blk.below H5.out Hb14.out H5.out.lt)
    clear H5
    have H5 := H5'
    clear H5'
    have Hm' := Lib.hid ((Hm.out.below Hb14.out).more Hb14.out.size)
    clear Hm
    have Hm := Hm'
    clear Hm'
    have HO2' := Lib.hid (HO2.out.below Hb14.out)
    clear HO2
    have HO2 := HO2'
    clear HO2'
    have HO3' := Lib.hid (HO3.out.below Hb14.out)
    clear HO3
    have HO3 := HO3'
    clear HO3'
    have Bw' : Hid (Below w.heap.size w w4) := Bw.out.trans (Hb14.out.mono Bw.out.size)
    clear Bw
    have Bw := Bw'
    clear Bw'
    clear Hb14
    go_wp2
    go_ret
    exact ⟨rfl, Bw.out⟩
end Go.Proofs.Ytmkeljcjhcaigaa
