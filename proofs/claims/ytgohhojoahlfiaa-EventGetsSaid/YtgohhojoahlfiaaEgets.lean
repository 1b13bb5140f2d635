/- EventGets: of whatever bytes: the event whose bytes they are, or that there is none (printed by gen_egets.py). -/
import Derived.Test.YtgohhojoahlfiaaEwN
import Derived.Test.YtgohhojoahlfiaaEvPg
namespace Go.Proofs.Ytgohhojoahlfiaa
open Go.RowKit
set_option linter.unusedVariables false
set_option linter.unusedSimpArgs false

theorem rgetE_no (A : Option Addr) (n c : Nat) (l : List UInt8) (w : World) (hn : n = l.length) (hc : n ≤ c) (hb : BS w w.heap.size A l) (hl : n ≤ 1000000000) (hno : evGetS l = none) (E0 : EvP) (hE : E0 = ev0) :
    Calls Try.prog 23 #[.slice A n c] w fun x w' => x = .returned (.tuple #[.agg (evCs none 0 0 none 0 0 E0).toArray, .bool false]) ∧ Below w.heap.size w w' := by
  subst hE
  refine (rgetE_any A n c l w hn hc hb (by omega)).mono ?_
  rintro x w' ⟨h1, h2, _⟩
  exact ⟨h2 (by rw [getP_is]; exact hno), h1⟩
theorem rgetE_yes (A : Option Addr) (n c : Nat) (l : List UInt8) (w : World) (hn : n = l.length) (hc : n ≤ c) (hb : BS w w.heap.size A l) (hl : n ≤ 1000000000) (f : EvP) (hyes : evGetS l = some f) :
    Calls Try.prog 23 #[.slice A n c] w fun x w' => ∃ A c, x = .returned (.tuple #[.agg (evCs A f.act.frame.length c none 0 0 f).toArray, .bool true]) ∧ BS w' w'.heap.size A f.act.frame ∧ Below w.heap.size w w' := by
  refine (rgetE_any A n c l w hn hc hb (by omega)).mono ?_
  rintro x w' ⟨h1, _, h3⟩
  obtain ⟨A', c', h4, h5⟩ := h3 f (by rw [getP_is]; exact hyes)
  exact ⟨A', c', h4, h5, h1⟩
set_option maxHeartbeats 1000000 in
set_option maxRecDepth 100000 in
theorem walk_eventGets (w : World) (A0 : Option Addr) (n0 c0 : Nat) (l : List UInt8) (hn0 : n0 = l.length) (hc0 : n0 ≤ c0) (hm0 : n0 ≤ maxLen) (hb0 : BS w w.heap.size A0 l) :
    Calls Try.prog 6 #[.slice A0 n0 c0] w fun e w' => e = .returned (.bool true) ∧ Below w.heap.size w w' := by
  subst hn0
  have Hm := Lib.hid hb0
  unfold maxLen at hm0
  clear hb0
  obtain ⟨EZ, hEZ⟩ : ∃ F, F = ev0 := ⟨_, rfl⟩
  have HSZ : Hid (EvShape EZ) := by rw [hEZ]; exact ev0_shape
  have HEZ := Lib.hid hEZ
  clear hEZ
  by_cases h2 : l.length ≤ 140000
  rotate_left
  · have hlI : (140000 : Int) < (l.length : Int) := by omega
    go_enter Try.func6, Try.ntmps6
    go_wp2_with fail
    refine (awake28 w).mono ?_
    rintro e w1 ⟨rfl, hb1⟩
    have Hb1 := Lib.hid hb1
    clear hb1
    have Hm' := Lib.hid ((Hm.out.below Hb1.out).more Hb1.out.size)
    clear Hm
    have Hm := Hm'
    clear Hm'
    have Bw := Hb1
    clear Hb1
    go_wp2_with fail
    refine (awake28 w1).mono ?_
    rintro e wz ⟨rfl, hb2⟩
    have Hb2 := Lib.hid hb2
    clear hb2
    have Hm' := Lib.hid ((Hm.out.below Hb2.out).more Hb2.out.size)
    clear Hm
    have Hm := Hm'
    clear Hm'
    have Bw' : Hid (Below w.heap.size w wz) := Bw.out.trans (Hb2.out.mono Bw.out.size)
    clear Bw
    have Bw := Bw'
    clear Bw'
    clear Hb2
    go_wp2
    go_ret
    exact ⟨rfl, Bw.out⟩
  have hlI : ¬ (140000 : Int) < (l.length : Int) := by omega
  rcases hg : evGetS l with _ | D
  · have Hg := Lib.hid hg
    clear hg
    go_enter Try.func6, Try.ntmps6
    go_wp2_with fail
    refine (awake28 w).mono ?_
    rintro e w1 ⟨rfl, hb3⟩
    have Hb3 := Lib.hid hb3
    clear hb3
    have Hm' := Lib.hid ((Hm.out.below Hb3.out).more Hb3.out.size)
    clear Hm
    have Hm := Hm'
    clear Hm'
    have Bw := Hb3
    clear Hb3
    go_wp2_with fail
    refine (egetE_no A0 _ c0 l w1 rfl Hm.out (by omega) Hg.out EZ HEZ.out).mono ?_
    rintro e w2 ⟨rfl, hb4⟩
    have Hb4 := Lib.hid hb4
    clear hb4
    have Hm' := Lib.hid ((Hm.out.below Hb4.out).more Hb4.out.size)
    clear Hm
    have Hm := Hm'
    clear Hm'
    have Bw' : Hid (Below w.heap.size w w2) := Bw.out.trans (Hb4.out.mono Bw.out.size)
    clear Bw
    have Bw := Bw'
    clear Bw'
    clear Hb4
    obtain ⟨x5, hx5⟩ : ∃ W, W = w2.alloc (.cells (evCs none 0 0 none 0 0 ev0).toArray 39) := ⟨_, rfl⟩
    obtain ⟨y5, hy5⟩ : ∃ W, W = x5.setCells w2.heap.size 0 (evCs none 0 0 none 0 0 EZ) := ⟨_, rfl⟩
    obtain ⟨hth5, hbx5, hbe5⟩ := boxed w2 x5 y5 39 (evCs none 0 0 none 0 0 ev0) (evCs none 0 0 none 0 0 EZ) (by rw [ev_len HSZ.out, ev_len ev0_shape]) hx5 hy5
    rw [ev0_lit] at hx5
    have HX5 := Lib.hid hx5
    have HY5 := Lib.hid hy5
    have Hth5 := Lib.hid hth5
    have Hbe5 := Lib.hid hbe5
    have H3n := Lib.hid hbx5
    clear hx5 hy5 hth5 hbx5 hbe5
    go_upto_region 4 with (first
      | (rw [← HX5.out]; (with_reducible refine gateS 39 ?_); refine wpList_store_mid rfl 39 (.tmp 3) (.tmp 18) rfl w2.heap.size 0 (evCs none 0 0 none 0 0 EZ).toArray rfl rfl Hth5.out (ev_szA HSZ.out) (ev_one _ _ _ _ _ _ _) ?_))
    rw [← HY5.out]
    clear HX5 HY5 Hth5
    have Hm' := Lib.hid ((Hm.out.below Hbe5.out).more Hbe5.out.size)
    clear Hm
    have Hm := Hm'
    clear Hm'
    have Bw' : Hid (Below w.heap.size w y5) := Bw.out.trans (Hbe5.out.mono Bw.out.size)
    clear Bw
    have Bw := Bw'
    clear Bw'
    have H3 := H3n
    clear H3n Hbe5
    go_wp2_with fail
    refine (rgetE_no A0 _ c0 l y5 rfl hc0 Hm.out (by omega) Hg.out EZ HEZ.out).mono ?_
    rintro e w3 ⟨rfl, hb6⟩
    have Hb6 := Lib.hid hb6
    clear hb6
    have H3' := Lib.hid (Blk.below H3.out Hb6.out H3.out.lt)
    clear H3
    have H3 := H3'
    clear H3'
    have Hm' := Lib.hid ((Hm.out.below Hb6.out).more Hb6.out.size)
    clear Hm
    have Hm := Hm'
    clear Hm'
    have Bw' : Hid (Below w.heap.size w w3) := Bw.out.trans (Hb6.out.mono Bw.out.size)
    clear Bw
    have Bw := Bw'
    clear Bw'
    clear Hb6
    obtain ⟨x7, hx7⟩ : ∃ W, W = w3.alloc (.cells (evCs none 0 0 none 0 0 ev0).toArray 39) := ⟨_, rfl⟩
    obtain ⟨y7, hy7⟩ : ∃ W, W = x7.setCells w3.heap.size 0 (evCs none 0 0 none 0 0 EZ) := ⟨_, rfl⟩
    obtain ⟨hth7, hbx7, hbe7⟩ := boxed w3 x7 y7 39 (evCs none 0 0 none 0 0 ev0) (evCs none 0 0 none 0 0 EZ) (by rw [ev_len HSZ.out, ev_len ev0_shape]) hx7 hy7
    rw [ev0_lit] at hx7
    have HX7 := Lib.hid hx7
    have HY7 := Lib.hid hy7
    have Hth7 := Lib.hid hth7
    have Hbe7 := Lib.hid hbe7
    have H5n := Lib.hid hbx7
    clear hx7 hy7 hth7 hbx7 hbe7
    have R3 := Lib.hid (blk_range H3.out)
    go_upto_region 5 with (first
      | ((with_reducible refine gateL 39 ?_); refine wpList_load_g (by rfl) 39 (.tmp 3) rfl w2.heap.size 0 rfl (evCs none 0 0 none 0 0 EZ) _ R3.out ev_under rfl (ev_sz HSZ.out) ?_)
      | (rw [← HX7.out]; (with_reducible refine gateS 39 ?_); refine wpList_store_mid rfl 39 (.tmp 5) (.tmp 23) rfl w3.heap.size 0 (evCs none 0 0 none 0 0 EZ).toArray rfl rfl Hth7.out (ev_szA HSZ.out) (ev_one _ _ _ _ _ _ _) ?_))
    clear R3
    rw [← HY7.out]
    clear HX7 HY7 Hth7
    have H3' := Lib.hid (Blk.below H3.out Hbe7.out H3.out.lt)
    clear H3
    have H3 := H3'
    clear H3'
    have Hm' := Lib.hid ((Hm.out.below Hbe7.out).more Hbe7.out.size)
    clear Hm
    have Hm := Hm'
    clear Hm'
    have Bw' : Hid (Below w.heap.size w y7) := Bw.out.trans (Hbe7.out.mono Bw.out.size)
    clear Bw
    have Bw := Bw'
    clear Bw'
    have H5 := H5n
    clear H5n Hbe7
    clear H5
    have R3 := Lib.hid (blk_range H3.out)
    go_wp2_with (first
      | ((with_reducible refine gateL 39 ?_); refine wpList_load_g (by rfl) 39 (.tmp 3) rfl w2.heap.size 0 rfl (evCs none 0 0 none 0 0 EZ) _ R3.out ev_under rfl (ev_sz HSZ.out) ?_))
    clear R3
    refine (rsameZ EZ HEZ.out _ rfl y7).mono ?_
    rintro e w4 ⟨rfl, hb8⟩
    have Hb8 := Lib.hid hb8
    clear hb8
    have H3' := Lib.hid (Blk.below H3.out Hb8.out H3.out.lt)
    clear H3
    have H3 := H3'
    clear H3'
    have Hm' := Lib.hid ((Hm.out.below Hb8.out).more Hb8.out.size)
    clear Hm
    have Hm := Hm'
    clear Hm'
    have Bw' : Hid (Below w.heap.size w w4) := Bw.out.trans (Hb8.out.mono Bw.out.size)
    clear Bw
    have Bw := Bw'
    clear Bw'
    clear Hb8
    go_wp2
    go_ret
    exact ⟨rfl, Bw.out⟩
  · obtain ⟨hd1, hd2, hd3, _⟩ := evGet_B hg
    have Hd := Lib.hid hd3
    have Hd0 := Lib.hid (right_out hd2)
    have Hdo : Hid (D.o.out = []) := List.eq_nil_of_length_eq_zero Hd0.out.symm
    have Hg := Lib.hid hg
    clear hg hd1 hd2 hd3
    go_enter Try.func6, Try.ntmps6
    go_wp2_with fail
    refine (awake28 w).mono ?_
    rintro e w1 ⟨rfl, hb9⟩
    have Hb9 := Lib.hid hb9
    clear hb9
    have Hm' := Lib.hid ((Hm.out.below Hb9.out).more Hb9.out.size)
    clear Hm
    have Hm := Hm'
    clear Hm'
    have Bw := Hb9
    clear Hb9
    go_wp2_with fail
    refine (egetE_yes A0 _ c0 l w1 rfl Hm.out (by omega) D Hg.out).mono ?_
    rintro e w2 ⟨A3, c3, rfl, hown3, hb10⟩
    have Hb10 := Lib.hid hb10
    clear hb10
    have Hv3 := Lib.hid (BS.of_own hown3).1
    clear hown3
    have Hm' := Lib.hid ((Hm.out.below Hb10.out).more Hb10.out.size)
    clear Hm
    have Hm := Hm'
    clear Hm'
    have Bw' : Hid (Below w.heap.size w w2) := Bw.out.trans (Hb10.out.mono Bw.out.size)
    clear Bw
    have Bw := Bw'
    clear Bw'
    clear Hb10
    obtain ⟨x11, hx11⟩ : ∃ W, W = w2.alloc (.cells (evCs none 0 0 none 0 0 ev0).toArray 39) := ⟨_, rfl⟩
    obtain ⟨y11, hy11⟩ : ∃ W, W = x11.setCells w2.heap.size 0 (evCs A3 D.act.frame.length c3 none 0 0 D) := ⟨_, rfl⟩
    obtain ⟨hth11, hbx11, hbe11⟩ := boxed w2 x11 y11 39 (evCs none 0 0 none 0 0 ev0) (evCs A3 D.act.frame.length c3 none 0 0 D) (by rw [ev_len Hd.out, ev_len ev0_shape]) hx11 hy11
    rw [ev0_lit] at hx11
    have HX11 := Lib.hid hx11
    have HY11 := Lib.hid hy11
    have Hth11 := Lib.hid hth11
    have Hbe11 := Lib.hid hbe11
    have H3n := Lib.hid hbx11
    clear hx11 hy11 hth11 hbx11 hbe11
    go_upto_region 4 with (first
      | (rw [← HX11.out]; (with_reducible refine gateS 39 ?_); refine wpList_store_mid rfl 39 (.tmp 3) (.tmp 18) rfl w2.heap.size 0 (evCs A3 D.act.frame.length c3 none 0 0 D).toArray rfl rfl Hth11.out (ev_szA Hd.out) (ev_one _ _ _ _ _ _ _) ?_))
    rw [← HY11.out]
    clear HX11 HY11 Hth11
    have Hm' := Lib.hid ((Hm.out.below Hbe11.out).more Hbe11.out.size)
    clear Hm
    have Hm := Hm'
    clear Hm'
    have Hv3' := Lib.hid ((Hv3.out.below Hbe11.out).more Hbe11.out.size)
    clear Hv3
    have Hv3 := Hv3'
    clear Hv3'
    have Bw' : Hid (Below w.heap.size w y11) := Bw.out.trans (Hbe11.out.mono Bw.out.size)
    clear Bw
    have Bw := Bw'
    clear Bw'
    have H3 := H3n
    clear H3n Hbe11
    go_wp2_with fail
    refine (rgetE_yes A0 _ c0 l y11 rfl hc0 Hm.out (by omega) D Hg.out).mono ?_
    rintro e w3 ⟨A5, c5, rfl, hv5, hb12⟩
    have Hb12 := Lib.hid hb12
    clear hb12
    have Hv5 := Lib.hid hv5
    clear hv5
    have H3' := Lib.hid (Blk.below H3.out Hb12.out H3.out.lt)
    clear H3
    have H3 := H3'
    clear H3'
    have Hm' := Lib.hid ((Hm.out.below Hb12.out).more Hb12.out.size)
    clear Hm
    have Hm := Hm'
    clear Hm'
    have Hv3' := Lib.hid ((Hv3.out.below Hb12.out).more Hb12.out.size)
    clear Hv3
    have Hv3 := Hv3'
    clear Hv3'
    have Bw' : Hid (Below w.heap.size w w3) := Bw.out.trans (Hb12.out.mono Bw.out.size)
    clear Bw
    have Bw := Bw'
    clear Bw'
    clear Hb12
    obtain ⟨x13, hx13⟩ : ∃ W, W = w3.alloc (.cells (evCs none 0 0 none 0 0 ev0).toArray 39) := ⟨_, rfl⟩
    obtain ⟨y13, hy13⟩ : ∃ W, W = x13.setCells w3.heap.size 0 (evCs A5 D.act.frame.length c5 none 0 0 D) := ⟨_, rfl⟩
    obtain ⟨hth13, hbx13, hbe13⟩ := boxed w3 x13 y13 39 (evCs none 0 0 none 0 0 ev0) (evCs A5 D.act.frame.length c5 none 0 0 D) (by rw [ev_len Hd.out, ev_len ev0_shape]) hx13 hy13
    rw [ev0_lit] at hx13
    have HX13 := Lib.hid hx13
    have HY13 := Lib.hid hy13
    have Hth13 := Lib.hid hth13
    have Hbe13 := Lib.hid hbe13
    have H5n := Lib.hid hbx13
    clear hx13 hy13 hth13 hbx13 hbe13
    have R3 := Lib.hid (blk_range H3.out)
    go_upto_region 5 with (first
      | ((with_reducible refine gateL 39 ?_); refine wpList_load_g (by rfl) 39 (.tmp 3) rfl w2.heap.size 0 rfl (evCs A3 D.act.frame.length c3 none 0 0 D) _ R3.out ev_under rfl (ev_sz Hd.out) ?_)
      | (rw [← HX13.out]; (with_reducible refine gateS 39 ?_); refine wpList_store_mid rfl 39 (.tmp 5) (.tmp 23) rfl w3.heap.size 0 (evCs A5 D.act.frame.length c5 none 0 0 D).toArray rfl rfl Hth13.out (ev_szA Hd.out) (ev_one _ _ _ _ _ _ _) ?_))
    clear R3
    rw [← HY13.out]
    clear HX13 HY13 Hth13
    have H3' := Lib.hid (Blk.below H3.out Hbe13.out H3.out.lt)
    clear H3
    have H3 := H3'
    clear H3'
    have Hm' := Lib.hid ((Hm.out.below Hbe13.out).more Hbe13.out.size)
    clear Hm
    have Hm := Hm'
    clear Hm'
    have Hv3' := Lib.hid ((Hv3.out.below Hbe13.out).more Hbe13.out.size)
    clear Hv3
    have Hv3 := Hv3'
    clear Hv3'
    have Hv5' := Lib.hid ((Hv5.out.below Hbe13.out).more Hbe13.out.size)
    clear Hv5
    have Hv5 := Hv5'
    clear Hv5'
    have Bw' : Hid (Below w.heap.size w y13) := Bw.out.trans (Hbe13.out.mono Bw.out.size)
    clear Bw
    have Bw := Bw'
    clear Bw'
    have H5 := H5n
    clear H5n Hbe13
    have R3 := Lib.hid (blk_range H3.out)
    have R5 := Lib.hid (blk_range H5.out)
    go_wp2_with (first
      | ((with_reducible refine gateL 39 ?_); refine wpList_load_g (by rfl) 39 (.tmp 3) rfl w2.heap.size 0 rfl (evCs A3 D.act.frame.length c3 none 0 0 D) _ R3.out ev_under rfl (ev_sz Hd.out) ?_)
      | ((with_reducible refine gateL 39 ?_); refine wpList_load_g (by rfl) 39 (.tmp 5) rfl w3.heap.size 0 rfl (evCs A5 D.act.frame.length c5 none 0 0 D) _ R5.out ev_under rfl (ev_sz Hd.out) ?_))
    clear R3
    clear R5
    refine (rsameN A3 _ c3 none 0 0 D A5 _ c5 none 0 0 D Hd.out Hd.out rfl Hd0.out rfl Hd0.out y13 Hv3.out Hv5.out (by rw [Hdo.out]; exact BS.nil _ _ _) (by rw [Hdo.out]; exact BS.nil _ _ _) true (sameEv_self D)).mono ?_
    rintro e w4 ⟨rfl, hb14⟩
    have Hb14 := Lib.hid hb14
    clear hb14
    have H3' := Lib.hid (Blk.below H3.out Hb14.out H3.out.lt)
    clear H3
    have H3 := H3'
    clear H3'
    have H5' := Lib.hid (Blk.below H5.out Hb14.out H5.out.lt)
    clear H5
    have H5 := H5'
    clear H5'
    have Hm' := Lib.hid ((Hm.out.below Hb14.out).more Hb14.out.size)
    clear Hm
    have Hm := Hm'
    clear Hm'
    have Hv3' := Lib.hid ((Hv3.out.below Hb14.out).more Hb14.out.size)
    clear Hv3
    have Hv3 := Hv3'
    clear Hv3'
    have Hv5' := Lib.hid ((Hv5.out.below Hb14.out).more Hb14.out.size)
    clear Hv5
    have Hv5 := Hv5'
    clear Hv5'
    have Bw' : Hid (Below w.heap.size w w4) := Bw.out.trans (Hb14.out.mono Bw.out.size)
    clear Bw
    have Bw := Bw'
    clear Bw'
    clear Hb14
    go_wp2
    go_ret
    exact ⟨rfl, Bw.out⟩
end Go.Proofs.Ytgohhojoahlfiaa
