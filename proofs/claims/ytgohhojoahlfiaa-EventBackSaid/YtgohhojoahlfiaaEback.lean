/- EventBack: what may be comes back as it was; what is read may be, and has just these bytes; cut off, or with more behind it, it is none's (printed by gen_eback.py). -/
import Derived.Test.YtgohhojoahlfiaaEwN
namespace Go.Proofs.Ytgohhojoahlfiaa
open Go.RowKit
set_option linter.unusedVariables false
set_option linter.unusedSimpArgs false

theorem u16_ofE {n : Int} (h : (Lit.int .u16 n).wf = true) : ∃ k : Nat, n = (k : Int) ∧ k < 65536 := by
  have := bounds_u16 h
  exact ⟨n.toNat, by omega, by omega⟩
theorem u8_ofE {n : Int} (h : (Lit.int .u8 n).wf = true) : ∃ b : UInt8, n = (b.toNat : Int) := by
  have := bounds_u8 h
  refine ⟨UInt8.ofNat n.toNat, ?_⟩
  rw [UInt8.toNat_ofNat', Nat.mod_eq_of_lt (by omega)]
  omega
set_option maxHeartbeats 2000000 in
set_option maxRecDepth 100000 in
theorem walk_eventBack (w : World) (A : Option Addr) (c : Nat) (A2 : Option Addr) (c2 : Nat) (a : EvP) (hc : a.act.frame.length ≤ c) (hb : BS w w.heap.size A a.act.frame) (hc2 : a.o.out.length ≤ c2) (hb2 : BS w w.heap.size A2 a.o.out) (hs : EvShape a) (hw : EvWf a)
    (A0 : Option Addr) (n0 c0 : Nat) (l : List UInt8) (hn0 : n0 = l.length) (hc0 : n0 ≤ c0) (hm0 : n0 ≤ maxLen) (hb0 : BS w w.heap.size A0 l) (cut : Int) (wcut : (Lit.int .u16 cut).wf = true) (more : Int) (wmore : (Lit.int .u8 more).wf = true) :
    Calls Try.prog 7 #[.agg (evCs A a.act.frame.length c A2 a.o.out.length c2 a).toArray, .slice A0 n0 c0, .int .u16 cut, .int .u8 more] w fun e w' => e = .returned (.bool true) ∧ Below w.heap.size w w' := by
  subst hn0
  obtain ⟨at', rfl, hat'⟩ := u16_ofE wcut
  obtain ⟨mb, rfl⟩ := u8_ofE wmore
  obtain ⟨W0, hW⟩ : ∃ W, W = w.alloc (.cells (evCs A a.act.frame.length c A2 a.o.out.length c2 a).toArray 39) := ⟨_, rfl⟩
  have H4 : Hid (Blk W0 w.heap.size 39 (evCs A a.act.frame.length c A2 a.o.out.length c2 a).toArray) := by rw [hW]; exact Blk.new w _ _ _ rfl
  have hB : Below w.heap.size w W0 := by rw [hW]; exact (Below.refl _ _).alloc (Nat.le_refl _) _
  have Bw := Lib.hid hB
  have Hf := Lib.hid ((hb.below hB).more hB.size)
  have Ho := Lib.hid ((hb2.below hB).more hB.size)
  have Hm := Lib.hid ((hb0.below hB).more hB.size)
  have Hs := Lib.hid hs
  have HW := Lib.hid hW
  unfold maxLen at hm0
  clear hW hB hb hb2 hs hw hb0 wcut wmore
  obtain ⟨EZ, hEZ⟩ : ∃ F, F = ev0 := ⟨_, rfl⟩
  have HSZ : Hid (EvShape EZ) := by rw [hEZ]; exact ev0_shape
  have HEZ := Lib.hid hEZ
  clear hEZ
  rcases hf1 : fewEB a with _ | _
  · go_enter Try.func7, Try.ntmps7
    go_upto_region 1 with fail
    rw [← HW.out]
    clear HW
    go_wp2_with fail
    refine (awake28 W0).mono ?_
    rintro e w1 ⟨rfl, hb1⟩
    have Hb1 := Lib.hid hb1
    clear hb1
    have H4' := Lib.hid (Blk.below H4.out Hb1.out H4.out.lt)
    clear H4
    have H4 := H4'
    clear H4'
    have Hf' := Lib.hid ((Hf.out.below Hb1.out).more Hb1.out.size)
    clear Hf
    have Hf := Hf'
    clear Hf'
    have Ho' := Lib.hid ((Ho.out.below Hb1.out).more Hb1.out.size)
    clear Ho
    have Ho := Ho'
    clear Ho'
    have Hm' := Lib.hid ((Hm.out.below Hb1.out).more Hb1.out.size)
    clear Hm
    have Hm := Hm'
    clear Hm'
    have Bw' : Hid (Below w.heap.size w w1) := Bw.out.trans (Hb1.out.mono Bw.out.size)
    clear Bw
    have Bw := Bw'
    clear Bw'
    clear Hb1
    have R4 := Lib.hid (blk_range H4.out)
    go_wp2_with (first
      | ((with_reducible refine gateL 39 ?_); refine wpList_load_g (by rfl) 39 (.tmp 4) rfl w.heap.size 0 rfl (evCs A a.act.frame.length c A2 a.o.out.length c2 a) _ R4.out ev_under rfl (ev_sz Hs.out) ?_))
    clear R4
    refine (fewE_is A _ c A2 _ c2 a Hs.out rfl rfl w1 false hf1).mono ?_
    rintro e w2 ⟨rfl, hb2⟩
    have Hb2 := Lib.hid hb2
    clear hb2
    have H4' := Lib.hid (Blk.below H4.out Hb2.out H4.out.lt)
    clear H4
    have H4 := H4'
    clear H4'
    have Hf' := Lib.hid ((Hf.out.below Hb2.out).more Hb2.out.size)
    clear Hf
    have Hf := Hf'
    clear Hf'
    have Ho' := Lib.hid ((Ho.out.below Hb2.out).more Hb2.out.size)
    clear Ho
    have Ho := Ho'
    clear Ho'
    have Hm' := Lib.hid ((Hm.out.below Hb2.out).more Hb2.out.size)
    clear Hm
    have Hm := Hm'
    clear Hm'
    have Bw' : Hid (Below w.heap.size w w2) := Bw.out.trans (Hb2.out.mono Bw.out.size)
    clear Bw
    have Bw := Bw'
    clear Bw'
    clear Hb2
    go_wp2_with fail
    refine (awake28 w2).mono ?_
    rintro e wz ⟨rfl, hb3⟩
    have Hb3 := Lib.hid hb3
    clear hb3
    have H4' := Lib.hid (Blk.below H4.out Hb3.out H4.out.lt)
    clear H4
    have H4 := H4'
    clear H4'
    have Hf' := Lib.hid ((Hf.out.below Hb3.out).more Hb3.out.size)
    clear Hf
    have Hf := Hf'
    clear Hf'
    have Ho' := Lib.hid ((Ho.out.below Hb3.out).more Hb3.out.size)
    clear Ho
    have Ho := Ho'
    clear Ho'
    have Hm' := Lib.hid ((Hm.out.below Hb3.out).more Hb3.out.size)
    clear Hm
    have Hm := Hm'
    clear Hm'
    have Bw' : Hid (Below w.heap.size w wz) := Bw.out.trans (Hb3.out.mono Bw.out.size)
    clear Bw
    have Bw := Bw'
    clear Bw'
    clear Hb3
    go_wp2
    go_ret
    exact ⟨rfl, Bw.out⟩
  · by_cases h2 : l.length ≤ 140000
    rotate_left
    · have hlI : (140000 : Int) < (l.length : Int) := by omega
      go_enter Try.func7, Try.ntmps7
      go_upto_region 1 with fail
      rw [← HW.out]
      clear HW
      go_wp2_with fail
      refine (awake28 W0).mono ?_
      rintro e w1 ⟨rfl, hb4⟩
      have Hb4 := Lib.hid hb4
      clear hb4
      have H4' := Lib.hid (Blk.below H4.out Hb4.out H4.out.lt)
      clear H4
      have H4 := H4'
      clear H4'
      have Hf' := Lib.hid ((Hf.out.below Hb4.out).more Hb4.out.size)
      clear Hf
      have Hf := Hf'
      clear Hf'
      have Ho' := Lib.hid ((Ho.out.below Hb4.out).more Hb4.out.size)
      clear Ho
      have Ho := Ho'
      clear Ho'
      have Hm' := Lib.hid ((Hm.out.below Hb4.out).more Hb4.out.size)
      clear Hm
      have Hm := Hm'
      clear Hm'
      have Bw' : Hid (Below w.heap.size w w1) := Bw.out.trans (Hb4.out.mono Bw.out.size)
      clear Bw
      have Bw := Bw'
      clear Bw'
      clear Hb4
      have R4 := Lib.hid (blk_range H4.out)
      go_wp2_with (first
        | ((with_reducible refine gateL 39 ?_); refine wpList_load_g (by rfl) 39 (.tmp 4) rfl w.heap.size 0 rfl (evCs A a.act.frame.length c A2 a.o.out.length c2 a) _ R4.out ev_under rfl (ev_sz Hs.out) ?_))
      clear R4
      refine (fewE_is A _ c A2 _ c2 a Hs.out rfl rfl w1 true hf1).mono ?_
      rintro e w2 ⟨rfl, hb5⟩
      have Hb5 := Lib.hid hb5
      clear hb5
      have H4' := Lib.hid (Blk.below H4.out Hb5.out H4.out.lt)
      clear H4
      have H4 := H4'
      clear H4'
      have Hf' := Lib.hid ((Hf.out.below Hb5.out).more Hb5.out.size)
      clear Hf
      have Hf := Hf'
      clear Hf'
      have Ho' := Lib.hid ((Ho.out.below Hb5.out).more Hb5.out.size)
      clear Ho
      have Ho := Ho'
      clear Ho'
      have Hm' := Lib.hid ((Hm.out.below Hb5.out).more Hb5.out.size)
      clear Hm
      have Hm := Hm'
      clear Hm'
      have Bw' : Hid (Below w.heap.size w w2) := Bw.out.trans (Hb5.out.mono Bw.out.size)
      clear Bw
      have Bw := Bw'
      clear Bw'
      clear Hb5
      go_wp2_with fail
      refine (awake28 w2).mono ?_
      rintro e wz ⟨rfl, hb6⟩
      have Hb6 := Lib.hid hb6
      clear hb6
      have H4' := Lib.hid (Blk.below H4.out Hb6.out H4.out.lt)
      clear H4
      have H4 := H4'
      clear H4'
      have Hf' := Lib.hid ((Hf.out.below Hb6.out).more Hb6.out.size)
      clear Hf
      have Hf := Hf'
      clear Hf'
      have Ho' := Lib.hid ((Ho.out.below Hb6.out).more Hb6.out.size)
      clear Ho
      have Ho := Ho'
      clear Ho'
      have Hm' := Lib.hid ((Hm.out.below Hb6.out).more Hb6.out.size)
      clear Hm
      have Hm := Hm'
      clear Hm'
      have Bw' : Hid (Below w.heap.size w wz) := Bw.out.trans (Hb6.out.mono Bw.out.size)
      clear Bw
      have Bw := Bw'
      clear Bw'
      clear Hb6
      go_wp2
      go_ret
      exact ⟨rfl, Bw.out⟩
    have hlI : ¬ (140000 : Int) < (l.length : Int) := by omega
    rcases hr : rightEB a with _ | _
    · have Hr := Lib.hid hr
      clear hr
      go_enter Try.func7, Try.ntmps7
      go_upto_region 1 with fail
      rw [← HW.out]
      clear HW
      go_wp2_with fail
      refine (awake28 W0).mono ?_
      rintro e w1 ⟨rfl, hb7⟩
      have Hb7 := Lib.hid hb7
      clear hb7
      have H4' := Lib.hid (Blk.below H4.out Hb7.out H4.out.lt)
      clear H4
      have H4 := H4'
      clear H4'
      have Hf' := Lib.hid ((Hf.out.below Hb7.out).more Hb7.out.size)
      clear Hf
      have Hf := Hf'
      clear Hf'
      have Ho' := Lib.hid ((Ho.out.below Hb7.out).more Hb7.out.size)
      clear Ho
      have Ho := Ho'
      clear Ho'
      have Hm' := Lib.hid ((Hm.out.below Hb7.out).more Hb7.out.size)
      clear Hm
      have Hm := Hm'
      clear Hm'
      have Bw' : Hid (Below w.heap.size w w1) := Bw.out.trans (Hb7.out.mono Bw.out.size)
      clear Bw
      have Bw := Bw'
      clear Bw'
      clear Hb7
      have R4 := Lib.hid (blk_range H4.out)
      go_wp2_with (first
        | ((with_reducible refine gateL 39 ?_); refine wpList_load_g (by rfl) 39 (.tmp 4) rfl w.heap.size 0 rfl (evCs A a.act.frame.length c A2 a.o.out.length c2 a) _ R4.out ev_under rfl (ev_sz Hs.out) ?_))
      clear R4
      refine (fewE_is A _ c A2 _ c2 a Hs.out rfl rfl w1 true hf1).mono ?_
      rintro e w2 ⟨rfl, hb8⟩
      have Hb8 := Lib.hid hb8
      clear hb8
      have H4' := Lib.hid (Blk.below H4.out Hb8.out H4.out.lt)
      clear H4
      have H4 := H4'
      clear H4'
      have Hf' := Lib.hid ((Hf.out.below Hb8.out).more Hb8.out.size)
      clear Hf
      have Hf := Hf'
      clear Hf'
      have Ho' := Lib.hid ((Ho.out.below Hb8.out).more Hb8.out.size)
      clear Ho
      have Ho := Ho'
      clear Ho'
      have Hm' := Lib.hid ((Hm.out.below Hb8.out).more Hb8.out.size)
      clear Hm
      have Hm := Hm'
      clear Hm'
      have Bw' : Hid (Below w.heap.size w w2) := Bw.out.trans (Hb8.out.mono Bw.out.size)
      clear Bw
      have Bw := Bw'
      clear Bw'
      clear Hb8
      have R4 := Lib.hid (blk_range H4.out)
      go_wp2_with (first
        | ((with_reducible refine gateL 39 ?_); refine wpList_load_g (by rfl) 39 (.tmp 4) rfl w.heap.size 0 rfl (evCs A a.act.frame.length c A2 a.o.out.length c2 a) _ R4.out ev_under rfl (ev_sz Hs.out) ?_))
      clear R4
      refine (eputE_no A c A2 c2 a Hs.out Hr.out w2 Hf.out).mono ?_
      rintro e w3 ⟨rfl, hb9⟩
      have Hb9 := Lib.hid hb9
      clear hb9
      have H4' := Lib.hid (Blk.below H4.out Hb9.out H4.out.lt)
      clear H4
      have H4 := H4'
      clear H4'
      have Hf' := Lib.hid ((Hf.out.below Hb9.out).more Hb9.out.size)
      clear Hf
      have Hf := Hf'
      clear Hf'
      have Ho' := Lib.hid ((Ho.out.below Hb9.out).more Hb9.out.size)
      clear Ho
      have Ho := Ho'
      clear Ho'
      have Hm' := Lib.hid ((Hm.out.below Hb9.out).more Hb9.out.size)
      clear Hm
      have Hm := Hm'
      clear Hm'
      have Bw' : Hid (Below w.heap.size w w3) := Bw.out.trans (Hb9.out.mono Bw.out.size)
      clear Bw
      have Bw := Bw'
      clear Bw'
      clear Hb9
      clear H4
      rcases hg : evGetS l with _ | D
      · have Hg := Lib.hid hg
        clear hg
        go_wp2_with fail
        refine (egetE_no A0 _ c0 l w3 rfl Hm.out (by omega) Hg.out EZ HEZ.out).mono ?_
        rintro e v1 ⟨rfl, hb10⟩
        have Hb10 := Lib.hid hb10
        clear hb10
        have Hf' := Lib.hid ((Hf.out.below Hb10.out).more Hb10.out.size)
        clear Hf
        have Hf := Hf'
        clear Hf'
        have Ho' := Lib.hid ((Ho.out.below Hb10.out).more Hb10.out.size)
        clear Ho
        have Ho := Ho'
        clear Ho'
        have Hm' := Lib.hid ((Hm.out.below Hb10.out).more Hb10.out.size)
        clear Hm
        have Hm := Hm'
        clear Hm'
        have Bw' : Hid (Below w.heap.size w v1) := Bw.out.trans (Hb10.out.mono Bw.out.size)
        clear Bw
        have Bw := Bw'
        clear Bw'
        clear Hb10
        obtain ⟨x11, hx11⟩ : ∃ W, W = v1.alloc (.cells (evCs none 0 0 none 0 0 ev0).toArray 39) := ⟨_, rfl⟩
        obtain ⟨y11, hy11⟩ : ∃ W, W = x11.setCells v1.heap.size 0 (evCs none 0 0 none 0 0 EZ) := ⟨_, rfl⟩
        obtain ⟨hth11, hbx11, hbe11⟩ := boxed v1 x11 y11 39 (evCs none 0 0 none 0 0 ev0) (evCs none 0 0 none 0 0 EZ) (by rw [ev_len HSZ.out, ev_len ev0_shape]) hx11 hy11
        rw [ev0_lit] at hx11
        have HX11 := Lib.hid hx11
        have HY11 := Lib.hid hy11
        have Hth11 := Lib.hid hth11
        have Hbe11 := Lib.hid hbe11
        have H17n := Lib.hid hbx11
        clear hx11 hy11 hth11 hbx11 hbe11
        go_upto_region 13 with (first
          | (rw [← HX11.out]; (with_reducible refine gateS 39 ?_); refine wpList_store_mid rfl 39 (.tmp 17) (.tmp 89) rfl v1.heap.size 0 (evCs none 0 0 none 0 0 EZ).toArray rfl rfl Hth11.out (ev_szA HSZ.out) (ev_one _ _ _ _ _ _ _) ?_))
        rw [← HY11.out]
        clear HX11 HY11 Hth11
        have Hf' := Lib.hid ((Hf.out.below Hbe11.out).more Hbe11.out.size)
        clear Hf
        have Hf := Hf'
        clear Hf'
        have Ho' := Lib.hid ((Ho.out.below Hbe11.out).more Hbe11.out.size)
        clear Ho
        have Ho := Ho'
        clear Ho'
        have Hm' := Lib.hid ((Hm.out.below Hbe11.out).more Hbe11.out.size)
        clear Hm
        have Hm := Hm'
        clear Hm'
        have Bw' : Hid (Below w.heap.size w y11) := Bw.out.trans (Hbe11.out.mono Bw.out.size)
        clear Bw
        have Bw := Bw'
        clear Bw'
        have H17 := H17n
        clear H17n Hbe11
        have R17 := Lib.hid (blk_range H17.out)
        go_wp2_with (first
          | ((with_reducible refine gateL 39 ?_); refine wpList_load_g (by rfl) 39 (.tmp 17) rfl v1.heap.size 0 rfl (evCs none 0 0 none 0 0 EZ) _ R17.out ev_under rfl (ev_sz HSZ.out) ?_))
        clear R17
        refine (esameZ EZ HEZ.out _ rfl y11).mono ?_
        rintro e v2 ⟨rfl, hb12⟩
        have Hb12 := Lib.hid hb12
        clear hb12
        have H17' := Lib.hid (Blk.below H17.out Hb12.out H17.out.lt)
        clear H17
        have H17 := H17'
        clear H17'
        have Hf' := Lib.hid ((Hf.out.below Hb12.out).more Hb12.out.size)
        clear Hf
        have Hf := Hf'
        clear Hf'
        have Ho' := Lib.hid ((Ho.out.below Hb12.out).more Hb12.out.size)
        clear Ho
        have Ho := Ho'
        clear Ho'
        have Hm' := Lib.hid ((Hm.out.below Hb12.out).more Hb12.out.size)
        clear Hm
        have Hm := Hm'
        clear Hm'
        have Bw' : Hid (Below w.heap.size w v2) := Bw.out.trans (Hb12.out.mono Bw.out.size)
        clear Bw
        have Bw := Bw'
        clear Bw'
        clear Hb12
        go_wp2
        go_ret
        exact ⟨rfl, Bw.out⟩
      · obtain ⟨hd1, hd2, hd3, _⟩ := evGet_B hg
        have Hd := Lib.hid hd3
        have Hdr := Lib.hid hd2
        have Hdb := Lib.hid hd1.symm
        have Hd0 := Lib.hid (right_out hd2)
        have Hg := Lib.hid hg
        clear hg hd1 hd2 hd3
        go_wp2_with fail
        refine (egetE_yes A0 _ c0 l w3 rfl Hm.out (by omega) D Hg.out).mono ?_
        rintro e v1 ⟨A8, c8, rfl, hown8, hb13⟩
        have Hb13 := Lib.hid hb13
        clear hb13
        have Hv8 := Lib.hid (BS.of_own hown8).1
        clear hown8
        have Hf' := Lib.hid ((Hf.out.below Hb13.out).more Hb13.out.size)
        clear Hf
        have Hf := Hf'
        clear Hf'
        have Ho' := Lib.hid ((Ho.out.below Hb13.out).more Hb13.out.size)
        clear Ho
        have Ho := Ho'
        clear Ho'
        have Hm' := Lib.hid ((Hm.out.below Hb13.out).more Hb13.out.size)
        clear Hm
        have Hm := Hm'
        clear Hm'
        have Bw' : Hid (Below w.heap.size w v1) := Bw.out.trans (Hb13.out.mono Bw.out.size)
        clear Bw
        have Bw := Bw'
        clear Bw'
        clear Hb13
        obtain ⟨x14, hx14⟩ : ∃ W, W = v1.alloc (.cells (evCs none 0 0 none 0 0 ev0).toArray 39) := ⟨_, rfl⟩
        obtain ⟨y14, hy14⟩ : ∃ W, W = x14.setCells v1.heap.size 0 (evCs A8 D.act.frame.length c8 none 0 0 D) := ⟨_, rfl⟩
        obtain ⟨hth14, hbx14, hbe14⟩ := boxed v1 x14 y14 39 (evCs none 0 0 none 0 0 ev0) (evCs A8 D.act.frame.length c8 none 0 0 D) (by rw [ev_len Hd.out, ev_len ev0_shape]) hx14 hy14
        rw [ev0_lit] at hx14
        have HX14 := Lib.hid hx14
        have HY14 := Lib.hid hy14
        have Hth14 := Lib.hid hth14
        have Hbe14 := Lib.hid hbe14
        have H17n := Lib.hid hbx14
        clear hx14 hy14 hth14 hbx14 hbe14
        go_upto_region 13 with (first
          | (rw [← HX14.out]; (with_reducible refine gateS 39 ?_); refine wpList_store_mid rfl 39 (.tmp 17) (.tmp 89) rfl v1.heap.size 0 (evCs A8 D.act.frame.length c8 none 0 0 D).toArray rfl rfl Hth14.out (ev_szA Hd.out) (ev_one _ _ _ _ _ _ _) ?_))
        rw [← HY14.out]
        clear HX14 HY14 Hth14
        have Hf' := Lib.hid ((Hf.out.below Hbe14.out).more Hbe14.out.size)
        clear Hf
        have Hf := Hf'
        clear Hf'
        have Ho' := Lib.hid ((Ho.out.below Hbe14.out).more Hbe14.out.size)
        clear Ho
        have Ho := Ho'
        clear Ho'
        have Hm' := Lib.hid ((Hm.out.below Hbe14.out).more Hbe14.out.size)
        clear Hm
        have Hm := Hm'
        clear Hm'
        have Hv8' := Lib.hid ((Hv8.out.below Hbe14.out).more Hbe14.out.size)
        clear Hv8
        have Hv8 := Hv8'
        clear Hv8'
        have Bw' : Hid (Below w.heap.size w y14) := Bw.out.trans (Hbe14.out.mono Bw.out.size)
        clear Bw
        have Bw := Bw'
        clear Bw'
        have H17 := H17n
        clear H17n Hbe14
        have R17 := Lib.hid (blk_range H17.out)
        go_wp2_with (first
          | ((with_reducible refine gateL 39 ?_); refine wpList_load_g (by rfl) 39 (.tmp 17) rfl v1.heap.size 0 rfl (evCs A8 D.act.frame.length c8 none 0 0 D) _ R17.out ev_under rfl (ev_sz Hd.out) ?_))
        clear R17
        refine (eputN_yes A8 _ c8 none 0 0 D Hd.out rfl Hd0.out Hdr.out y14 Hv8.out l Hdb.out).mono ?_
        rintro e v2 ⟨A9, c9, rfl, hown9, hb15⟩
        have Hb15 := Lib.hid hb15
        clear hb15
        have Hv9 := Lib.hid (BS.of_own hown9).1
        clear hown9
        have H17' := Lib.hid (Blk.below H17.out Hb15.out H17.out.lt)
        clear H17
        have H17 := H17'
        clear H17'
        have Hf' := Lib.hid ((Hf.out.below Hb15.out).more Hb15.out.size)
        clear Hf
        have Hf := Hf'
        clear Hf'
        have Ho' := Lib.hid ((Ho.out.below Hb15.out).more Hb15.out.size)
        clear Ho
        have Ho := Ho'
        clear Ho'
        have Hm' := Lib.hid ((Hm.out.below Hb15.out).more Hb15.out.size)
        clear Hm
        have Hm := Hm'
        clear Hm'
        have Hv8' := Lib.hid ((Hv8.out.below Hb15.out).more Hb15.out.size)
        clear Hv8
        have Hv8 := Hv8'
        clear Hv8'
        have Bw' : Hid (Below w.heap.size w v2) := Bw.out.trans (Hb15.out.mono Bw.out.size)
        clear Bw
        have Bw := Bw'
        clear Bw'
        clear Hb15
        have hcv1 := run_convert_bs (P := Try.prog) 22 9 5 Try.underlying22 Try.underlying5 Try.underlying9 v2 _ A9 l Hv9.out _ c9 rfl
        have hcv2 := run_convert_bs (P := Try.prog) 22 9 5 Try.underlying22 Try.underlying5 Try.underlying9 v2 _ A0 l Hm.out _ c0 rfl
        have R17 := Lib.hid (blk_range H17.out)
        go_wp2_with (first
          | ((with_reducible refine gateL 39 ?_); refine wpList_load_g (by rfl) 39 (.tmp 17) rfl v1.heap.size 0 rfl (evCs A8 D.act.frame.length c8 none 0 0 D) _ R17.out ev_under rfl (ev_sz Hd.out) ?_))
        clear R17
        refine (erightN A8 _ c8 none 0 0 D Hd.out rfl Hd0.out v2 Hv8.out true Hdr.out).mono ?_
        rintro e v3 ⟨rfl, hb16⟩
        have Hb16 := Lib.hid hb16
        clear hb16
        have H17' := Lib.hid (Blk.below H17.out Hb16.out H17.out.lt)
        clear H17
        have H17 := H17'
        clear H17'
        have Hf' := Lib.hid ((Hf.out.below Hb16.out).more Hb16.out.size)
        clear Hf
        have Hf := Hf'
        clear Hf'
        have Ho' := Lib.hid ((Ho.out.below Hb16.out).more Hb16.out.size)
        clear Ho
        have Ho := Ho'
        clear Ho'
        have Hm' := Lib.hid ((Hm.out.below Hb16.out).more Hb16.out.size)
        clear Hm
        have Hm := Hm'
        clear Hm'
        have Hv8' := Lib.hid ((Hv8.out.below Hb16.out).more Hb16.out.size)
        clear Hv8
        have Hv8 := Hv8'
        clear Hv8'
        have Hv9' := Lib.hid ((Hv9.out.below Hb16.out).more Hb16.out.size)
        clear Hv9
        have Hv9 := Hv9'
        clear Hv9'
        have Bw' : Hid (Below w.heap.size w v3) := Bw.out.trans (Hb16.out.mono Bw.out.size)
        clear Bw
        have Bw := Bw'
        clear Bw'
        clear Hb16
        clear hcv1 hcv2
        have hcv1 := run_convert_bs (P := Try.prog) 22 9 5 Try.underlying22 Try.underlying5 Try.underlying9 v3 _ A9 l Hv9.out _ c9 rfl
        have hcv2 := run_convert_bs (P := Try.prog) 22 9 5 Try.underlying22 Try.underlying5 Try.underlying9 v3 _ A0 l Hm.out _ c0 rfl
        go_wp2
        go_ret
        exact ⟨rfl, Bw.out⟩
    · have hpos := evBytes_pos a
      have hle := evBytes_len Hs.out hr
      have hcutN := @evGet_cut a Hs.out hr (at' % (evBytes a).length) (Nat.mod_lt _ hpos)
      have hmore := @evGet_more a Hs.out hr [mb] (by simp)
      have hown := evGet_own Hs.out hr
      obtain ⟨N, hN⟩ : ∃ N, N = normE a := ⟨_, rfl⟩
      have HN : Hid (EvShape N) := by rw [hN]; exact norm_shape Hs.out
      have HNs : Hid (sameEvB N a = true) := by rw [hN]; exact norm_same a
      have HN0 : Hid (0 = N.o.out.length) := by rw [hN]; exact right_out (e := normE a) (by rw [norm_right]; exact hr)
      have HNo : Hid (N.o.out = []) := List.eq_nil_of_length_eq_zero HN0.out.symm
      obtain ⟨m, hmm⟩ : ∃ m, m = evBytes a := ⟨_, rfl⟩
      rw [← hmm] at hpos hle hcutN hmore hown
      rw [← hN] at hown
      have Hcut := Lib.hid hcutN
      have Hmore := Lib.hid hmore
      have Hown := Lib.hid hown
      have Hmm := Lib.hid hmm.symm
      have Hr := Lib.hid hr
      clear hr hcutN hmore hown hmm hN
      obtain ⟨i0, hi0, hz0, hz1, hz2⟩ := info_parts u8_infoO
      go_enter Try.func7, Try.ntmps7
      go_upto_region 1 with fail
      rw [← HW.out]
      clear HW
      go_wp2_with fail
      refine (awake28 W0).mono ?_
      rintro e w1 ⟨rfl, hb17⟩
      have Hb17 := Lib.hid hb17
      clear hb17
      have H4' := Lib.hid (Blk.below H4.out Hb17.out H4.out.lt)
      clear H4
      have H4 := H4'
      clear H4'
      have Hf' := Lib.hid ((Hf.out.below Hb17.out).more Hb17.out.size)
      clear Hf
      have Hf := Hf'
      clear Hf'
      have Ho' := Lib.hid ((Ho.out.below Hb17.out).more Hb17.out.size)
      clear Ho
      have Ho := Ho'
      clear Ho'
      have Hm' := Lib.hid ((Hm.out.below Hb17.out).more Hb17.out.size)
      clear Hm
      have Hm := Hm'
      clear Hm'
      have Bw' : Hid (Below w.heap.size w w1) := Bw.out.trans (Hb17.out.mono Bw.out.size)
      clear Bw
      have Bw := Bw'
      clear Bw'
      clear Hb17
      have R4 := Lib.hid (blk_range H4.out)
      go_wp2_with (first
        | ((with_reducible refine gateL 39 ?_); refine wpList_load_g (by rfl) 39 (.tmp 4) rfl w.heap.size 0 rfl (evCs A a.act.frame.length c A2 a.o.out.length c2 a) _ R4.out ev_under rfl (ev_sz Hs.out) ?_))
      clear R4
      refine (fewE_is A _ c A2 _ c2 a Hs.out rfl rfl w1 true hf1).mono ?_
      rintro e w2 ⟨rfl, hb18⟩
      have Hb18 := Lib.hid hb18
      clear hb18
      have H4' := Lib.hid (Blk.below H4.out Hb18.out H4.out.lt)
      clear H4
      have H4 := H4'
      clear H4'
      have Hf' := Lib.hid ((Hf.out.below Hb18.out).more Hb18.out.size)
      clear Hf
      have Hf := Hf'
      clear Hf'
      have Ho' := Lib.hid ((Ho.out.below Hb18.out).more Hb18.out.size)
      clear Ho
      have Ho := Ho'
      clear Ho'
      have Hm' := Lib.hid ((Hm.out.below Hb18.out).more Hb18.out.size)
      clear Hm
      have Hm := Hm'
      clear Hm'
      have Bw' : Hid (Below w.heap.size w w2) := Bw.out.trans (Hb18.out.mono Bw.out.size)
      clear Bw
      have Bw := Bw'
      clear Bw'
      clear Hb18
      have R4 := Lib.hid (blk_range H4.out)
      go_wp2_with (first
        | ((with_reducible refine gateL 39 ?_); refine wpList_load_g (by rfl) 39 (.tmp 4) rfl w.heap.size 0 rfl (evCs A a.act.frame.length c A2 a.o.out.length c2 a) _ R4.out ev_under rfl (ev_sz Hs.out) ?_))
      clear R4
      refine (eputE_yes A c A2 c2 a Hs.out Hr.out w2 Hf.out m Hmm.out).mono ?_
      rintro e w3 ⟨A3, c3, rfl, hown3, hb19⟩
      have Hb19 := Lib.hid hb19
      clear hb19
      have Ho3 := Lib.hid hown3
      clear hown3
      have H4' := Lib.hid (Blk.below H4.out Hb19.out H4.out.lt)
      clear H4
      have H4 := H4'
      clear H4'
      have Hf' := Lib.hid ((Hf.out.below Hb19.out).more Hb19.out.size)
      clear Hf
      have Hf := Hf'
      clear Hf'
      have Ho' := Lib.hid ((Ho.out.below Hb19.out).more Hb19.out.size)
      clear Ho
      have Ho := Ho'
      clear Ho'
      have Hm' := Lib.hid ((Hm.out.below Hb19.out).more Hb19.out.size)
      clear Hm
      have Hm := Hm'
      clear Hm'
      have Bw' : Hid (Below w.heap.size w w3) := Bw.out.trans (Hb19.out.mono Bw.out.size)
      clear Bw
      have Bw := Bw'
      clear Bw'
      clear Hb19
      have hc3 : m.length ≤ c3 := own_le Ho3.out
      have hlen0 : ((m.length : Int) == 0) = false := beq_eq_false_iff_ne.2 (by omega)
      go_wp2_with fail
      refine (egetE_yes A3 _ c3 m w3 rfl (BS.of_own Ho3.out).1 (by omega) N Hown.out).mono ?_
      rintro e w4 ⟨A4, c4, rfl, hown4, hb20⟩
      have Hb20 := Lib.hid hb20
      clear hb20
      have Hv4 := Lib.hid (BS.of_own hown4).1
      clear hown4
      have H4' := Lib.hid (Blk.below H4.out Hb20.out H4.out.lt)
      clear H4
      have H4 := H4'
      clear H4'
      have Hf' := Lib.hid ((Hf.out.below Hb20.out).more Hb20.out.size)
      clear Hf
      have Hf := Hf'
      clear Hf'
      have Ho' := Lib.hid ((Ho.out.below Hb20.out).more Hb20.out.size)
      clear Ho
      have Ho := Ho'
      clear Ho'
      have Hm' := Lib.hid ((Hm.out.below Hb20.out).more Hb20.out.size)
      clear Hm
      have Hm := Hm'
      clear Hm'
      have Ho3' := Lib.hid (own_below Ho3.out Hb20.out)
      clear Ho3
      have Ho3 := Ho3'
      clear Ho3'
      have Bw' : Hid (Below w.heap.size w w4) := Bw.out.trans (Hb20.out.mono Bw.out.size)
      clear Bw
      have Bw := Bw'
      clear Bw'
      clear Hb20
      obtain ⟨x21, hx21⟩ : ∃ W, W = w4.alloc (.cells (evCs none 0 0 none 0 0 ev0).toArray 39) := ⟨_, rfl⟩
      obtain ⟨y21, hy21⟩ : ∃ W, W = x21.setCells w4.heap.size 0 (evCs A4 N.act.frame.length c4 none 0 0 N) := ⟨_, rfl⟩
      obtain ⟨hth21, hbx21, hbe21⟩ := boxed w4 x21 y21 39 (evCs none 0 0 none 0 0 ev0) (evCs A4 N.act.frame.length c4 none 0 0 N) (by rw [ev_len HN.out, ev_len ev0_shape]) hx21 hy21
      rw [ev0_lit] at hx21
      have HX21 := Lib.hid hx21
      have HY21 := Lib.hid hy21
      have Hth21 := Lib.hid hth21
      have Hbe21 := Lib.hid hbe21
      have H11n := Lib.hid hbx21
      clear hx21 hy21 hth21 hbx21 hbe21
      have R4 := Lib.hid (blk_range H4.out)
      go_upto_region 6 with (first
        | ((with_reducible refine gateL 39 ?_); refine wpList_load_g (by rfl) 39 (.tmp 4) rfl w.heap.size 0 rfl (evCs A a.act.frame.length c A2 a.o.out.length c2 a) _ R4.out ev_under rfl (ev_sz Hs.out) ?_)
        | (rw [← HX21.out]; (with_reducible refine gateS 39 ?_); refine wpList_store_mid rfl 39 (.tmp 11) (.tmp 44) rfl w4.heap.size 0 (evCs A4 N.act.frame.length c4 none 0 0 N).toArray rfl rfl Hth21.out (ev_szA HN.out) (ev_one _ _ _ _ _ _ _) ?_))
      clear R4
      rw [← HY21.out]
      clear HX21 HY21 Hth21
      have H4' := Lib.hid (Blk.below H4.out Hbe21.out H4.out.lt)
      clear H4
      have H4 := H4'
      clear H4'
      have Hf' := Lib.hid ((Hf.out.below Hbe21.out).more Hbe21.out.size)
      clear Hf
      have Hf := Hf'
      clear Hf'
      have Ho' := Lib.hid ((Ho.out.below Hbe21.out).more Hbe21.out.size)
      clear Ho
      have Ho := Ho'
      clear Ho'
      have Hm' := Lib.hid ((Hm.out.below Hbe21.out).more Hbe21.out.size)
      clear Hm
      have Hm := Hm'
      clear Hm'
      have Ho3' := Lib.hid (own_below Ho3.out Hbe21.out)
      clear Ho3
      have Ho3 := Ho3'
      clear Ho3'
      have Hv4' := Lib.hid ((Hv4.out.below Hbe21.out).more Hbe21.out.size)
      clear Hv4
      have Hv4 := Hv4'
      clear Hv4'
      have Bw' : Hid (Below w.heap.size w y21) := Bw.out.trans (Hbe21.out.mono Bw.out.size)
      clear Bw
      have Bw := Bw'
      clear Bw'
      have H11 := H11n
      clear H11n Hbe21
      have R4 := Lib.hid (blk_range H4.out)
      have R11 := Lib.hid (blk_range H11.out)
      go_wp2_with (first
        | ((with_reducible refine gateL 39 ?_); refine wpList_load_g (by rfl) 39 (.tmp 4) rfl w.heap.size 0 rfl (evCs A a.act.frame.length c A2 a.o.out.length c2 a) _ R4.out ev_under rfl (ev_sz Hs.out) ?_)
        | ((with_reducible refine gateL 39 ?_); refine wpList_load_g (by rfl) 39 (.tmp 11) rfl w4.heap.size 0 rfl (evCs A4 N.act.frame.length c4 none 0 0 N) _ R11.out ev_under rfl (ev_sz HN.out) ?_))
      clear R4
      clear R11
      refine (esameN A4 _ c4 none 0 0 N A _ c A2 _ c2 a HN.out Hs.out rfl HN0.out rfl rfl y21 Hv4.out Hf.out (by rw [HNo.out]; exact BS.nil _ _ _) Ho.out true HNs.out).mono ?_
      rintro e w5 ⟨rfl, hb22⟩
      have Hb22 := Lib.hid hb22
      clear hb22
      have H4' := Lib.hid (Blk.below H4.out Hb22.out H4.out.lt)
      clear H4
      have H4 := H4'
      clear H4'
      have H11' := Lib.hid (Blk.below H11.out Hb22.out H11.out.lt)
      clear H11
      have H11 := H11'
      clear H11'
      have Hf' := Lib.hid ((Hf.out.below Hb22.out).more Hb22.out.size)
      clear Hf
      have Hf := Hf'
      clear Hf'
      have Ho' := Lib.hid ((Ho.out.below Hb22.out).more Hb22.out.size)
      clear Ho
      have Ho := Ho'
      clear Ho'
      have Hm' := Lib.hid ((Hm.out.below Hb22.out).more Hb22.out.size)
      clear Hm
      have Hm := Hm'
      clear Hm'
      have Ho3' := Lib.hid (own_below Ho3.out Hb22.out)
      clear Ho3
      have Ho3 := Ho3'
      clear Ho3'
      have Hv4' := Lib.hid ((Hv4.out.below Hb22.out).more Hb22.out.size)
      clear Hv4
      have Hv4 := Hv4'
      clear Hv4'
      have Bw' : Hid (Below w.heap.size w w5) := Bw.out.trans (Hb22.out.mono Bw.out.size)
      clear Bw
      have Bw := Bw'
      clear Bw'
      clear Hb22
      clear H11
      clear Hv4
      have hposI : ¬ (m.length : Int) = 0 := by omega
      have hkl : at' % m.length < m.length := Nat.mod_lt _ (by omega)
      have hk1 : (0 : Int) ≤ (at' : Int) % (m.length : Int) := by omega
      have hk2 : (at' : Int) % (m.length : Int) ≤ (c3 : Int) := by omega
      have HLk : Hid (at' % m.length = (m.take (at' % m.length)).length) := by show _ = _; rw [List.length_take, Nat.min_eq_left (Nat.le_of_lt hkl)]
      go_wp2_with fail
      refine (egetE_no A3 _ c3 _ w5 HLk.out ((BS.of_own Ho3.out).1.take _) (by omega) Hcut.out EZ HEZ.out).mono ?_
      rintro e w6 ⟨rfl, hb23⟩
      have Hb23 := Lib.hid hb23
      clear hb23
      have H4' := Lib.hid (Blk.below H4.out Hb23.out H4.out.lt)
      clear H4
      have H4 := H4'
      clear H4'
      have Hf' := Lib.hid ((Hf.out.below Hb23.out).more Hb23.out.size)
      clear Hf
      have Hf := Hf'
      clear Hf'
      have Ho' := Lib.hid ((Ho.out.below Hb23.out).more Hb23.out.size)
      clear Ho
      have Ho := Ho'
      clear Ho'
      have Hm' := Lib.hid ((Hm.out.below Hb23.out).more Hb23.out.size)
      clear Hm
      have Hm := Hm'
      clear Hm'
      have Ho3' := Lib.hid (own_below Ho3.out Hb23.out)
      clear Ho3
      have Ho3 := Ho3'
      clear Ho3'
      have Bw' : Hid (Below w.heap.size w w6) := Bw.out.trans (Hb23.out.mono Bw.out.size)
      clear Bw
      have Bw := Bw'
      clear Bw'
      clear Hb23
      obtain ⟨x24, hx24⟩ : ∃ W, W = w6.alloc (.cells (evCs none 0 0 none 0 0 ev0).toArray 39) := ⟨_, rfl⟩
      obtain ⟨y24, hy24⟩ : ∃ W, W = x24.setCells w6.heap.size 0 (evCs none 0 0 none 0 0 EZ) := ⟨_, rfl⟩
      obtain ⟨hth24, hbx24, hbe24⟩ := boxed w6 x24 y24 39 (evCs none 0 0 none 0 0 ev0) (evCs none 0 0 none 0 0 EZ) (by rw [ev_len HSZ.out, ev_len ev0_shape]) hx24 hy24
      rw [ev0_lit] at hx24
      have HX24 := Lib.hid hx24
      have HY24 := Lib.hid hy24
      have Hth24 := Lib.hid hth24
      have Hbe24 := Lib.hid hbe24
      have H13n := Lib.hid hbx24
      clear hx24 hy24 hth24 hbx24 hbe24
      have R4 := Lib.hid (blk_range H4.out)
      go_upto_region 9 with (first
        | ((with_reducible refine gateL 39 ?_); refine wpList_load_g (by rfl) 39 (.tmp 4) rfl w.heap.size 0 rfl (evCs A a.act.frame.length c A2 a.o.out.length c2 a) _ R4.out ev_under rfl (ev_sz Hs.out) ?_)
        | (rw [← HX24.out]; (with_reducible refine gateS 39 ?_); refine wpList_store_mid rfl 39 (.tmp 13) (.tmp 68) rfl w6.heap.size 0 (evCs none 0 0 none 0 0 EZ).toArray rfl rfl Hth24.out (ev_szA HSZ.out) (ev_one _ _ _ _ _ _ _) ?_))
      clear R4
      rw [← HY24.out]
      clear HX24 HY24 Hth24
      have H4' := Lib.hid (Blk.below H4.out Hbe24.out H4.out.lt)
      clear H4
      have H4 := H4'
      clear H4'
      have Hf' := Lib.hid ((Hf.out.below Hbe24.out).more Hbe24.out.size)
      clear Hf
      have Hf := Hf'
      clear Hf'
      have Ho' := Lib.hid ((Ho.out.below Hbe24.out).more Hbe24.out.size)
      clear Ho
      have Ho := Ho'
      clear Ho'
      have Hm' := Lib.hid ((Hm.out.below Hbe24.out).more Hbe24.out.size)
      clear Hm
      have Hm := Hm'
      clear Hm'
      have Ho3' := Lib.hid (own_below Ho3.out Hbe24.out)
      clear Ho3
      have Ho3 := Ho3'
      clear Ho3'
      have Bw' : Hid (Below w.heap.size w y24) := Bw.out.trans (Hbe24.out.mono Bw.out.size)
      clear Bw
      have Bw := Bw'
      clear Bw'
      have H13 := H13n
      clear H13n Hbe24
      clear H13
      go_wp2_with (first
          | (at_builtin
             refine wpList_append_bytes _ rfl (.tmp 71) (.tmp 72) 22 rfl y24.heap.size 5 i0 (.int .u8 0) 1 Try.underlying22 hi0 hz0 hz1 hz2 rfl (.slice (some ⟨y24.heap.size, 0, none⟩) 0 0) [] rfl (own_none y24 _ _ (Nat.le_refl _) _ rfl) (y24.alloc (.cells #[] 5)).heap.size A3 _ c3 m rfl rfl (BS.of_own (own_below Ho3.out ((Below.refl _ _).alloc (Nat.le_refl _) _))).1 ?_ ?_ ?_ ?_
             · go_loud (simp; unfold maxLen; omega)
             · go_loud (simp; omega)
             · go_loud (simp)
             intro A5 c5 x5 hown5 hg5 _
             have Hg5 : Hid (Below y24.heap.size y24 x5) := ((Below.refl _ _).alloc (Nat.le_refl _) _).grown hg5 (by simp) (fun k hk => by simp [Value.ownBlock] at hk; omega)
             have hown5' : x5.ownsRow y24.heap.size 5 1 (.slice A5 m.length c5) m.length (bcells m) := by simpa using hown5
             have Hown5 := Lib.hid hown5'
             have hsz5 : y24.heap.size ≤ x5.heap.size + 1 := Nat.le_succ_of_le Hg5.out.size
             clear hown5 hown5' hg5)
          | (at_builtin
             refine wpList_append_bytes _ rfl (.tmp 73) (.tmp 75) 22 rfl y24.heap.size 5 i0 (.int .u8 0) 1 Try.underlying22 hi0 hz0 hz1 hz2 rfl (.slice A5 m.length c5) m rfl (own_below Hown5.out ((Below.refl _ _).alloc (Nat.le_refl _) _)) _ (some ⟨x5.heap.size, 0, none⟩) 1 1 [mb] rfl rfl (BS.one' x5 mb _ rfl _) ?_ ?_ ?_ ?_
             · go_loud (simp; unfold maxLen; omega)
             · go_loud (simp; omega)
             · go_loud (rw [show (x5.alloc _).heap.size = x5.heap.size + 1 by simp]; exact hsz5)
             intro A6 c6 x6 hown6 hg6 _
             have Hown6 := Lib.hid hown6
             have Hg6 : Hid (Below y24.heap.size y24 x6) := (Hg5.out.alloc Hg5.out.size _).grown hg6 (by rw [show (x5.alloc _).heap.size = x5.heap.size + 1 by simp]; exact hsz5) (fun k hk => (Hown5.out.lt k hk).1)
             clear hown6 hg6))
      clear hi0 hz0 hz1 hz2
      have H4' := Lib.hid (Blk.below H4.out Hg6.out H4.out.lt)
      clear H4
      have H4 := H4'
      clear H4'
      have Hf' := Lib.hid ((Hf.out.below Hg6.out).more Hg6.out.size)
      clear Hf
      have Hf := Hf'
      clear Hf'
      have Ho' := Lib.hid ((Ho.out.below Hg6.out).more Hg6.out.size)
      clear Ho
      have Ho := Ho'
      clear Ho'
      have Hm' := Lib.hid ((Hm.out.below Hg6.out).more Hg6.out.size)
      clear Hm
      have Hm := Hm'
      clear Hm'
      have Ho3' := Lib.hid (own_below Ho3.out Hg6.out)
      clear Ho3
      have Ho3 := Ho3'
      clear Ho3'
      have Bw' : Hid (Below w.heap.size w x6) := Bw.out.trans (Hg6.out.mono Bw.out.size)
      clear Bw
      have Bw := Bw'
      clear Bw'
      clear Hg5 Hg6 Hown5 hsz5
      have H6l : (m ++ [mb]).length ≤ 1000000000 := by rw [List.length_append]; simp; omega
      refine (egetE_no A6 _ c6 (m ++ [mb]) x6 (by simp) (BS.of_own Hown6.out).1 (by simpa using H6l) Hmore.out EZ HEZ.out).mono ?_
      rintro e w7 ⟨rfl, hb25⟩
      have Hb25 := Lib.hid hb25
      clear hb25
      clear Hown6
      have H4' := Lib.hid (Blk.below H4.out Hb25.out H4.out.lt)
      clear H4
      have H4 := H4'
      clear H4'
      have Hf' := Lib.hid ((Hf.out.below Hb25.out).more Hb25.out.size)
      clear Hf
      have Hf := Hf'
      clear Hf'
      have Ho' := Lib.hid ((Ho.out.below Hb25.out).more Hb25.out.size)
      clear Ho
      have Ho := Ho'
      clear Ho'
      have Hm' := Lib.hid ((Hm.out.below Hb25.out).more Hb25.out.size)
      clear Hm
      have Hm := Hm'
      clear Hm'
      have Ho3' := Lib.hid (own_below Ho3.out Hb25.out)
      clear Ho3
      have Ho3 := Ho3'
      clear Ho3'
      have Bw' : Hid (Below w.heap.size w w7) := Bw.out.trans (Hb25.out.mono Bw.out.size)
      clear Bw
      have Bw := Bw'
      clear Bw'
      clear Hb25
      obtain ⟨x26, hx26⟩ : ∃ W, W = w7.alloc (.cells (evCs none 0 0 none 0 0 ev0).toArray 39) := ⟨_, rfl⟩
      obtain ⟨y26, hy26⟩ : ∃ W, W = x26.setCells w7.heap.size 0 (evCs none 0 0 none 0 0 EZ) := ⟨_, rfl⟩
      obtain ⟨hth26, hbx26, hbe26⟩ := boxed w7 x26 y26 39 (evCs none 0 0 none 0 0 ev0) (evCs none 0 0 none 0 0 EZ) (by rw [ev_len HSZ.out, ev_len ev0_shape]) hx26 hy26
      rw [ev0_lit] at hx26
      have HX26 := Lib.hid hx26
      have HY26 := Lib.hid hy26
      have Hth26 := Lib.hid hth26
      have Hbe26 := Lib.hid hbe26
      have H15n := Lib.hid hbx26
      clear hx26 hy26 hth26 hbx26 hbe26
      have R4 := Lib.hid (blk_range H4.out)
      go_upto_region 10 with (first
        | ((with_reducible refine gateL 39 ?_); refine wpList_load_g (by rfl) 39 (.tmp 4) rfl w.heap.size 0 rfl (evCs A a.act.frame.length c A2 a.o.out.length c2 a) _ R4.out ev_under rfl (ev_sz Hs.out) ?_)
        | (rw [← HX26.out]; (with_reducible refine gateS 39 ?_); refine wpList_store_mid rfl 39 (.tmp 15) (.tmp 78) rfl w7.heap.size 0 (evCs none 0 0 none 0 0 EZ).toArray rfl rfl Hth26.out (ev_szA HSZ.out) (ev_one _ _ _ _ _ _ _) ?_))
      clear R4
      rw [← HY26.out]
      clear HX26 HY26 Hth26
      have H4' := Lib.hid (Blk.below H4.out Hbe26.out H4.out.lt)
      clear H4
      have H4 := H4'
      clear H4'
      have Hf' := Lib.hid ((Hf.out.below Hbe26.out).more Hbe26.out.size)
      clear Hf
      have Hf := Hf'
      clear Hf'
      have Ho' := Lib.hid ((Ho.out.below Hbe26.out).more Hbe26.out.size)
      clear Ho
      have Ho := Ho'
      clear Ho'
      have Hm' := Lib.hid ((Hm.out.below Hbe26.out).more Hbe26.out.size)
      clear Hm
      have Hm := Hm'
      clear Hm'
      have Ho3' := Lib.hid (own_below Ho3.out Hbe26.out)
      clear Ho3
      have Ho3 := Ho3'
      clear Ho3'
      have Bw' : Hid (Below w.heap.size w y26) := Bw.out.trans (Hbe26.out.mono Bw.out.size)
      clear Bw
      have Bw := Bw'
      clear Bw'
      have H15 := H15n
      clear H15n Hbe26
      clear H15
      clear hposI hkl hk1 hk2 HLk H6l
      clear H4
      rcases hg : evGetS l with _ | D
      · have Hg := Lib.hid hg
        clear hg
        go_wp2_with fail
        refine (egetE_no A0 _ c0 l y26 rfl Hm.out (by omega) Hg.out EZ HEZ.out).mono ?_
        rintro e v1 ⟨rfl, hb27⟩
        have Hb27 := Lib.hid hb27
        clear hb27
        have Hf' := Lib.hid ((Hf.out.below Hb27.out).more Hb27.out.size)
        clear Hf
        have Hf := Hf'
        clear Hf'
        have Ho' := Lib.hid ((Ho.out.below Hb27.out).more Hb27.out.size)
        clear Ho
        have Ho := Ho'
        clear Ho'
        have Hm' := Lib.hid ((Hm.out.below Hb27.out).more Hb27.out.size)
        clear Hm
        have Hm := Hm'
        clear Hm'
        have Ho3' := Lib.hid (own_below Ho3.out Hb27.out)
        clear Ho3
        have Ho3 := Ho3'
        clear Ho3'
        have Bw' : Hid (Below w.heap.size w v1) := Bw.out.trans (Hb27.out.mono Bw.out.size)
        clear Bw
        have Bw := Bw'
        clear Bw'
        clear Hb27
        obtain ⟨x28, hx28⟩ : ∃ W, W = v1.alloc (.cells (evCs none 0 0 none 0 0 ev0).toArray 39) := ⟨_, rfl⟩
        obtain ⟨y28, hy28⟩ : ∃ W, W = x28.setCells v1.heap.size 0 (evCs none 0 0 none 0 0 EZ) := ⟨_, rfl⟩
        obtain ⟨hth28, hbx28, hbe28⟩ := boxed v1 x28 y28 39 (evCs none 0 0 none 0 0 ev0) (evCs none 0 0 none 0 0 EZ) (by rw [ev_len HSZ.out, ev_len ev0_shape]) hx28 hy28
        rw [ev0_lit] at hx28
        have HX28 := Lib.hid hx28
        have HY28 := Lib.hid hy28
        have Hth28 := Lib.hid hth28
        have Hbe28 := Lib.hid hbe28
        have H17n := Lib.hid hbx28
        clear hx28 hy28 hth28 hbx28 hbe28
        go_upto_region 13 with (first
          | (rw [← HX28.out]; (with_reducible refine gateS 39 ?_); refine wpList_store_mid rfl 39 (.tmp 17) (.tmp 89) rfl v1.heap.size 0 (evCs none 0 0 none 0 0 EZ).toArray rfl rfl Hth28.out (ev_szA HSZ.out) (ev_one _ _ _ _ _ _ _) ?_))
        rw [← HY28.out]
        clear HX28 HY28 Hth28
        have Hf' := Lib.hid ((Hf.out.below Hbe28.out).more Hbe28.out.size)
        clear Hf
        have Hf := Hf'
        clear Hf'
        have Ho' := Lib.hid ((Ho.out.below Hbe28.out).more Hbe28.out.size)
        clear Ho
        have Ho := Ho'
        clear Ho'
        have Hm' := Lib.hid ((Hm.out.below Hbe28.out).more Hbe28.out.size)
        clear Hm
        have Hm := Hm'
        clear Hm'
        have Ho3' := Lib.hid (own_below Ho3.out Hbe28.out)
        clear Ho3
        have Ho3 := Ho3'
        clear Ho3'
        have Bw' : Hid (Below w.heap.size w y28) := Bw.out.trans (Hbe28.out.mono Bw.out.size)
        clear Bw
        have Bw := Bw'
        clear Bw'
        have H17 := H17n
        clear H17n Hbe28
        have R17 := Lib.hid (blk_range H17.out)
        go_wp2_with (first
          | ((with_reducible refine gateL 39 ?_); refine wpList_load_g (by rfl) 39 (.tmp 17) rfl v1.heap.size 0 rfl (evCs none 0 0 none 0 0 EZ) _ R17.out ev_under rfl (ev_sz HSZ.out) ?_))
        clear R17
        refine (esameZ EZ HEZ.out _ rfl y28).mono ?_
        rintro e v2 ⟨rfl, hb29⟩
        have Hb29 := Lib.hid hb29
        clear hb29
        have H17' := Lib.hid (Blk.below H17.out Hb29.out H17.out.lt)
        clear H17
        have H17 := H17'
        clear H17'
        have Hf' := Lib.hid ((Hf.out.below Hb29.out).more Hb29.out.size)
        clear Hf
        have Hf := Hf'
        clear Hf'
        have Ho' := Lib.hid ((Ho.out.below Hb29.out).more Hb29.out.size)
        clear Ho
        have Ho := Ho'
        clear Ho'
        have Hm' := Lib.hid ((Hm.out.below Hb29.out).more Hb29.out.size)
        clear Hm
        have Hm := Hm'
        clear Hm'
        have Ho3' := Lib.hid (own_below Ho3.out Hb29.out)
        clear Ho3
        have Ho3 := Ho3'
        clear Ho3'
        have Bw' : Hid (Below w.heap.size w v2) := Bw.out.trans (Hb29.out.mono Bw.out.size)
        clear Bw
        have Bw := Bw'
        clear Bw'
        clear Hb29
        go_wp2
        go_ret
        exact ⟨rfl, Bw.out⟩
      · obtain ⟨hd1, hd2, hd3, _⟩ := evGet_B hg
        have Hd := Lib.hid hd3
        have Hdr := Lib.hid hd2
        have Hdb := Lib.hid hd1.symm
        have Hd0 := Lib.hid (right_out hd2)
        have Hg := Lib.hid hg
        clear hg hd1 hd2 hd3
        go_wp2_with fail
        refine (egetE_yes A0 _ c0 l y26 rfl Hm.out (by omega) D Hg.out).mono ?_
        rintro e v1 ⟨A8, c8, rfl, hown8, hb30⟩
        have Hb30 := Lib.hid hb30
        clear hb30
        have Hv8 := Lib.hid (BS.of_own hown8).1
        clear hown8
        have Hf' := Lib.hid ((Hf.out.below Hb30.out).more Hb30.out.size)
        clear Hf
        have Hf := Hf'
        clear Hf'
        have Ho' := Lib.hid ((Ho.out.below Hb30.out).more Hb30.out.size)
        clear Ho
        have Ho := Ho'
        clear Ho'
        have Hm' := Lib.hid ((Hm.out.below Hb30.out).more Hb30.out.size)
        clear Hm
        have Hm := Hm'
        clear Hm'
        have Ho3' := Lib.hid (own_below Ho3.out Hb30.out)
        clear Ho3
        have Ho3 := Ho3'
        clear Ho3'
        have Bw' : Hid (Below w.heap.size w v1) := Bw.out.trans (Hb30.out.mono Bw.out.size)
        clear Bw
        have Bw := Bw'
        clear Bw'
        clear Hb30
        obtain ⟨x31, hx31⟩ : ∃ W, W = v1.alloc (.cells (evCs none 0 0 none 0 0 ev0).toArray 39) := ⟨_, rfl⟩
        obtain ⟨y31, hy31⟩ : ∃ W, W = x31.setCells v1.heap.size 0 (evCs A8 D.act.frame.length c8 none 0 0 D) := ⟨_, rfl⟩
        obtain ⟨hth31, hbx31, hbe31⟩ := boxed v1 x31 y31 39 (evCs none 0 0 none 0 0 ev0) (evCs A8 D.act.frame.length c8 none 0 0 D) (by rw [ev_len Hd.out, ev_len ev0_shape]) hx31 hy31
        rw [ev0_lit] at hx31
        have HX31 := Lib.hid hx31
        have HY31 := Lib.hid hy31
        have Hth31 := Lib.hid hth31
        have Hbe31 := Lib.hid hbe31
        have H17n := Lib.hid hbx31
        clear hx31 hy31 hth31 hbx31 hbe31
        go_upto_region 13 with (first
          | (rw [← HX31.out]; (with_reducible refine gateS 39 ?_); refine wpList_store_mid rfl 39 (.tmp 17) (.tmp 89) rfl v1.heap.size 0 (evCs A8 D.act.frame.length c8 none 0 0 D).toArray rfl rfl Hth31.out (ev_szA Hd.out) (ev_one _ _ _ _ _ _ _) ?_))
        rw [← HY31.out]
        clear HX31 HY31 Hth31
        have Hf' := Lib.hid ((Hf.out.below Hbe31.out).more Hbe31.out.size)
        clear Hf
        have Hf := Hf'
        clear Hf'
        have Ho' := Lib.hid ((Ho.out.below Hbe31.out).more Hbe31.out.size)
        clear Ho
        have Ho := Ho'
        clear Ho'
        have Hm' := Lib.hid ((Hm.out.below Hbe31.out).more Hbe31.out.size)
        clear Hm
        have Hm := Hm'
        clear Hm'
        have Ho3' := Lib.hid (own_below Ho3.out Hbe31.out)
        clear Ho3
        have Ho3 := Ho3'
        clear Ho3'
        have Hv8' := Lib.hid ((Hv8.out.below Hbe31.out).more Hbe31.out.size)
        clear Hv8
        have Hv8 := Hv8'
        clear Hv8'
        have Bw' : Hid (Below w.heap.size w y31) := Bw.out.trans (Hbe31.out.mono Bw.out.size)
        clear Bw
        have Bw := Bw'
        clear Bw'
        have H17 := H17n
        clear H17n Hbe31
        have R17 := Lib.hid (blk_range H17.out)
        go_wp2_with (first
          | ((with_reducible refine gateL 39 ?_); refine wpList_load_g (by rfl) 39 (.tmp 17) rfl v1.heap.size 0 rfl (evCs A8 D.act.frame.length c8 none 0 0 D) _ R17.out ev_under rfl (ev_sz Hd.out) ?_))
        clear R17
        refine (eputN_yes A8 _ c8 none 0 0 D Hd.out rfl Hd0.out Hdr.out y31 Hv8.out l Hdb.out).mono ?_
        rintro e v2 ⟨A9, c9, rfl, hown9, hb32⟩
        have Hb32 := Lib.hid hb32
        clear hb32
        have Hv9 := Lib.hid (BS.of_own hown9).1
        clear hown9
        have H17' := Lib.hid (Blk.below H17.out Hb32.out H17.out.lt)
        clear H17
        have H17 := H17'
        clear H17'
        have Hf' := Lib.hid ((Hf.out.below Hb32.out).more Hb32.out.size)
        clear Hf
        have Hf := Hf'
        clear Hf'
        have Ho' := Lib.hid ((Ho.out.below Hb32.out).more Hb32.out.size)
        clear Ho
        have Ho := Ho'
        clear Ho'
        have Hm' := Lib.hid ((Hm.out.below Hb32.out).more Hb32.out.size)
        clear Hm
        have Hm := Hm'
        clear Hm'
        have Ho3' := Lib.hid (own_below Ho3.out Hb32.out)
        clear Ho3
        have Ho3 := Ho3'
        clear Ho3'
        have Hv8' := Lib.hid ((Hv8.out.below Hb32.out).more Hb32.out.size)
        clear Hv8
        have Hv8 := Hv8'
        clear Hv8'
        have Bw' : Hid (Below w.heap.size w v2) := Bw.out.trans (Hb32.out.mono Bw.out.size)
        clear Bw
        have Bw := Bw'
        clear Bw'
        clear Hb32
        have hcv1 := run_convert_bs (P := Try.prog) 22 9 5 Try.underlying22 Try.underlying5 Try.underlying9 v2 _ A9 l Hv9.out _ c9 rfl
        have hcv2 := run_convert_bs (P := Try.prog) 22 9 5 Try.underlying22 Try.underlying5 Try.underlying9 v2 _ A0 l Hm.out _ c0 rfl
        have R17 := Lib.hid (blk_range H17.out)
        go_wp2_with (first
          | ((with_reducible refine gateL 39 ?_); refine wpList_load_g (by rfl) 39 (.tmp 17) rfl v1.heap.size 0 rfl (evCs A8 D.act.frame.length c8 none 0 0 D) _ R17.out ev_under rfl (ev_sz Hd.out) ?_))
        clear R17
        refine (erightN A8 _ c8 none 0 0 D Hd.out rfl Hd0.out v2 Hv8.out true Hdr.out).mono ?_
        rintro e v3 ⟨rfl, hb33⟩
        have Hb33 := Lib.hid hb33
        clear hb33
        have H17' := Lib.hid (Blk.below H17.out Hb33.out H17.out.lt)
        clear H17
        have H17 := H17'
        clear H17'
        have Hf' := Lib.hid ((Hf.out.below Hb33.out).more Hb33.out.size)
        clear Hf
        have Hf := Hf'
        clear Hf'
        have Ho' := Lib.hid ((Ho.out.below Hb33.out).more Hb33.out.size)
        clear Ho
        have Ho := Ho'
        clear Ho'
        have Hm' := Lib.hid ((Hm.out.below Hb33.out).more Hb33.out.size)
        clear Hm
        have Hm := Hm'
        clear Hm'
        have Ho3' := Lib.hid (own_below Ho3.out Hb33.out)
        clear Ho3
        have Ho3 := Ho3'
        clear Ho3'
        have Hv8' := Lib.hid ((Hv8.out.below Hb33.out).more Hb33.out.size)
        clear Hv8
        have Hv8 := Hv8'
        clear Hv8'
        have Hv9' := Lib.hid ((Hv9.out.below Hb33.out).more Hb33.out.size)
        clear Hv9
        have Hv9 := Hv9'
        clear Hv9'
        have Bw' : Hid (Below w.heap.size w v3) := Bw.out.trans (Hb33.out.mono Bw.out.size)
        clear Bw
        have Bw := Bw'
        clear Bw'
        clear Hb33
        clear hcv1 hcv2
        have hcv1 := run_convert_bs (P := Try.prog) 22 9 5 Try.underlying22 Try.underlying5 Try.underlying9 v3 _ A9 l Hv9.out _ c9 rfl
        have hcv2 := run_convert_bs (P := Try.prog) 22 9 5 Try.underlying22 Try.underlying5 Try.underlying9 v3 _ A0 l Hm.out _ c0 rfl
        go_wp2
        go_ret
        exact ⟨rfl, Bw.out⟩
end Go.Proofs.Ytgohhojoahlfiaa
