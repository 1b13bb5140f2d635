/- EventKeeps: what is handed in stays, and isn't kept; what is answered is new memory (printed by gen_ekeeps.py). -/
import Derived.Test.YtgohhojoahlfiaaEwN
import Derived.Test.YtgohhojoahlfiaaEputs
namespace Go.Proofs.Ytgohhojoahlfiaa
open Go.RowKit
set_option linter.unusedVariables false
set_option linter.unusedSimpArgs false

theorem oset_out (A A' : Option Addr) (n c n' c' : Nat) (o : OutP) (l : List UInt8) : (outCs A n c o).toArray.setIfInBounds 5 (.slice A' n' c') = (outCs A' n' c' { o with out := l }).toArray := by
  rw [List.setIfInBounds_toArray]; rfl
theorem u8_succ (x : UInt8) : ((x.toNat : Int) + 1) % 256 = (((x + 1 : UInt8).toNat : Nat) : Int) := by
  rw [UInt8.toNat_add]
  simp
set_option maxHeartbeats 2000000 in
set_option maxRecDepth 100000 in
theorem walk_eventKeeps (w : World) (A : Option Addr) (c : Nat) (A2 : Option Addr) (c2 : Nat) (a : EvP) (hc : a.act.frame.length ≤ c) (hb : BS w w.heap.size A a.act.frame) (hc2 : a.o.out.length ≤ c2) (hb2 : BS w w.heap.size A2 a.o.out) (hs : EvShape a) (hw : EvWf a)
    (A0 : Option Addr) (n0 c0 : Nat) (l : List UInt8) (hn0 : n0 = l.length) (hc0 : n0 ≤ c0) (hm0 : n0 ≤ maxLen) (hb0 : BS w w.heap.size A0 l) :
    Calls Try.prog 8 #[.agg (evCs A a.act.frame.length c A2 a.o.out.length c2 a).toArray, .slice A0 n0 c0] w fun e w' => e = .returned (.bool true) ∧ Below w.heap.size w w' := by
  subst hn0
  obtain ⟨i0, hi0, hz0, hz1, hz2⟩ := info_parts u8_infoO
  obtain ⟨W0, hW⟩ : ∃ W, W = w.alloc (.cells (evCs A a.act.frame.length c A2 a.o.out.length c2 a).toArray 39) := ⟨_, rfl⟩
  have H2 : Hid (Blk W0 w.heap.size 39 (evCs A a.act.frame.length c A2 a.o.out.length c2 a).toArray) := by rw [hW]; exact Blk.new w _ _ _ rfl
  have hB : Below w.heap.size w W0 := by rw [hW]; exact (Below.refl _ _).alloc (Nat.le_refl _) _
  have Bw := Lib.hid hB
  have Hf := Lib.hid hb
  have Ho := Lib.hid hb2
  have Hm := Lib.hid hb0
  have Hs := Lib.hid hs
  have HW := Lib.hid hW
  unfold maxLen at hm0
  clear hW hB hb hb2 hs hw hb0
  rcases hf1 : fewEB a with _ | _
  · go_enter Try.func8, Try.ntmps8
    go_upto_region 1 with fail
    rw [← HW.out]
    clear HW
    go_wp2_with fail
    refine (awake28 W0).mono ?_
    rintro e w1 ⟨rfl, hb1⟩
    have Hb1 := Lib.hid hb1
    clear hb1
    have H2' := Lib.hid (Blk.below H2.out Hb1.out H2.out.lt)
    clear H2
    have H2 := H2'
    clear H2'
    have Bw' : Hid (Below w.heap.size w w1) := Bw.out.trans (Hb1.out.mono Bw.out.size)
    clear Bw
    have Bw := Bw'
    clear Bw'
    clear Hb1
    have R2 := Lib.hid (blk_range H2.out)
    go_wp2_with (first
      | ((with_reducible refine gateL 39 ?_); refine wpList_load_g (by rfl) 39 (.tmp 2) rfl w.heap.size 0 rfl (evCs A a.act.frame.length c A2 a.o.out.length c2 a) _ R2.out ev_under rfl (ev_sz Hs.out) ?_))
    clear R2
    refine (fewE_is A _ c A2 _ c2 a Hs.out rfl rfl w1 false hf1).mono ?_
    rintro e w2 ⟨rfl, hb2⟩
    have Hb2 := Lib.hid hb2
    clear hb2
    have H2' := Lib.hid (Blk.below H2.out Hb2.out H2.out.lt)
    clear H2
    have H2 := H2'
    clear H2'
    have Bw' : Hid (Below w.heap.size w w2) := Bw.out.trans (Hb2.out.mono Bw.out.size)
    clear Bw
    have Bw := Bw'
    clear Bw'
    clear Hb2
    go_wp2_with fail
    refine (awake28 w2).mono ?_
    rintro e wz ⟨rfl, hb3⟩
    have Hb3 := Lib.hid hb3
    clear hb3
    have H2' := Lib.hid (Blk.below H2.out Hb3.out H2.out.lt)
    clear H2
    have H2 := H2'
    clear H2'
    have Bw' : Hid (Below w.heap.size w wz) := Bw.out.trans (Hb3.out.mono Bw.out.size)
    clear Bw
    have Bw := Bw'
    clear Bw'
    clear Hb3
    go_wp2
    go_ret
    exact ⟨rfl, Bw.out⟩
  · by_cases h2 : l.length ≤ 3000
    rotate_left
    · have hlI : (3000 : Int) < (l.length : Int) := by omega
      go_enter Try.func8, Try.ntmps8
      go_upto_region 1 with fail
      rw [← HW.out]
      clear HW
      go_wp2_with fail
      refine (awake28 W0).mono ?_
      rintro e w1 ⟨rfl, hb4⟩
      have Hb4 := Lib.hid hb4
      clear hb4
      have H2' := Lib.hid (Blk.below H2.out Hb4.out H2.out.lt)
      clear H2
      have H2 := H2'
      clear H2'
      have Bw' : Hid (Below w.heap.size w w1) := Bw.out.trans (Hb4.out.mono Bw.out.size)
      clear Bw
      have Bw := Bw'
      clear Bw'
      clear Hb4
      have R2 := Lib.hid (blk_range H2.out)
      go_wp2_with (first
        | ((with_reducible refine gateL 39 ?_); refine wpList_load_g (by rfl) 39 (.tmp 2) rfl w.heap.size 0 rfl (evCs A a.act.frame.length c A2 a.o.out.length c2 a) _ R2.out ev_under rfl (ev_sz Hs.out) ?_))
      clear R2
      refine (fewE_is A _ c A2 _ c2 a Hs.out rfl rfl w1 true hf1).mono ?_
      rintro e w2 ⟨rfl, hb5⟩
      have Hb5 := Lib.hid hb5
      clear hb5
      have H2' := Lib.hid (Blk.below H2.out Hb5.out H2.out.lt)
      clear H2
      have H2 := H2'
      clear H2'
      have Bw' : Hid (Below w.heap.size w w2) := Bw.out.trans (Hb5.out.mono Bw.out.size)
      clear Bw
      have Bw := Bw'
      clear Bw'
      clear Hb5
      go_wp2_with fail
      refine (awake28 w2).mono ?_
      rintro e wz ⟨rfl, hb6⟩
      have Hb6 := Lib.hid hb6
      clear hb6
      have H2' := Lib.hid (Blk.below H2.out Hb6.out H2.out.lt)
      clear H2
      have H2 := H2'
      clear H2'
      have Bw' : Hid (Below w.heap.size w wz) := Bw.out.trans (Hb6.out.mono Bw.out.size)
      clear Bw
      have Bw := Bw'
      clear Bw'
      clear Hb6
      go_wp2
      go_ret
      exact ⟨rfl, Bw.out⟩
    have hlI : ¬ (3000 : Int) < (l.length : Int) := by omega
    obtain ⟨qf, _, _, _, _, _⟩ := few_parts hf1
    go_enter Try.func8, Try.ntmps8
    go_upto_region 1 with fail
    rw [← HW.out]
    clear HW
    go_wp2_with fail
    refine (awake28 W0).mono ?_
    rintro e w1 ⟨rfl, hb7⟩
    have Hb7 := Lib.hid hb7
    clear hb7
    have H2' := Lib.hid (Blk.below H2.out Hb7.out H2.out.lt)
    clear H2
    have H2 := H2'
    clear H2'
    have Bw' : Hid (Below w.heap.size w w1) := Bw.out.trans (Hb7.out.mono Bw.out.size)
    clear Bw
    have Bw := Bw'
    clear Bw'
    clear Hb7
    have R2 := Lib.hid (blk_range H2.out)
    go_wp2_with (first
      | ((with_reducible refine gateL 39 ?_); refine wpList_load_g (by rfl) 39 (.tmp 2) rfl w.heap.size 0 rfl (evCs A a.act.frame.length c A2 a.o.out.length c2 a) _ R2.out ev_under rfl (ev_sz Hs.out) ?_))
    clear R2
    refine (fewE_is A _ c A2 _ c2 a Hs.out rfl rfl w1 true hf1).mono ?_
    rintro e w2 ⟨rfl, hb8⟩
    have Hb8 := Lib.hid hb8
    clear hb8
    have H2' := Lib.hid (Blk.below H2.out Hb8.out H2.out.lt)
    clear H2
    have H2 := H2'
    clear H2'
    have Bw' : Hid (Below w.heap.size w w2) := Bw.out.trans (Hb8.out.mono Bw.out.size)
    clear Bw
    have Bw := Bw'
    clear Bw'
    clear Hb8
    have RA := Lib.hid (ce_act H2.out Hs.out)
    have hge : w.heap.size < w2.heap.size := H2.out.lt
    obtain ⟨x9, hx9⟩ : ∃ W, W = w2.alloc (.cells (actCs none 0 0 act0).toArray 33) := ⟨_, rfl⟩
    obtain ⟨y9, hy9⟩ : ∃ W, W = x9.setCells w2.heap.size 0 (actCs A a.act.frame.length c a.act) := ⟨_, rfl⟩
    obtain ⟨hth9, hbx9, hbe9⟩ := boxed w2 x9 y9 33 (actCs none 0 0 act0) (actCs A a.act.frame.length c a.act) (by rw [act_len Hs.out.act, act_len act0_shape]) hx9 hy9
    rw [act0_lit] at hx9
    have HX9 := Lib.hid hx9
    have HY9 := Lib.hid hy9
    have Hth9 := Lib.hid hth9
    have Hbe9 := Lib.hid hbe9
    have H5n := Lib.hid hbx9
    clear hx9 hy9 hth9 hbx9 hbe9
    have R2 := Lib.hid (blk_range H2.out)
    go_upto_region 4 with (first
      | ((with_reducible refine gateL 39 ?_); refine wpList_load_g (by rfl) 39 (.tmp 2) rfl w.heap.size 0 rfl (evCs A a.act.frame.length c A2 a.o.out.length c2 a) _ R2.out ev_under rfl (ev_sz Hs.out) ?_)
      | (rw [← HX9.out]; (with_reducible refine gateS 33 ?_); refine wpList_store_mid rfl 33 (.tmp 5) (.tmp 30) rfl w2.heap.size 0 (actCs A a.act.frame.length c a.act).toArray rfl rfl Hth9.out (act_sz Hs.out.act) (act_one _ _ _ _) ?_)
      | ((with_reducible refine gateL 33 ?_); refine wpList_load_g (by rfl) 33 (.tmp 29) rfl w.heap.size 0 rfl (actCs A a.act.frame.length c a.act) _ RA.out Try.underlying33 rfl (act_sz Hs.out.act) ?_))
    clear R2
    rw [← HY9.out]
    clear HX9 HY9 Hth9
    have H2' := Lib.hid (Blk.below H2.out Hbe9.out H2.out.lt)
    clear H2
    have H2 := H2'
    clear H2'
    have Bw' : Hid (Below w.heap.size w y9) := Bw.out.trans (Hbe9.out.mono Bw.out.size)
    clear Bw
    have Bw := Bw'
    clear Bw'
    have H5 := H5n
    clear H5n Hbe9
    clear RA
    obtain ⟨g5, hg5⟩ : ∃ g, g = w2.heap.size := ⟨_, rfl⟩
    rw [← hg5] at H5 ⊢
    have h25 : w.heap.size < g5 := by omega
    clear hg5 hge
    have hge1 : w.heap.size ≤ y9.heap.size := Bw.out.size
    have a0 := fun o => (Blk.alloc H2.out o).cell 1
    have a0' : ∀ o, (y9.alloc o).cell? ⟨w.heap.size, 1, none⟩ = some (.slice A a.act.frame.length c) := fun o => ce_frame (Blk.alloc H2.out o)
    clear a0
    go_upto_region 5 with (first
        | ((with_reducible refine gateB .append ?_); refine wpList_append_bytes _ rfl _ _ 22 rfl y9.heap.size 5 i0 (.int .u8 0) 1 Try.underlying22 hi0 hz0 hz1 hz2 rfl (.slice (some ⟨y9.heap.size, 0, none⟩) 0 0) [] rfl (own_none y9 _ _ (Nat.le_refl _) _ rfl) y9.heap.size A _ c a.act.frame rfl rfl (((Hf.out.below Bw.out).more Bw.out.size).below ((Below.refl _ _).alloc (Nat.le_refl _) _)) (by simp; unfold maxLen; omega) (by simp; omega) (by simp) ?_; intro A3 c3 w5 hown hg _; have Hbw5 : Hid (Below y9.heap.size y9 w5) := ((Below.refl _ _).alloc (Nat.le_refl _) _).grown hg (by simp) (fun k hk => by simp [Value.ownBlock] at hk; omega); have R3 : Hid (w5.ownsRow y9.heap.size 5 1 (.slice A3 (a.act.frame).length c3) (a.act.frame).length (bcells (a.act.frame))) := (by show World.ownsRow _ _ _ _ _ _ _; simpa using hown); clear hown hg; have hx5 := Blk.below H5.out Hbw5.out H5.out.lt; have e0 := ca_frame hx5; have ef := hx5.frozen 1; clear hx5))
    clear a0'
    have H2' := Lib.hid (Blk.below H2.out Hbw5.out H2.out.lt)
    clear H2
    have H2 := H2'
    clear H2'
    have H5' := Lib.hid (Blk.below H5.out Hbw5.out H5.out.lt)
    clear H5
    have H5 := H5'
    clear H5'
    have Bw' : Hid (Below w.heap.size w w5) := Bw.out.trans (Hbw5.out.mono Bw.out.size)
    clear Bw
    have Bw := Bw'
    clear Bw'
    clear Hbw5
    obtain ⟨x10, hx10⟩ : ∃ W, W = w5.setCell ⟨g5, 1, none⟩ (.slice A3 a.act.frame.length c3) := ⟨_, rfl⟩
    rw [← hx10]
    have hgr : w5.grownBy x10 (some g5) := by rw [hx10]; exact grownSet w5 ⟨g5, 1, none⟩ _
    have hnew : Blk x10 g5 33 (actCs A3 a.act.frame.length c3 a.act).toArray := by
      rw [hx10]
      have := Blk.set_ H5.out 1 (.slice A3 a.act.frame.length c3)
      rw [aset_frame A3 a.act.frame.length c3 a.act.frame] at this
      exact this
    have H2' := Lib.hid (Blk.grown H2.out hgr (fun e => by injection e with e; omega))
    have R3' := Lib.hid (R3.out.kept hgr (own_blk_ne R3.out H5.out (by decide)))
    have Bw' : Hid (Below w.heap.size w x10) := Lib.hid (Bw.out.grown hgr Bw.out.size (fun k hk => by injection hk with hk; omega))
    clear H5 Bw H2 R3
    have H5 := Lib.hid hnew
    have Bw := Bw'
    have H2 := H2'
    have R3 := R3'
    clear hnew hgr Bw' hx10 H2' R3'
    clear e0 ef
    have RO := Lib.hid (ce_out H2.out Hs.out)
    have hge : g5 < x10.heap.size := H5.out.lt
    obtain ⟨x11, hx11⟩ : ∃ W, W = x10.alloc (.cells (outCs none 0 0 out0).toArray 36) := ⟨_, rfl⟩
    obtain ⟨y11, hy11⟩ : ∃ W, W = x11.setCells x10.heap.size 0 (outCs A2 a.o.out.length c2 a.o) := ⟨_, rfl⟩
    obtain ⟨hth11, hbx11, hbe11⟩ := boxed x10 x11 y11 36 (outCs none 0 0 out0) (outCs A2 a.o.out.length c2 a.o) rfl hx11 hy11
    rw [out0_lit] at hx11
    have HX11 := Lib.hid hx11
    have HY11 := Lib.hid hy11
    have Hth11 := Lib.hid hth11
    have Hbe11 := Lib.hid hbe11
    have H6n := Lib.hid hbx11
    clear hx11 hy11 hth11 hbx11 hbe11
    have R2 := Lib.hid (blk_range H2.out)
    have R5 := Lib.hid (blk_range H5.out)
    go_upto_region 6 with (first
      | ((with_reducible refine gateL 39 ?_); refine wpList_load_g (by rfl) 39 (.tmp 2) rfl w.heap.size 0 rfl (evCs A a.act.frame.length c A2 a.o.out.length c2 a) _ R2.out ev_under rfl (ev_sz Hs.out) ?_)
      | ((with_reducible refine gateL 33 ?_); refine wpList_load_g (by rfl) 33 (.tmp 5) rfl g5 0 rfl (actCs A3 a.act.frame.length c3 a.act) _ R5.out act_under rfl (act_sz Hs.out.act) ?_)
      | (rw [← HX11.out]; (with_reducible refine gateS 36 ?_); refine wpList_store_mid rfl 36 (.tmp 6) (.tmp 38) rfl x10.heap.size 0 (outCs A2 a.o.out.length c2 a.o).toArray rfl rfl Hth11.out out_sz (out_one _ _ _ _) ?_)
      | ((with_reducible refine gateL 36 ?_); refine wpList_load_g (by rfl) 36 (.tmp 37) rfl w.heap.size 34 rfl (outCs A2 a.o.out.length c2 a.o) _ RO.out Try.underlying36 rfl out_sz ?_))
    clear R2
    clear R5
    rw [← HY11.out]
    clear HX11 HY11 Hth11
    have H2' := Lib.hid (Blk.below H2.out Hbe11.out H2.out.lt)
    clear H2
    have H2 := H2'
    clear H2'
    have H5' := Lib.hid (Blk.below H5.out Hbe11.out H5.out.lt)
    clear H5
    have H5 := H5'
    clear H5'
    have R3' := Lib.hid (own_below R3.out Hbe11.out)
    clear R3
    have R3 := R3'
    clear R3'
    have Bw' : Hid (Below w.heap.size w y11) := Bw.out.trans (Hbe11.out.mono Bw.out.size)
    clear Bw
    have Bw := Bw'
    clear Bw'
    have H6 := H6n
    clear H6n Hbe11
    clear RO
    obtain ⟨g6, hg6⟩ : ∃ g, g = x10.heap.size := ⟨_, rfl⟩
    rw [← hg6] at H6 ⊢
    have h56 : g5 < g6 := by omega
    clear hg6 hge
    have hge2 : w.heap.size ≤ y11.heap.size := Bw.out.size
    go_upto_region 7 with (first
        | ((with_reducible refine gateB .append ?_); refine wpList_append_bytes _ rfl _ _ 22 rfl y11.heap.size 5 i0 (.int .u8 0) 1 Try.underlying22 hi0 hz0 hz1 hz2 rfl (.slice (some ⟨y11.heap.size, 0, none⟩) 0 0) [] rfl (own_none y11 _ _ (Nat.le_refl _) _ rfl) y11.heap.size A0 _ c0 l rfl rfl (((Hm.out.below Bw.out).more Bw.out.size).below ((Below.refl _ _).alloc (Nat.le_refl _) _)) (by simp; unfold maxLen; omega) (by simp; omega) (by simp) ?_; intro A4 c4 w6 hown hg _; have Hbw6 : Hid (Below y11.heap.size y11 w6) := ((Below.refl _ _).alloc (Nat.le_refl _) _).grown hg (by simp) (fun k hk => by simp [Value.ownBlock] at hk; omega); have R4 : Hid (w6.ownsRow y11.heap.size 5 1 (.slice A4 (l).length c4) (l).length (bcells (l))) := (by show World.ownsRow _ _ _ _ _ _ _; simpa using hown); clear hown hg; have hx6 := Blk.below H6.out Hbw6.out H6.out.lt; have e0 := co_out hx6; have ef := hx6.frozen 5; clear hx6))
    have H2' := Lib.hid (Blk.below H2.out Hbw6.out H2.out.lt)
    clear H2
    have H2 := H2'
    clear H2'
    have H5' := Lib.hid (Blk.below H5.out Hbw6.out H5.out.lt)
    clear H5
    have H5 := H5'
    clear H5'
    have H6' := Lib.hid (Blk.below H6.out Hbw6.out H6.out.lt)
    clear H6
    have H6 := H6'
    clear H6'
    have R3' := Lib.hid (own_below R3.out Hbw6.out)
    clear R3
    have R3 := R3'
    clear R3'
    have Bw' : Hid (Below w.heap.size w w6) := Bw.out.trans (Hbw6.out.mono Bw.out.size)
    clear Bw
    have Bw := Bw'
    clear Bw'
    clear Hbw6
    obtain ⟨o', ho'⟩ : ∃ o, o = { a.o with out := l } := ⟨_, rfl⟩
    have HO' := Lib.hid ho'
    have HOl : Hid (o'.out = l) := by show _ = _; rw [ho']
    clear ho'
    obtain ⟨x12, hx12⟩ : ∃ W, W = w6.setCell ⟨g6, 5, none⟩ (.slice A4 l.length c4) := ⟨_, rfl⟩
    rw [← hx12]
    have hgr : w6.grownBy x12 (some g6) := by rw [hx12]; exact grownSet w6 ⟨g6, 5, none⟩ _
    have hnew : Blk x12 g6 36 (outCs A4 l.length c4 o').toArray := by
      rw [hx12]
      have := Blk.set_ H6.out 5 (.slice A4 l.length c4)
      rw [oset_out A2 A4 _ c2 _ c4 a.o l, ← HO'.out] at this
      exact this
    have H2' := Lib.hid (Blk.grown H2.out hgr (fun e => by injection e with e; omega))
    have H5' := Lib.hid (Blk.grown H5.out hgr (fun e => by injection e with e; omega))
    have R3' := Lib.hid (R3.out.kept hgr (own_blk_ne R3.out H6.out (by decide)))
    have R4' := Lib.hid (R4.out.kept hgr (own_blk_ne R4.out H6.out (by decide)))
    have Bw' : Hid (Below w.heap.size w x12) := Lib.hid (Bw.out.grown hgr Bw.out.size (fun k hk => by injection hk with hk; omega))
    clear H6 Bw H2 H5 R3 R4
    have H6 := Lib.hid hnew
    have Bw := Bw'
    have H2 := H2'
    have H5 := H5'
    have R3 := R3'
    have R4 := R4'
    clear hnew hgr Bw' hx12 H2' H5' R3' R4'
    clear e0 ef
    obtain ⟨X, hX⟩ : ∃ E, E = evOf a.act o' := ⟨_, rfl⟩
    have HX := Lib.hid hX
    have HXs : Hid (EvShape X) := by rw [hX]; exact ⟨Hs.out.act, evOf_sum a.act o'⟩
    have HXf : Hid (X.act.frame = a.act.frame ∧ X.o.out = []) := by rw [hX]; exact ⟨rfl, rfl⟩
    clear hX
    have R2 := Lib.hid (blk_range H2.out)
    have R5 := Lib.hid (blk_range H5.out)
    have R6 := Lib.hid (blk_range H6.out)
    go_wp2_with (first
      | ((with_reducible refine gateL 39 ?_); refine wpList_load_g (by rfl) 39 (.tmp 2) rfl w.heap.size 0 rfl (evCs A a.act.frame.length c A2 a.o.out.length c2 a) _ R2.out ev_under rfl (ev_sz Hs.out) ?_)
      | ((with_reducible refine gateL 33 ?_); refine wpList_load_g (by rfl) 33 (.tmp 5) rfl g5 0 rfl (actCs A3 a.act.frame.length c3 a.act) _ R5.out act_under rfl (act_sz Hs.out.act) ?_)
      | ((with_reducible refine gateL 36 ?_); refine wpList_load_g (by rfl) 36 (.tmp 6) rfl g6 0 rfl (outCs A4 l.length c4 o') _ R6.out out_under rfl out_sz ?_))
    clear R2
    clear R5
    clear R6
    have hlt3 : ∀ k, (Value.slice A3 a.act.frame.length c3).ownBlock = some k → k < x12.heap.size := fun k hk => (R3.out.lt k hk).2
    have Hlt3 := Lib.hid hlt3
    clear hlt3
    refine (ofE A3 _ c3 A4 _ c4 a.act o' Hs.out.act x12 rfl (by rw [HOl.out]) (BS.of_own R3.out).1 (by rw [HOl.out]; exact (BS.of_own R4.out).1) (by omega) (by omega) X HX.out).mono ?_
    rintro e w7 ⟨A6, c6, rfl, hown6, hb13⟩
    have Hb13 := Lib.hid hb13
    clear hb13
    have R6 := Lib.hid hown6
    have hne6 := own_ne_row hown6 Hlt3.out
    have Hne6 := Lib.hid hne6
    clear hown6 hne6 Hlt3
    have H2' := Lib.hid (Blk.below H2.out Hb13.out H2.out.lt)
    clear H2
    have H2 := H2'
    clear H2'
    have H5' := Lib.hid (Blk.below H5.out Hb13.out H5.out.lt)
    clear H5
    have H5 := H5'
    clear H5'
    have H6' := Lib.hid (Blk.below H6.out Hb13.out H6.out.lt)
    clear H6
    have H6 := H6'
    clear H6'
    have R3' := Lib.hid (own_below R3.out Hb13.out)
    clear R3
    have R3 := R3'
    clear R3'
    have R4' := Lib.hid (own_below R4.out Hb13.out)
    clear R4
    have R4 := R4'
    clear R4'
    have Bw' : Hid (Below w.heap.size w w7) := Bw.out.trans (Hb13.out.mono Bw.out.size)
    clear Bw
    have Bw := Bw'
    clear Bw'
    clear Hb13
    obtain ⟨x14, hx14⟩ : ∃ W, W = w7.alloc (.cells (evCs none 0 0 none 0 0 ev0).toArray 39) := ⟨_, rfl⟩
    obtain ⟨y14, hy14⟩ : ∃ W, W = x14.setCells w7.heap.size 0 (evCs A6 a.act.frame.length c6 none 0 0 X) := ⟨_, rfl⟩
    obtain ⟨hth14, hbx14, hbe14⟩ := boxed w7 x14 y14 39 (evCs none 0 0 none 0 0 ev0) (evCs A6 a.act.frame.length c6 none 0 0 X) (by rw [ev_len HXs.out, ev_len ev0_shape]) hx14 hy14
    rw [ev0_lit] at hx14
    have HX14 := Lib.hid hx14
    have HY14 := Lib.hid hy14
    have Hth14 := Lib.hid hth14
    have Hbe14 := Lib.hid hbe14
    have H7n := Lib.hid hbx14
    clear hx14 hy14 hth14 hbx14 hbe14
    have R2 := Lib.hid (blk_range H2.out)
    have R5 := Lib.hid (blk_range H5.out)
    have R6 := Lib.hid (blk_range H6.out)
    go_upto_region 8 with (first
      | ((with_reducible refine gateL 39 ?_); refine wpList_load_g (by rfl) 39 (.tmp 2) rfl w.heap.size 0 rfl (evCs A a.act.frame.length c A2 a.o.out.length c2 a) _ R2.out ev_under rfl (ev_sz Hs.out) ?_)
      | ((with_reducible refine gateL 33 ?_); refine wpList_load_g (by rfl) 33 (.tmp 5) rfl g5 0 rfl (actCs A3 a.act.frame.length c3 a.act) _ R5.out act_under rfl (act_sz Hs.out.act) ?_)
      | ((with_reducible refine gateL 36 ?_); refine wpList_load_g (by rfl) 36 (.tmp 6) rfl g6 0 rfl (outCs A4 l.length c4 o') _ R6.out out_under rfl out_sz ?_)
      | (rw [← HX14.out]; (with_reducible refine gateS 39 ?_); refine wpList_store_mid rfl 39 (.tmp 7) (.tmp 45) rfl w7.heap.size 0 (evCs A6 a.act.frame.length c6 none 0 0 X).toArray rfl rfl Hth14.out (ev_szA HXs.out) (ev_one _ _ _ _ _ _ _) ?_))
    clear R2
    clear R5
    clear R6
    rw [← HY14.out]
    clear HX14 HY14 Hth14
    have H2' := Lib.hid (Blk.below H2.out Hbe14.out H2.out.lt)
    clear H2
    have H2 := H2'
    clear H2'
    have H5' := Lib.hid (Blk.below H5.out Hbe14.out H5.out.lt)
    clear H5
    have H5 := H5'
    clear H5'
    have H6' := Lib.hid (Blk.below H6.out Hbe14.out H6.out.lt)
    clear H6
    have H6 := H6'
    clear H6'
    have R3' := Lib.hid (own_below R3.out Hbe14.out)
    clear R3
    have R3 := R3'
    clear R3'
    have R4' := Lib.hid (own_below R4.out Hbe14.out)
    clear R4
    have R4 := R4'
    clear R4'
    have R6' := Lib.hid (own_below R6.out Hbe14.out)
    clear R6
    have R6 := R6'
    clear R6'
    have Bw' : Hid (Below w.heap.size w y14) := Bw.out.trans (Hbe14.out.mono Bw.out.size)
    clear Bw
    have Bw := Bw'
    clear Bw'
    have H7 := H7n
    clear H7n Hbe14
    have k1 := ca_frame H5.out
    have k2 := ce_frame H2.out
    have k3 := co_out H6.out
    have hcv1 := run_convert_bs (P := Try.prog) 22 9 5 Try.underlying22 Try.underlying5 Try.underlying9 y14 _ A3 a.act.frame (BS.of_own R3.out).1 _ c3 rfl
    have hcv2 := run_convert_bs (P := Try.prog) 22 9 5 Try.underlying22 Try.underlying5 Try.underlying9 y14 _ A a.act.frame ((Hf.out.below Bw.out).more Bw.out.size) _ c rfl
    have hcv3 := run_convert_bs (P := Try.prog) 22 9 5 Try.underlying22 Try.underlying5 Try.underlying9 y14 _ A4 l (BS.of_own R4.out).1 _ c4 rfl
    have hcv4 := run_convert_bs (P := Try.prog) 22 9 5 Try.underlying22 Try.underlying5 Try.underlying9 y14 _ A0 l ((Hm.out.below Bw.out).more Bw.out.size) _ c0 rfl
    go_upto_region 10 with fail
    clear hcv1 hcv2 hcv3 hcv4 k1 k2 k3
    obtain ⟨zz, hzz⟩ : ∃ W, W = y14 := ⟨_, rfl⟩
    rw [← hzz] at H2 H5 H6 H7 R3 R4 R6 Bw ⊢
    clear hzz
    have hB3 : w.heap.size ≤ zz.heap.size := Bw.out.size
    go_upto_region 11 with fail
    go_wp2_with fail
    go_loopw [8] (fun i wr => ∃ (k : Nat) (l' : List UInt8), k ≤ a.act.frame.length ∧ i = .int .i64 (k : Int) ∧ l'.length = a.act.frame.length ∧ Hid (wr.ownsRow w.heap.size 5 1 (.slice A3 a.act.frame.length c3) a.act.frame.length (bcells l')) ∧ Hid (zz.grownBy wr (Value.slice A3 a.act.frame.length c3).ownBlock)) (fun i _ => a.act.frame.length - (intOf i).toNat)
    case atStart => exact ⟨0, a.act.frame, Nat.zero_le _, rfl, rfl, own_base' R3.out hge1, World.grownBy.refl _ _⟩
    case round =>
      obtain ⟨k, l', hk, rfl, hll, hO, hgr⟩ := hrel
      rename World => wr
      have h5' := Blk.grown H5.out hgr.out (by
        rcases own_blk_ne R3.out H5.out (by decide) with h | h
        · rw [h]; simp
        · exact fun e => h e.symm)
      have k1 := ca_frame h5'
      have H5' := Lib.hid h5'
      clear h5'
      by_cases hlt : k < a.act.frame.length
      · have hltI : (k : Int) < (a.act.frame.length : Int) := by omega
        have hk0 : (0 : Int) ≤ (k : Int) := by omega
        have hO1 := hO.out
        rw [← hll] at hO1
        obtain ⟨x, hx⟩ : ∃ x, x = l'[k]'(by omega) := ⟨_, rfl⟩
        obtain ⟨gm, hAm, hbg, hgl, hcell, hfz, hO'⟩ := own_put8 hO1 (k := k) (by omega) (x + 1)
        rw [List.length_set, hll] at hO'
        have hgr' : zz.grownBy (wr.setCell ⟨gm, k, none⟩ (.int .u8 ((x + 1 : UInt8).toNat : Int))).drew (some gm) := by
          have := hgr.out
          rw [hAm] at this
          exact (this.trans (grownSet wr ⟨gm, k, none⟩ _)).trans (grownDrew _ _)
        have hus := u8_succ x
        rw [← hx] at hcell
        have HO9 := Lib.hid hO'
        have Hgr' := Lib.hid hgr'
        have Hus := Lib.hid hus
        clear hO' hgr' hO hgr hO1 hus hx
        subst hAm
        go_upto_region 13 with fail
        clear k1
        have hg5m : gm ≠ g5 := fun e => by
          rcases own_blk_ne R3.out H5.out (by decide) with h | h
          · cases h
          · exact h (by rw [← e]; rfl)
        refine wp_region_noPanic ?_
        refine wp_region_held_drew (S := fun w' => w'.cell? ⟨g5, 1, none⟩ = some (.slice (some ⟨gm, 0, none⟩) a.act.frame.length c3)) (by kernel_rfl) (ca_frame H5'.out) (fun hHeld => ?_)
        refine wpAnyH_take (i := 0) (v := ?_) rfl (by kernel_rfl) (by kernel_rfl) (by kernel_rfl) (fun _ _ _ h => h) (Or.inl ⟨by rfl, ?_⟩) hHeld ?_
        rotate_left
        · intro w' hSw
          skip
          go_simp
          try with_reducible rfl
        try (simp only [Act.put, List.getElem_toArray, List.getElem_cons_succ, List.getElem_cons_zero, List.setIfInBounds_toArray, List.set_cons_zero, List.set_cons_succ])
        refine wpAnyH_take (i := 1) (v := ?_) rfl (by kernel_rfl) (by kernel_rfl) (by kernel_rfl) (fun _ _ _ h => h) (Or.inl ⟨by rfl, ?_⟩) hHeld ?_
        rotate_left
        · intro w' hSw
          have e9 := hSw
          go_simp
          try with_reducible rfl
        try (simp only [Act.put, List.getElem_toArray, List.getElem_cons_succ, List.getElem_cons_zero, List.setIfInBounds_toArray, List.set_cons_zero, List.set_cons_succ])
        refine wpAnyH_take (i := 2) (v := ?_) rfl (by kernel_rfl) (by kernel_rfl) (by kernel_rfl) (fun _ _ _ h => h) (Or.inl ⟨by rfl, ?_⟩) hHeld ?_
        rotate_left
        · intro w' hSw
          skip
          go_simp
          try with_reducible rfl
        try (simp only [Act.put, List.getElem_toArray, List.getElem_cons_succ, List.getElem_cons_zero, List.setIfInBounds_toArray, List.set_cons_zero, List.set_cons_succ])
        refine wpAnyH_take (i := 3) (v := ?_) rfl (by kernel_rfl) (by kernel_rfl) (by kernel_rfl) (fun _ _ _ h => h) (Or.inl ⟨by rfl, ?_⟩) hHeld ?_
        rotate_left
        · intro w' hSw
          skip
          go_simp
          try with_reducible rfl
        try (simp only [Act.put, List.getElem_toArray, List.getElem_cons_succ, List.getElem_cons_zero, List.setIfInBounds_toArray, List.set_cons_zero, List.set_cons_succ])
        refine wpAnyH_take (i := 4) (v := ?_) rfl (by kernel_rfl) (by kernel_rfl) (by kernel_rfl) (fun _ _ _ h => h) (Or.inl ⟨by rfl, ?_⟩) hHeld ?_
        rotate_left
        · intro w' hSw
          have e9 := hSw
          go_simp
          try with_reducible rfl
        try (simp only [Act.put, List.getElem_toArray, List.getElem_cons_succ, List.getElem_cons_zero, List.setIfInBounds_toArray, List.set_cons_zero, List.set_cons_succ])
        refine wpAnyH_take (i := 5) (v := ?_) rfl (by kernel_rfl) (by kernel_rfl) (by kernel_rfl) (fun _ _ _ h => h) (Or.inl ⟨by rfl, ?_⟩) hHeld ?_
        rotate_left
        · intro w' hSw
          skip
          go_simp
          try with_reducible rfl
        try (simp only [Act.put, List.getElem_toArray, List.getElem_cons_succ, List.getElem_cons_zero, List.setIfInBounds_toArray, List.set_cons_zero, List.set_cons_succ])
        refine wpAnyH_take (i := 6) (v := ?_) rfl (by kernel_rfl) (by kernel_rfl) (by kernel_rfl) (fun _ _ _ h => h) (Or.inl ⟨by rfl, ?_⟩) hHeld ?_
        rotate_left
        · intro w' hSw
          skip
          go_simp
          try with_reducible rfl
        try (simp only [Act.put, List.getElem_toArray, List.getElem_cons_succ, List.getElem_cons_zero, List.setIfInBounds_toArray, List.set_cons_zero, List.set_cons_succ])
        refine wpAnyH_ready (rs := [7]) (by kernel_rfl) (by simp) ?_
        refine AllReadyH.cons (i := 7) rfl (fun K hK => ?_) AllReadyH.nil
        go_simp
        have e76 : wr.drew.cell? ⟨gm, k, none⟩ = some (.int .u8 (x.toNat : Int)) := hcell
        have hBehind := hHeld
        go_wp2_with fail
        refine hK.out _ _ hBehind (fun hHeld => ?_)
        clear hK K hBehind
        try (simp only [Act.put, List.getElem_toArray, List.getElem_cons_succ, List.getElem_cons_zero, List.setIfInBounds_toArray, List.set_cons_zero, List.set_cons_succ])
        refine wpAnyH_take (i := 8) (v := ?_) rfl (by kernel_rfl) (by kernel_rfl) (by kernel_rfl) (fun _ _ _ h => h) (Or.inl ⟨by rfl, ?_⟩) hHeld ?_
        rotate_left
        · intro w' hSw
          have e9 := Hus.out
          go_simp
          try with_reducible rfl
        try (simp only [Act.put, List.getElem_toArray, List.getElem_cons_succ, List.getElem_cons_zero, List.setIfInBounds_toArray, List.set_cons_zero, List.set_cons_succ])
        refine wpAnyH_take (i := 9) (v := ?_) rfl (by kernel_rfl) (by kernel_rfl) (by kernel_rfl) (fun _ _ _ h => h) (Or.inl ⟨by rfl, ?_⟩) hHeld ?_
        rotate_left
        · intro w' hSw
          skip
          go_simp
          try with_reducible rfl
        try (simp only [Act.put, List.getElem_toArray, List.getElem_cons_succ, List.getElem_cons_zero, List.setIfInBounds_toArray, List.set_cons_zero, List.set_cons_succ])
        refine wpAnyH_ready (rs := [10]) (by kernel_rfl) (by simp) ?_
        refine AllReadyH.cons (i := 10) rfl (fun K hK => ?_) AllReadyH.nil
        have hcell' : wr.drew.cell? ⟨gm, k, none⟩ = some (.int .u8 (x.toNat : Int)) := hcell
        have hfz' : wr.drew.frozen? ⟨gm, k, none⟩ = false := hfz
        go_simp
        have hBehind : (wr.setCell ⟨gm, k, none⟩ (.int .u8 ((x + 1 : UInt8).toNat : Int))).drew.cell? ⟨g5, 1, none⟩ = some (.slice (some ⟨gm, 0, none⟩) a.act.frame.length c3) := by
          refine Eq.trans (World.cell?_setCell_other _ _ _ _ (fun e => ?_)) (ca_frame H5'.out)
          injection e with e _
          exact hg5m e
        go_wp2_with fail
        refine hK.out _ _ hBehind (fun hHeld => ?_)
        clear hK K hBehind
        try (simp only [Act.put, List.getElem_toArray, List.getElem_cons_succ, List.getElem_cons_zero, List.setIfInBounds_toArray, List.set_cons_zero, List.set_cons_succ])
        refine wpAnyH_done (by kernel_rfl) ?_ _
        refine NoPanic.normal ?_
        go_wp2_with fail
        go_roundw
        case rel => exact ⟨k + 1, l'.set k (x + 1), by omega, by go_num, by rw [List.length_set]; exact hll, HO9, Hgr'⟩
        case measure => simp [intOf]; omega
      · have hltI : ¬ (k : Int) < (a.act.frame.length : Int) := by omega
        have hrow : ∀ k, (Value.slice A3 a.act.frame.length c3).ownBlock = some k → w.heap.size ≤ k := fun k hk => by have := (R3.out.lt k hk).1; omega
        have h2' := Blk.grown H2.out hgr.out (by
          rcases own_blk_ne R3.out H2.out (by decide) with h | h
          · rw [h]; simp
          · exact fun e => h e.symm)
        have h7' := Blk.grown H7.out hgr.out (by
          rcases own_blk_ne R3.out H7.out (by decide) with h | h
          · rw [h]; simp
          · exact fun e => h e.symm)
        have r6 := R6.out.kept hgr.out Hne6.out
        have bw := Bw.out.grown hgr.out Bw.out.size hrow
        clear H2 H5 H6 H7 R3 R4 R6 Bw hO hgr hrow Hne6
        have H2 := Lib.hid h2'
        have H7 := Lib.hid h7'
        have R6 := Lib.hid (BS.of_own r6).1
        have Bw : Hid (Below w.heap.size w wr) := Lib.hid bw
        clear h2' h7' r6 bw
        go_upto_region 14 with fail
        clear k1 H5'
        have H7lt : Hid (w7.heap.size < wr.heap.size) := H7.out.lt
        have R6B0 : Hid (BS wr wr.heap.size A6 a.act.frame) := R6
        have RO := Lib.hid (ce_out H2.out Hs.out)
        have hge : w.heap.size < wr.heap.size := H2.out.lt
        obtain ⟨x15, hx15⟩ : ∃ W, W = wr.alloc (.cells (outCs none 0 0 out0).toArray 36) := ⟨_, rfl⟩
        obtain ⟨y15, hy15⟩ : ∃ W, W = x15.setCells wr.heap.size 0 (outCs A2 a.o.out.length c2 a.o) := ⟨_, rfl⟩
        obtain ⟨hth15, hbx15, hbe15⟩ := boxed wr x15 y15 36 (outCs none 0 0 out0) (outCs A2 a.o.out.length c2 a.o) rfl hx15 hy15
        rw [out0_lit] at hx15
        have HX15 := Lib.hid hx15
        have HY15 := Lib.hid hy15
        have Hth15 := Lib.hid hth15
        have Hbe15 := Lib.hid hbe15
        have Hbx9 := Hbe15
        have H9n := Lib.hid hbx15
        clear hx15 hy15 hth15 hbx15 hbe15
        have R2 := Lib.hid (blk_range H2.out)
        have R7 := Lib.hid (blk_range H7.out)
        go_upto_region 15 with (first
          | ((with_reducible refine gateL 39 ?_); refine wpList_load_g (by rfl) 39 (.tmp 2) rfl w.heap.size 0 rfl (evCs A a.act.frame.length c A2 a.o.out.length c2 a) _ R2.out ev_under rfl (ev_sz Hs.out) ?_)
          | ((with_reducible refine gateL 39 ?_); refine wpList_load_g (by rfl) 39 (.tmp 7) rfl w7.heap.size 0 rfl (evCs A6 a.act.frame.length c6 none 0 0 X) _ R7.out ev_under rfl (ev_sz HXs.out) ?_)
          | (rw [← HX15.out]; (with_reducible refine gateS 36 ?_); refine wpList_store_mid rfl 36 (.tmp 9) (.tmp 80) rfl wr.heap.size 0 (outCs A2 a.o.out.length c2 a.o).toArray rfl rfl Hth15.out out_sz (out_one _ _ _ _) ?_)
          | ((with_reducible refine gateL 36 ?_); refine wpList_load_g (by rfl) 36 (.tmp 79) rfl w.heap.size 34 rfl (outCs A2 a.o.out.length c2 a.o) _ RO.out Try.underlying36 rfl out_sz ?_))
        clear R2
        clear R7
        rw [← HY15.out]
        clear HX15 HY15 Hth15
        have H2' := Lib.hid (Blk.below H2.out Hbe15.out H2.out.lt)
        clear H2
        have H2 := H2'
        clear H2'
        have H7' := Lib.hid (Blk.below H7.out Hbe15.out H7.out.lt)
        clear H7
        have H7 := H7'
        clear H7'
        have R6' := Lib.hid ((R6.out.below Hbe15.out).more Hbe15.out.size)
        clear R6
        have R6 := R6'
        clear R6'
        have Bw' : Hid (Below w.heap.size w y15) := Bw.out.trans (Hbe15.out.mono Bw.out.size)
        clear Bw
        have Bw := Bw'
        clear Bw'
        have H9 := H9n
        clear H9n Hbe15
        clear RO
        obtain ⟨g9, hg9⟩ : ∃ g, g = wr.heap.size := ⟨_, rfl⟩
        rw [← hg9] at H9 ⊢
        have R6B : Hid (BS y15 g9 A6 a.act.frame) := by
          rw [hg9]
          exact R6B0.out.below Hbx9.out
        rw [← hg9] at H7lt
        clear R6B0 Hbx9
        have h29 : w.heap.size < g9 := by omega
        clear hge hg9
        have e0 := co_out H9.out
        have ef := H9.out.frozen 5
        obtain ⟨xq, hxq⟩ : ∃ W, W = y15.setCell ⟨g9, 5, none⟩ (.slice A0 l.length c0) := ⟨_, rfl⟩
        have hgr : y15.grownBy xq (some g9) := by rw [hxq]; exact grownSet y15 ⟨g9, 5, none⟩ _
        have hnew : Blk xq g9 36 (outCs A0 l.length c0 o').toArray := by
          rw [hxq]
          have := Blk.set_ H9.out 5 (.slice A0 l.length c0)
          rw [oset_out A2 A0 _ c2 _ c0 a.o l, ← HO'.out] at this
          exact this
        have h2' := Lib.hid (Blk.grown H2.out hgr (fun e => by injection e with e; omega))
        have h7' := Lib.hid (Blk.grown H7.out hgr (fun e => by injection e with e; have := H7lt.out; omega))
        have r6' := Lib.hid ((R6B.out.grown hgr (by have := H9.out.lt; omega) (fun k hk => by injection hk with hk; omega)).more (show g9 ≤ xq.heap.size by have := hgr.size; have := H9.out.lt; omega))
        have bw' : Hid (Below w.heap.size w xq) := Lib.hid (Bw.out.grown hgr Bw.out.size (fun k hk => by injection hk with hk; omega))
        have HQ := Lib.hid hxq
        have H9n := Lib.hid hnew
        clear hxq hgr hnew
        go_upto_region 16 with fail
        rw [← HQ.out]
        clear e0 ef HQ H2 H7 R6 R6B H7lt Bw H9
        have H2 := h2'
        have H7 := h7'
        have R6 := r6'
        have Bw := bw'
        have H9 := H9n
        clear h2' h7' r6' bw' H9n
        go_cut [89] from 83 to 89 (fun v89 wc => v89 = .bool false ∧ Hid (Below xq.heap.size xq wc))
        case first =>
          refine wp_region_noPanic ?_
          refine wp_region_held_drew (S := fun w' => Below xq.heap.size xq w') (by kernel_rfl) ((Below.refl _ _).drew) (fun hHeld => ?_)
          refine wpAnyH_take (i := 0) rfl (by kernel_rfl) (by kernel_rfl) (by kernel_rfl) (fun _ _ _ h => h) (yieldsIf_load_mid (by rfl) 39 (.tmp 7) rfl (w7.heap.size) (0) rfl (evCs A6 a.act.frame.length c6 none 0 0 X) _ (fun w' hSw => blk_range (Blk.below H7.out hSw H7.out.lt)) Try.underlying39 rfl (ev_sz HXs.out)) hHeld ?_
          try (simp only [Act.put, List.getElem_toArray, List.getElem_cons_succ, List.getElem_cons_zero, List.setIfInBounds_toArray, List.set_cons_zero, List.set_cons_succ])
          refine wpAnyH_take (i := 1) (v := ?_) rfl (by kernel_rfl) (by kernel_rfl) (by kernel_rfl) (fun _ _ _ h => h) (Or.inl ⟨by rfl, ?_⟩) hHeld ?_
          rotate_left
          · intro w' hSw
            skip
            go_simp
            try with_reducible rfl
          try (simp only [Act.put, List.getElem_toArray, List.getElem_cons_succ, List.getElem_cons_zero, List.setIfInBounds_toArray, List.set_cons_zero, List.set_cons_succ])
          refine wpAnyH_take (i := 2) rfl (by kernel_rfl) (by kernel_rfl) (by kernel_rfl) (fun _ _ _ h => h) (yieldsIf_load_mid (by rfl) 33 (.tmp 84) rfl (w.heap.size) (0) rfl (actCs A a.act.frame.length c a.act) _ (fun w' hSw => ce_act (Blk.below H2.out hSw H2.out.lt) Hs.out) Try.underlying33 rfl (act_sz Hs.out.act)) hHeld ?_
          try (simp only [Act.put, List.getElem_toArray, List.getElem_cons_succ, List.getElem_cons_zero, List.setIfInBounds_toArray, List.set_cons_zero, List.set_cons_succ])
          refine wpAnyH_take (i := 3) rfl (by kernel_rfl) (by kernel_rfl) (by kernel_rfl) (fun _ _ _ h => h) (yieldsIf_load_mid (by rfl) 36 (.tmp 9) rfl (g9) (0) rfl (outCs A0 l.length c0 o') _ (fun w' hSw => blk_range (Blk.below H9.out hSw H9.out.lt)) Try.underlying36 rfl out_sz) hHeld ?_
          try (simp only [Act.put, List.getElem_toArray, List.getElem_cons_succ, List.getElem_cons_zero, List.setIfInBounds_toArray, List.set_cons_zero, List.set_cons_succ])
          refine wpAnyH_ready (rs := [4]) (by kernel_rfl) (by simp) ?_
          refine AllReadyH.cons (i := 4) rfl (fun K hK => ?_) AllReadyH.nil
          go_simp
          refine (rofE A _ c A0 _ c0 a.act o' Hs.out.act _ (by rw [HOl.out]) (by rw [HOl.out]; exact ((((Hm.out.below Bw.out).more Bw.out.size).below hHeld).more hHeld.size)) (by omega) X HX.out).mono ?_
          rintro e wq1 ⟨rfl, hbq⟩
          have hBehind : Below xq.heap.size xq wq1 := hHeld.trans (hbq.mono hHeld.size)
          clear hbq
          go_wp2_with fail
          refine hK.out _ _ hBehind (fun hHeld => ?_)
          clear hK K hBehind
          try (simp only [Act.put, List.getElem_toArray, List.getElem_cons_succ, List.getElem_cons_zero, List.setIfInBounds_toArray, List.set_cons_zero, List.set_cons_succ])
          refine wpAnyH_ready (rs := [5]) (by kernel_rfl) (by simp) ?_
          refine AllReadyH.cons (i := 5) rfl (fun K hK => ?_) AllReadyH.nil
          go_simp
          refine (rsameN A6 _ c6 none 0 0 X A _ c none 0 0 X HXs.out HXs.out (by rw [HXf.out.1]) (by rw [HXf.out.2]; rfl) (by rw [HXf.out.1]) (by rw [HXf.out.2]; rfl) _ (by rw [HXf.out.1]; exact (R6.out.below hHeld).more hHeld.size) (by rw [HXf.out.1]; exact ((((Hf.out.below Bw.out).more Bw.out.size).below hHeld).more hHeld.size)) (by rw [HXf.out.2]; exact BS.nil _ _ _) (by rw [HXf.out.2]; exact BS.nil _ _ _) true (sameEv_self X)).mono ?_
          rintro e wq2 ⟨rfl, hbq⟩
          have hBehind : Below xq.heap.size xq wq2 := hHeld.trans (hbq.mono hHeld.size)
          clear hbq
          go_wp2_with fail
          refine hK.out _ _ hBehind (fun hHeld => ?_)
          clear hK K hBehind
          try (simp only [Act.put, List.getElem_toArray, List.getElem_cons_succ, List.getElem_cons_zero, List.setIfInBounds_toArray, List.set_cons_zero, List.set_cons_succ])
          refine wpAnyH_take (i := 6) (v := ?_) rfl (by kernel_rfl) (by kernel_rfl) (by kernel_rfl) (fun _ _ _ h => h) (Or.inl ⟨by rfl, ?_⟩) hHeld ?_
          rotate_left
          · intro w' hSw
            skip
            go_simp
            try with_reducible rfl
          try (simp only [Act.put, List.getElem_toArray, List.getElem_cons_succ, List.getElem_cons_zero, List.setIfInBounds_toArray, List.set_cons_zero, List.set_cons_succ])
          refine wpAnyH_done (by kernel_rfl) ?_ _
          refine NoPanic.normal ?_
          go_wp2
          go_meet
          case rel => exact ⟨rfl, Lib.hid hHeld⟩
        case rest =>
          obtain ⟨rfl, Hc⟩ := hcut
          clear H7 H9 R6
          have H2' := Lib.hid (Blk.below H2.out Hc.out H2.out.lt)
          clear H2
          have H2 := H2'
          clear H2'
          have Bw' : Hid (Below w.heap.size w wc) := Bw.out.trans (Hc.out.mono Bw.out.size)
          clear Bw
          have Bw := Bw'
          clear Bw'
          clear Hc
          rcases hr : rightEB a with _ | _
          · have Hr := Lib.hid hr
            clear hr
            have R2 := Lib.hid (blk_range H2.out)
            go_wp2_with (first
              | ((with_reducible refine gateL 39 ?_); refine wpList_load_g (by rfl) 39 (.tmp 2) rfl w.heap.size 0 rfl (evCs A a.act.frame.length c A2 a.o.out.length c2 a) _ R2.out ev_under rfl (ev_sz Hs.out) ?_))
            clear R2
            refine (eputE_no A c A2 c2 a Hs.out Hr.out wc ((Hf.out.below Bw.out).more Bw.out.size)).mono ?_
            rintro e v3 ⟨rfl, hb16⟩
            have Hb16 := Lib.hid hb16
            clear hb16
            have H2' := Lib.hid (Blk.below H2.out Hb16.out H2.out.lt)
            clear H2
            have H2 := H2'
            clear H2'
            have Bw' : Hid (Below w.heap.size w v3) := Bw.out.trans (Hb16.out.mono Bw.out.size)
            clear Bw
            have Bw := Bw'
            clear Bw'
            clear Hb16
            go_wp2
            go_ret
            exact ⟨rfl, Bw.out⟩
          · have hle := evBytes_len Hs.out hr
            have hown := evGet_own Hs.out hr
            obtain ⟨N, hN⟩ : ∃ N, N = normE a := ⟨_, rfl⟩
            have HN : Hid (EvShape N) := by rw [hN]; exact norm_shape Hs.out
            have HNs : Hid (sameEvB N a = true) := by rw [hN]; exact norm_same a
            have HN0 : Hid (0 = N.o.out.length) := by rw [hN]; exact right_out (e := normE a) (by rw [norm_right]; exact hr)
            have HNo : Hid (N.o.out = []) := List.eq_nil_of_length_eq_zero HN0.out.symm
            obtain ⟨m, hmm⟩ : ∃ m, m = evBytes a := ⟨_, rfl⟩
            rw [← hmm] at hle hown
            rw [← hN] at hown
            have Hown := Lib.hid hown
            have Hmm := Lib.hid hmm.symm
            have Hr := Lib.hid hr
            clear hr hown hmm hN
            have R2 := Lib.hid (blk_range H2.out)
            go_wp2_with (first
              | ((with_reducible refine gateL 39 ?_); refine wpList_load_g (by rfl) 39 (.tmp 2) rfl w.heap.size 0 rfl (evCs A a.act.frame.length c A2 a.o.out.length c2 a) _ R2.out ev_under rfl (ev_sz Hs.out) ?_))
            clear R2
            refine (eputE_yes A c A2 c2 a Hs.out Hr.out wc ((Hf.out.below Bw.out).more Bw.out.size) m Hmm.out).mono ?_
            rintro e v3 ⟨A8, c8, rfl, hown8, hb17⟩
            have Hb17 := Lib.hid hb17
            clear hb17
            have R8 := Lib.hid (BS.of_own hown8).1
            clear hown8
            have H2' := Lib.hid (Blk.below H2.out Hb17.out H2.out.lt)
            clear H2
            have H2 := H2'
            clear H2'
            have Bw' : Hid (Below w.heap.size w v3) := Bw.out.trans (Hb17.out.mono Bw.out.size)
            clear Bw
            have Bw := Bw'
            clear Bw'
            clear Hb17
            have hgey : w.heap.size ≤ v3.heap.size := Bw.out.size
            go_upto_region 22 with (first
                | ((with_reducible refine gateB .append ?_); refine wpList_append_bytes _ rfl _ _ 22 rfl v3.heap.size 5 i0 (.int .u8 0) 1 Try.underlying22 hi0 hz0 hz1 hz2 rfl (.slice (some ⟨v3.heap.size, 0, none⟩) 0 0) [] rfl (own_none v3 _ _ (Nat.le_refl _) _ rfl) v3.heap.size A8 _ c8 m rfl rfl (R8.out.below ((Below.refl _ _).alloc (Nat.le_refl _) _)) (by simp; unfold maxLen; omega) (by simp; omega) (by simp) ?_; intro A9 c9 v4 hown hg _; have Hbv4 : Hid (Below v3.heap.size v3 v4) := ((Below.refl _ _).alloc (Nat.le_refl _) _).grown hg (by simp) (fun k hk => by simp [Value.ownBlock] at hk; omega); have R9 : Hid (v4.ownsRow v3.heap.size 5 1 (.slice A9 (m).length c9) (m).length (bcells (m))) := (by show World.ownsRow _ _ _ _ _ _ _; simpa using hown); clear hown hg))
            have By : Hid (Below v3.heap.size v3 v4) := Hbv4
            have H2' := Lib.hid (Blk.below H2.out Hbv4.out H2.out.lt)
            clear H2
            have H2 := H2'
            clear H2'
            have Bw' : Hid (Below w.heap.size w v4) := Bw.out.trans (Hbv4.out.mono Bw.out.size)
            clear Bw
            have Bw := Bw'
            clear Bw'
            clear Hbv4
            go_wp2_with fail
            have hlt9 : ∀ k, (Value.slice A9 m.length c9).ownBlock = some k → k < v4.heap.size := fun k hk => (R9.out.lt k hk).2
            have Hlt9 := Lib.hid hlt9
            clear hlt9
            refine (egetE_yes A9 _ c9 m v4 rfl (BS.of_own R9.out).1 (by omega) N Hown.out).mono ?_
            rintro e v5 ⟨A10, c10, rfl, hown10, hb18⟩
            have Hb18 := Lib.hid hb18
            clear hb18
            have R10 := Lib.hid hown10
            have Hne10 := Lib.hid (own_ne_row hown10 Hlt9.out)
            have By5 : Hid (Below v3.heap.size v3 v5) := By.out.trans (Hb18.out.mono By.out.size)
            clear hown10 Hlt9 By
            have H2' := Lib.hid (Blk.below H2.out Hb18.out H2.out.lt)
            clear H2
            have H2 := H2'
            clear H2'
            have R9' := Lib.hid (own_below R9.out Hb18.out)
            clear R9
            have R9 := R9'
            clear R9'
            have Bw' : Hid (Below w.heap.size w v5) := Bw.out.trans (Hb18.out.mono Bw.out.size)
            clear Bw
            have Bw := Bw'
            clear Bw'
            clear Hb18
            obtain ⟨x19, hx19⟩ : ∃ W, W = v5.alloc (.cells (evCs none 0 0 none 0 0 ev0).toArray 39) := ⟨_, rfl⟩
            obtain ⟨y19, hy19⟩ : ∃ W, W = x19.setCells v5.heap.size 0 (evCs A10 N.act.frame.length c10 none 0 0 N) := ⟨_, rfl⟩
            obtain ⟨hth19, hbx19, hbe19⟩ := boxed v5 x19 y19 39 (evCs none 0 0 none 0 0 ev0) (evCs A10 N.act.frame.length c10 none 0 0 N) (by rw [ev_len HN.out, ev_len ev0_shape]) hx19 hy19
            rw [ev0_lit] at hx19
            have HX19 := Lib.hid hx19
            have HY19 := Lib.hid hy19
            have Hth19 := Lib.hid hth19
            have Hbe19 := Lib.hid hbe19
            have By6 := Lib.hid (By5.out.trans (Hbe19.out.mono By5.out.size))
            clear By5
            have H13n := Lib.hid hbx19
            clear hx19 hy19 hth19 hbx19 hbe19
            have R2 := Lib.hid (blk_range H2.out)
            go_upto_region 23 with (first
              | ((with_reducible refine gateL 39 ?_); refine wpList_load_g (by rfl) 39 (.tmp 2) rfl w.heap.size 0 rfl (evCs A a.act.frame.length c A2 a.o.out.length c2 a) _ R2.out ev_under rfl (ev_sz Hs.out) ?_)
              | (rw [← HX19.out]; (with_reducible refine gateS 39 ?_); refine wpList_store_mid rfl 39 (.tmp 13) (.tmp 103) rfl v5.heap.size 0 (evCs A10 N.act.frame.length c10 none 0 0 N).toArray rfl rfl Hth19.out (ev_szA HN.out) (ev_one _ _ _ _ _ _ _) ?_))
            clear R2
            rw [← HY19.out]
            clear HX19 HY19 Hth19
            have H2' := Lib.hid (Blk.below H2.out Hbe19.out H2.out.lt)
            clear H2
            have H2 := H2'
            clear H2'
            have R9' := Lib.hid (own_below R9.out Hbe19.out)
            clear R9
            have R9 := R9'
            clear R9'
            have R10' := Lib.hid (own_below R10.out Hbe19.out)
            clear R10
            have R10 := R10'
            clear R10'
            have Bw' : Hid (Below w.heap.size w y19) := Bw.out.trans (Hbe19.out.mono Bw.out.size)
            clear Bw
            have Bw := Bw'
            clear Bw'
            have H13 := H13n
            clear H13n Hbe19
            obtain ⟨z2, hz2⟩ : ∃ W, W = y19 := ⟨_, rfl⟩
            rw [← hz2] at H2 H13 R9 R10 Bw By6 ⊢
            clear hz2
            go_upto_region 24 with fail
            go_wp2_with fail
            go_loopw [15] (fun i wq => ∃ (k : Nat) (l' : List UInt8), k ≤ m.length ∧ i = .int .i64 (k : Int) ∧ l'.length = m.length ∧ Hid (wq.ownsRow w.heap.size 5 1 (.slice A9 m.length c9) m.length (bcells l')) ∧ Hid (z2.grownBy wq (Value.slice A9 m.length c9).ownBlock)) (fun i _ => m.length - (intOf i).toNat)
            case atStart => exact ⟨0, m, Nat.zero_le _, rfl, rfl, own_base' R9.out hgey, World.grownBy.refl _ _⟩
            case round =>
              obtain ⟨k, l', hk, rfl, hll, hO, hgr⟩ := hrel
              rename World => wq
              by_cases hlt : k < m.length
              · have hltI : (k : Int) < (m.length : Int) := by omega
                have hk0 : (0 : Int) ≤ (k : Int) := by omega
                have hO1 := hO.out
                rw [← hll] at hO1
                obtain ⟨gm, hAm, hbg, hgl, hcell, hfz, hO'⟩ := own_put8 hO1 (k := k) (by omega) 0
                rw [List.length_set, hll] at hO'
                have hgr' : z2.grownBy (wq.setCell ⟨gm, k, none⟩ (.int .u8 0)) (some gm) := by
                  have := hgr.out
                  rw [hAm] at this
                  exact this.trans (grownSet wq ⟨gm, k, none⟩ _)
                have HO9 := Lib.hid hO'
                have Hgr' := Lib.hid hgr'
                clear hO' hgr' hO hgr hO1
                subst hAm
                go_wp2_with fail
                go_roundw
                case rel => exact ⟨k + 1, l'.set k 0, by omega, by go_num, by rw [List.length_set]; exact hll, HO9, Hgr'⟩
                case measure => simp [intOf]; omega
              · have hltI : ¬ (k : Int) < (m.length : Int) := by omega
                have hrow : ∀ k, (Value.slice A9 m.length c9).ownBlock = some k → v3.heap.size ≤ k := fun k hk => (R9.out.lt k hk).1
                have hby : Below v3.heap.size v3 wq := By6.out.grown hgr.out By6.out.size hrow
                have h2' := Blk.grown H2.out hgr.out (by
                  rcases own_blk_ne R9.out H2.out (by decide) with h | h
                  · rw [h]; simp
                  · exact fun e => h e.symm)
                have h13' := Blk.grown H13.out hgr.out (by
                  rcases own_blk_ne R9.out H13.out (by decide) with h | h
                  · rw [h]; simp
                  · exact fun e => h e.symm)
                have r10 := R10.out.kept hgr.out Hne10.out
                have r8 := (R8.out.below hby).more hby.size
                have bw := Bw.out.grown hgr.out Bw.out.size (fun k hk => Nat.le_trans hgey (hrow k hk))
                clear H2 H13 R9 R10 R8 Bw hO hgr hrow hby By6 Hne10
                have H2 := Lib.hid h2'
                have H13 := Lib.hid h13'
                have R10 := Lib.hid (BS.of_own r10).1
                have R8 := Lib.hid r8
                have Bw : Hid (Below w.heap.size w wq) := Lib.hid bw
                clear h2' h13' r10 r8 bw
                go_upto_region 27 with fail
                refine wp_region_noPanic ?_
                refine wp_region_held_drew (S := fun w' => Below wq.heap.size wq w') (by kernel_rfl) ((Below.refl _ _).drew) (fun hHeld => ?_)
                refine wpAnyH_take (i := 0) rfl (by kernel_rfl) (by kernel_rfl) (by kernel_rfl) (fun _ _ _ h => h) (yieldsIf_load_mid (by rfl) 39 (.tmp 13) rfl (v5.heap.size) (0) rfl (evCs A10 N.act.frame.length c10 none 0 0 N) _ (fun w' hSw => blk_range (Blk.below H13.out hSw H13.out.lt)) Try.underlying39 rfl (ev_sz HN.out)) hHeld ?_
                try (simp only [Act.put, List.getElem_toArray, List.getElem_cons_succ, List.getElem_cons_zero, List.setIfInBounds_toArray, List.set_cons_zero, List.set_cons_succ])
                refine wpAnyH_take (i := 1) rfl (by kernel_rfl) (by kernel_rfl) (by kernel_rfl) (fun _ _ _ h => h) (yieldsIf_load_mid (by rfl) 39 (.tmp 2) rfl (w.heap.size) (0) rfl (evCs A a.act.frame.length c A2 a.o.out.length c2 a) _ (fun w' hSw => blk_range (Blk.below H2.out hSw H2.out.lt)) Try.underlying39 rfl (ev_sz Hs.out)) hHeld ?_
                try (simp only [Act.put, List.getElem_toArray, List.getElem_cons_succ, List.getElem_cons_zero, List.setIfInBounds_toArray, List.set_cons_zero, List.set_cons_succ])
                refine wpAnyH_ready (rs := [2]) (by kernel_rfl) (by simp) ?_
                refine AllReadyH.cons (i := 2) rfl (fun K hK => ?_) AllReadyH.nil
                go_simp
                refine (rsameN A10 _ c10 none 0 0 N A _ c A2 _ c2 a HN.out Hs.out rfl HN0.out rfl rfl _ ((R10.out.below hHeld).more hHeld.size) ((((Hf.out.below Bw.out).more Bw.out.size).below hHeld).more hHeld.size) (by rw [HNo.out]; exact BS.nil _ _ _) ((((Ho.out.below Bw.out).more Bw.out.size).below hHeld).more hHeld.size) true HNs.out).mono ?_
                rintro e wq3 ⟨rfl, hbq⟩
                have hBehind : Below wq.heap.size wq wq3 := hHeld.trans (hbq.mono hHeld.size)
                clear hbq
                go_wp2_with fail
                refine hK.out _ _ hBehind (fun hHeld => ?_)
                clear hK K hBehind
                try (simp only [Act.put, List.getElem_toArray, List.getElem_cons_succ, List.getElem_cons_zero, List.setIfInBounds_toArray, List.set_cons_zero, List.set_cons_succ])
                refine wpAnyH_take (i := 3) (v := ?_) rfl (by kernel_rfl) (by kernel_rfl) (by kernel_rfl) (fun _ _ _ h => h) (Or.inl ⟨by rfl, ?_⟩) hHeld ?_
                rotate_left
                · intro w' hSw
                  skip
                  go_simp
                  try with_reducible rfl
                try (simp only [Act.put, List.getElem_toArray, List.getElem_cons_succ, List.getElem_cons_zero, List.setIfInBounds_toArray, List.set_cons_zero, List.set_cons_succ])
                refine wpAnyH_take (i := 4) (v := ?_) rfl (by kernel_rfl) (by kernel_rfl) (by kernel_rfl) (fun _ _ _ h => h) (Or.inl ⟨by rfl, ?_⟩) hHeld ?_
                rotate_left
                · intro w' hSw
                  skip
                  go_simp
                  try with_reducible rfl
                try (simp only [Act.put, List.getElem_toArray, List.getElem_cons_succ, List.getElem_cons_zero, List.setIfInBounds_toArray, List.set_cons_zero, List.set_cons_succ])
                refine wpAnyH_take (i := 5) (v := ?_) rfl (by kernel_rfl) (by kernel_rfl) (by kernel_rfl) (fun _ _ _ h => h) (Or.inl ⟨by rfl, ?_⟩) hHeld ?_
                rotate_left
                · intro w' hSw
                  have hcv := run_convert_bs (P := Try.prog) 22 9 5 Try.underlying22 Try.underlying5 Try.underlying9 w' _ A8 m (R8.out.below hSw) _ c8 rfl
                  go_simp
                  try with_reducible rfl
                try (simp only [Act.put, List.getElem_toArray, List.getElem_cons_succ, List.getElem_cons_zero, List.setIfInBounds_toArray, List.set_cons_zero, List.set_cons_succ])
                refine wpAnyH_take (i := 6) rfl (by kernel_rfl) (by kernel_rfl) (by kernel_rfl) (fun _ _ _ h => h) (yieldsIf_load_mid (by rfl) 39 (.tmp 2) rfl (w.heap.size) (0) rfl (evCs A a.act.frame.length c A2 a.o.out.length c2 a) _ (fun w' hSw => blk_range (Blk.below H2.out hSw H2.out.lt)) Try.underlying39 rfl (ev_sz Hs.out)) hHeld ?_
                try (simp only [Act.put, List.getElem_toArray, List.getElem_cons_succ, List.getElem_cons_zero, List.setIfInBounds_toArray, List.set_cons_zero, List.set_cons_succ])
                refine wpAnyH_ready (rs := [7]) (by kernel_rfl) (by simp) ?_
                refine AllReadyH.cons (i := 7) rfl (fun K hK => ?_) AllReadyH.nil
                go_simp
                refine (rputE_is A c A2 c2 a Hs.out Hr.out _ ((((Hf.out.below Bw.out).more Bw.out.size).below hHeld).more hHeld.size) m Hmm.out).mono ?_
                rintro e wk ⟨A11, c11, rfl, hbs11, hbq⟩
                have hBehind : Below wq.heap.size wq wk := hHeld.trans (hbq.mono hHeld.size)
                have Hb11 := Lib.hid hbs11
                clear hbs11
                clear hbq
                go_wp2_with fail
                refine hK.out _ _ hBehind (fun hHeld => ?_)
                clear hK K hBehind
                try (simp only [Act.put, List.getElem_toArray, List.getElem_cons_succ, List.getElem_cons_zero, List.setIfInBounds_toArray, List.set_cons_zero, List.set_cons_succ])
                refine wpAnyH_ready (rs := [8]) (by kernel_rfl) (by simp) ?_
                refine AllReadyH.cons (i := 8) rfl (fun K hK => ?_) AllReadyH.nil
                have hcv := run_convert_bs (P := Try.prog) 22 9 5 Try.underlying22 Try.underlying5 Try.underlying9 wk _ A11 m Hb11.out _ c11 rfl
                go_simp
                refine hK.out _ _ hHeld (fun hHeld => ?_)
                clear hK K hcv
                try (simp only [Act.put, List.getElem_toArray, List.getElem_cons_succ, List.getElem_cons_zero, List.setIfInBounds_toArray, List.set_cons_zero, List.set_cons_succ])
                refine wpAnyH_take (i := 9) (v := ?_) rfl (by kernel_rfl) (by kernel_rfl) (by kernel_rfl) (fun _ _ _ h => h) (Or.inl ⟨by rfl, ?_⟩) hHeld ?_
                rotate_left
                · intro w' hSw
                  have er : (m == m) = true := beq_self_eq_true m
                  go_simp
                  try with_reducible rfl
                try (simp only [Act.put, List.getElem_toArray, List.getElem_cons_succ, List.getElem_cons_zero, List.setIfInBounds_toArray, List.set_cons_zero, List.set_cons_succ])
                refine wpAnyH_take (i := 10) (v := ?_) rfl (by kernel_rfl) (by kernel_rfl) (by kernel_rfl) (fun _ _ _ h => h) (Or.inl ⟨by rfl, ?_⟩) hHeld ?_
                rotate_left
                · intro w' hSw
                  skip
                  go_simp
                  try with_reducible rfl
                try (simp only [Act.put, List.getElem_toArray, List.getElem_cons_succ, List.getElem_cons_zero, List.setIfInBounds_toArray, List.set_cons_zero, List.set_cons_succ])
                refine wpAnyH_take (i := 11) (v := ?_) rfl (by kernel_rfl) (by kernel_rfl) (by kernel_rfl) (fun _ _ _ h => h) (Or.inl ⟨by rfl, ?_⟩) hHeld ?_
                rotate_left
                · intro w' hSw
                  skip
                  go_simp
                  try with_reducible rfl
                try (simp only [Act.put, List.getElem_toArray, List.getElem_cons_succ, List.getElem_cons_zero, List.setIfInBounds_toArray, List.set_cons_zero, List.set_cons_succ])
                refine wpAnyH_done (by kernel_rfl) ?_ _
                refine NoPanic.normal ?_
                go_wp2
                go_ret
                exact ⟨rfl, Bw.out.trans (hHeld.mono Bw.out.size)⟩
end Go.Proofs.Ytgohhojoahlfiaa
