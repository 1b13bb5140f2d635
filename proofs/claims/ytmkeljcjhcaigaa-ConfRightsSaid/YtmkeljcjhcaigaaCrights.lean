/- ConfRights: whether a config is right, and whether both are alike; which Vip is alike in address, protocol and port (printed by gen_crights.py). -/
import Derived.Test.YtmkeljcjhcaigaaRRi
import Derived.Deep.Cut
import Derived.Deep.CutRange
namespace Go.Proofs.Ytmkeljcjhcaigaa
open Go.RowKit
set_option linter.unusedVariables false
set_option linter.unusedSimpArgs false

theorem vip_eqT {a b : VipP} (h : a = b) (ha : addrOk a.1) (w : World) : (Op.equalIn 10000 33 (.agg (vipCs a).toArray) (.agg (vipCs b).toArray)).run Try.prog w = .ok true w := by
  subst h
  have := vip_eqIn 9996 a a ha ha w
  rw [show (a == a) = true from beq_self_eq_true a] at this
  exact this
theorem vipC (A : Option Addr) (c : Nat) (f : ConfP) (hs : ConfShape f) (addr : AddrP) (ha : addrOk addr) (proto port : Int) (w : World) (hb : VS w w.heap.size A f.vips) (hl : f.vips.length ≤ 1000000) (v : VipP) (b : Bool) (hr : vipFind addr proto port f.vips = (v, b)) :
    Calls Try.prog 12 #[.agg (confCs A f.vips.length c f).toArray, .agg (addrCs addr).toArray, .int .i64 proto, .int .i64 port] w fun e w' => e = .returned (.tuple #[.agg (vipCs v).toArray, .bool b]) ∧ Below w.heap.size w w' := by
  have := vip_any (confCs A f.vips.length c f).toArray A f.vips.length c rfl f.vips hs.vips addr ha proto port w rfl hb hl
  rw [hr] at this
  exact this
theorem findC (A : Option Addr) (c : Nat) (f : ConfP) (hs : ConfShape f) (addr : AddrP) (ha : addrOk addr) (proto port : Int) (w : World) (hb : VS w w.heap.size A f.vips) (hl : f.vips.length ≤ 1000000) (z : Int) (hr : vipIdx addr proto port f.vips = z) :
    Calls Try.prog 13 #[.agg (confCs A f.vips.length c f).toArray, .agg (addrCs addr).toArray, .int .i64 proto, .int .i64 port] w fun e w' => e = .returned (.int .i64 z) ∧ Below w.heap.size w w' := by
  have := refFind_any A f.vips.length c f hs addr ha proto port w rfl hb hl
  rw [hr] at this
  exact this
theorem rrightC (A : Option Addr) (c : Nat) (f : ConfP) (hs : ConfShape f) (w : World) (hv : VS w w.heap.size A f.vips) (hl : f.vips.length ≤ 1000000) (b : Bool) (hr : rightB f = b) :
    Calls Try.prog 17 #[.agg (confCs A f.vips.length c f).toArray] w fun e w' => e = .returned (.bool b) ∧ Below w.heap.size w w' := by
  subst hr
  exact refRight_any A _ c f hs w rfl hv hl
theorem rsameC (A : Option Addr) (c : Nat) (f : ConfP) (hs : ConfShape f) (A' : Option Addr) (c' : Nat) (g : ConfP) (hg : ConfShape g) (w : World) (b : Bool) (hr : sameB f g = b) (hv : VS w w.heap.size A f.vips) (hv' : VS w w.heap.size A' g.vips) (hl : f.vips.length ≤ 1000000) (hl' : g.vips.length ≤ 1000000) :
    Calls Try.prog 19 #[.agg (confCs A f.vips.length c f).toArray, .agg (confCs A' g.vips.length c' g).toArray] w fun e w' => e = .returned (.bool b) ∧ Below w.heap.size w w' := by
  subst hr
  exact refSame_any A _ c f A' _ c' g hs hg w rfl rfl hv hv' hl hl'

set_option maxHeartbeats 2000000 in
set_option maxRecDepth 100000 in
theorem walk_confRights (w : World) (A : Option Addr) (n c : Nat) (f : ConfP) (hn : n = f.vips.length) (hnc : n ≤ c) (hm : n ≤ maxLen) (hb : VS w w.heap.size A f.vips) (hs : ConfShape f)
    (A' : Option Addr) (n' c' : Nat) (g : ConfP) (hn' : n' = g.vips.length) (hnc' : n' ≤ c') (hm' : n' ≤ maxLen) (hb' : VS w w.heap.size A' g.vips) (hs' : ConfShape g) (addr : AddrP) (ha : addrOk addr) (proto : Int) (wproto : (Lit.int .i64 proto).wf = true) (port : Int) (wport : (Lit.int .i64 port).wf = true) :
    Calls Try.prog 3 #[confV A n c f, confV A' n' c' g, .agg (addrCs addr).toArray, .int .i64 proto, .int .i64 port] w fun e w' => e = .returned (.bool true) ∧ Below w.heap.size w w' := by
  subst hn hn'
  unfold confV
  obtain ⟨W, hW⟩ : ∃ W, W = ((w.alloc (.cells (confCs A f.vips.length c f).toArray 29)).alloc (.cells (confCs A' g.vips.length c' g).toArray 29)).alloc (.cells (addrCs addr).toArray 27) := ⟨_, rfl⟩
  have H5 : Hid (Blk W w.heap.size 29 (confCs A f.vips.length c f).toArray) := by rw [hW]; exact Blk.alloc (Blk.alloc (Blk.new w _ _ _ rfl) _) _
  have H6 : Hid (Blk W (w.heap.size + 1) 29 (confCs A' g.vips.length c' g).toArray) := by rw [hW]; exact Blk.alloc (Blk.new _ _ _ _ (by simp)) _
  have H7 : Hid (Blk W (w.heap.size + 2) 27 (addrCs addr).toArray) := by rw [hW]; exact Blk.new _ _ _ _ (by simp)
  have hB : Below w.heap.size w W := by rw [hW]; exact (((Below.refl _ _).alloc (Nat.le_refl _) _).alloc (by simp) _).alloc (by simp; omega) _
  have Bw := Lib.hid hB
  have Hv := Lib.hid ((hb.below hB).more hB.size)
  have Hv' := Lib.hid ((hb'.below hB).more hB.size)
  have Hs := Lib.hid hs
  have Hs' := Lib.hid hs'
  have Ha := Lib.hid ha
  have HW := Lib.hid hW
  unfold maxLen at hm hm'
  clear hW hB hb hs hb' hs' ha wproto wport
  by_cases hf1 : f.vips.length ≤ 100
  rotate_left
  · go_enter Try.func3, Try.ntmps3
    go_upto_region 1 with fail
    rw [← HW.out]
    clear HW
    go_wp2_with fail
    refine (awake22 W).mono ?_
    rintro e w1 ⟨rfl, hb1⟩
    have Hb1 := Lib.hid hb1
    clear hb1
    have H5' := Lib.hid (Blk.below H5.out Hb1.out H5.out.lt)
    clear H5
    have H5 := H5'
    clear H5'
    have H6' := Lib.hid (Blk.below H6.out Hb1.out H6.out.lt)
    clear H6
    have H6 := H6'
    clear H6'
    have H7' := Lib.hid (Blk.below H7.out Hb1.out H7.out.lt)
    clear H7
    have H7 := H7'
    clear H7'
    have Hv' := Lib.hid ((Hv.out.below Hb1.out).more Hb1.out.size)
    clear Hv
    have Hv := Hv'
    clear Hv'
    have Hv'' := Lib.hid ((Hv'.out.below Hb1.out).more Hb1.out.size)
    clear Hv'
    have Hv' := Hv''
    clear Hv''
    have Bw' : Hid (Below w.heap.size w w1) := Bw.out.trans (Hb1.out.mono Bw.out.size)
    clear Bw
    have Bw := Bw'
    clear Bw'
    clear Hb1
    have R5 := Lib.hid (blk_range H5.out)
    have R6 := Lib.hid (blk_range H6.out)
    have R7 := Lib.hid (blk_range H7.out)
    go_wp2_with (first
      | ((with_reducible refine gateL 29 ?_); refine wpList_load_g (by rfl) 29 (.tmp 5) rfl w.heap.size 0 rfl (confCs A f.vips.length c f) _ R5.out conf_under rfl (conf_szL Hs.out) ?_)
      | ((with_reducible refine gateL 29 ?_); refine wpList_load_g (by rfl) 29 (.tmp 6) rfl (w.heap.size + 1) 0 rfl (confCs A' g.vips.length c' g) _ R6.out conf_under rfl (conf_szL Hs'.out) ?_)
      | ((with_reducible refine gateL 27 ?_); refine wpList_load_g (by rfl) 27 (.tmp 7) rfl (w.heap.size + 2) 0 rfl (addrCs addr) _ R7.out Try.underlying27 rfl (addr_sz Ha.out) ?_))
    clear R5
    clear R6
    clear R7
    refine (few_no A f.vips.length c f hf1 w1).mono ?_
    rintro e w2 ⟨rfl, hb2⟩
    have Hb2 := Lib.hid hb2
    clear hb2
    have H5' := Lib.hid (Blk.below H5.out Hb2.out H5.out.lt)
    clear H5
    have H5 := H5'
    clear H5'
    have H6' := Lib.hid (Blk.below H6.out Hb2.out H6.out.lt)
    clear H6
    have H6 := H6'
    clear H6'
    have H7' := Lib.hid (Blk.below H7.out Hb2.out H7.out.lt)
    clear H7
    have H7 := H7'
    clear H7'
    have Hv' := Lib.hid ((Hv.out.below Hb2.out).more Hb2.out.size)
    clear Hv
    have Hv := Hv'
    clear Hv'
    have Hv'' := Lib.hid ((Hv'.out.below Hb2.out).more Hb2.out.size)
    clear Hv'
    have Hv' := Hv''
    clear Hv''
    have Bw' : Hid (Below w.heap.size w w2) := Bw.out.trans (Hb2.out.mono Bw.out.size)
    clear Bw
    have Bw := Bw'
    clear Bw'
    clear Hb2
    go_wp2_with fail
    refine (awake22 w2).mono ?_
    rintro e wz ⟨rfl, hb3⟩
    have Hb3 := Lib.hid hb3
    clear hb3
    have H5' := Lib.hid (Blk.below H5.out Hb3.out H5.out.lt)
    clear H5
    have H5 := H5'
    clear H5'
    have H6' := Lib.hid (Blk.below H6.out Hb3.out H6.out.lt)
    clear H6
    have H6 := H6'
    clear H6'
    have H7' := Lib.hid (Blk.below H7.out Hb3.out H7.out.lt)
    clear H7
    have H7 := H7'
    clear H7'
    have Hv' := Lib.hid ((Hv.out.below Hb3.out).more Hb3.out.size)
    clear Hv
    have Hv := Hv'
    clear Hv'
    have Hv'' := Lib.hid ((Hv'.out.below Hb3.out).more Hb3.out.size)
    clear Hv'
    have Hv' := Hv''
    clear Hv''
    have Bw' : Hid (Below w.heap.size w wz) := Bw.out.trans (Hb3.out.mono Bw.out.size)
    clear Bw
    have Bw := Bw'
    clear Bw'
    clear Hb3
    go_wp2
    go_ret
    exact ⟨rfl, Bw.out⟩
  by_cases hf2 : g.vips.length ≤ 100
  rotate_left
  · go_enter Try.func3, Try.ntmps3
    go_upto_region 1 with fail
    rw [← HW.out]
    clear HW
    go_wp2_with fail
    refine (awake22 W).mono ?_
    rintro e w1 ⟨rfl, hb4⟩
    have Hb4 := Lib.hid hb4
    clear hb4
    have H5' := Lib.hid (Blk.below H5.out Hb4.out H5.out.lt)
    clear H5
    have H5 := H5'
    clear H5'
    have H6' := Lib.hid (Blk.below H6.out Hb4.out H6.out.lt)
    clear H6
    have H6 := H6'
    clear H6'
    have H7' := Lib.hid (Blk.below H7.out Hb4.out H7.out.lt)
    clear H7
    have H7 := H7'
    clear H7'
    have Hv' := Lib.hid ((Hv.out.below Hb4.out).more Hb4.out.size)
    clear Hv
    have Hv := Hv'
    clear Hv'
    have Hv'' := Lib.hid ((Hv'.out.below Hb4.out).more Hb4.out.size)
    clear Hv'
    have Hv' := Hv''
    clear Hv''
    have Bw' : Hid (Below w.heap.size w w1) := Bw.out.trans (Hb4.out.mono Bw.out.size)
    clear Bw
    have Bw := Bw'
    clear Bw'
    clear Hb4
    have R5 := Lib.hid (blk_range H5.out)
    have R6 := Lib.hid (blk_range H6.out)
    have R7 := Lib.hid (blk_range H7.out)
    go_wp2_with (first
      | ((with_reducible refine gateL 29 ?_); refine wpList_load_g (by rfl) 29 (.tmp 5) rfl w.heap.size 0 rfl (confCs A f.vips.length c f) _ R5.out conf_under rfl (conf_szL Hs.out) ?_)
      | ((with_reducible refine gateL 29 ?_); refine wpList_load_g (by rfl) 29 (.tmp 6) rfl (w.heap.size + 1) 0 rfl (confCs A' g.vips.length c' g) _ R6.out conf_under rfl (conf_szL Hs'.out) ?_)
      | ((with_reducible refine gateL 27 ?_); refine wpList_load_g (by rfl) 27 (.tmp 7) rfl (w.heap.size + 2) 0 rfl (addrCs addr) _ R7.out Try.underlying27 rfl (addr_sz Ha.out) ?_))
    clear R5
    clear R6
    clear R7
    refine (few_yes A f.vips.length c f hf1 w1).mono ?_
    rintro e w2 ⟨rfl, hb5⟩
    have Hb5 := Lib.hid hb5
    clear hb5
    have H5' := Lib.hid (Blk.below H5.out Hb5.out H5.out.lt)
    clear H5
    have H5 := H5'
    clear H5'
    have H6' := Lib.hid (Blk.below H6.out Hb5.out H6.out.lt)
    clear H6
    have H6 := H6'
    clear H6'
    have H7' := Lib.hid (Blk.below H7.out Hb5.out H7.out.lt)
    clear H7
    have H7 := H7'
    clear H7'
    have Hv' := Lib.hid ((Hv.out.below Hb5.out).more Hb5.out.size)
    clear Hv
    have Hv := Hv'
    clear Hv'
    have Hv'' := Lib.hid ((Hv'.out.below Hb5.out).more Hb5.out.size)
    clear Hv'
    have Hv' := Hv''
    clear Hv''
    have Bw' : Hid (Below w.heap.size w w2) := Bw.out.trans (Hb5.out.mono Bw.out.size)
    clear Bw
    have Bw := Bw'
    clear Bw'
    clear Hb5
    have R5 := Lib.hid (blk_range H5.out)
    have R6 := Lib.hid (blk_range H6.out)
    have R7 := Lib.hid (blk_range H7.out)
    go_wp2_with (first
      | ((with_reducible refine gateL 29 ?_); refine wpList_load_g (by rfl) 29 (.tmp 5) rfl w.heap.size 0 rfl (confCs A f.vips.length c f) _ R5.out conf_under rfl (conf_szL Hs.out) ?_)
      | ((with_reducible refine gateL 29 ?_); refine wpList_load_g (by rfl) 29 (.tmp 6) rfl (w.heap.size + 1) 0 rfl (confCs A' g.vips.length c' g) _ R6.out conf_under rfl (conf_szL Hs'.out) ?_)
      | ((with_reducible refine gateL 27 ?_); refine wpList_load_g (by rfl) 27 (.tmp 7) rfl (w.heap.size + 2) 0 rfl (addrCs addr) _ R7.out Try.underlying27 rfl (addr_sz Ha.out) ?_))
    clear R5
    clear R6
    clear R7
    refine (few_no A' g.vips.length c' g hf2 w2).mono ?_
    rintro e w3 ⟨rfl, hb6⟩
    have Hb6 := Lib.hid hb6
    clear hb6
    have H5' := Lib.hid (Blk.below H5.out Hb6.out H5.out.lt)
    clear H5
    have H5 := H5'
    clear H5'
    have H6' := Lib.hid (Blk.below H6.out Hb6.out H6.out.lt)
    clear H6
    have H6 := H6'
    clear H6'
    have H7' := Lib.hid (Blk.below H7.out Hb6.out H7.out.lt)
    clear H7
    have H7 := H7'
    clear H7'
    have Hv' := Lib.hid ((Hv.out.below Hb6.out).more Hb6.out.size)
    clear Hv
    have Hv := Hv'
    clear Hv'
    have Hv'' := Lib.hid ((Hv'.out.below Hb6.out).more Hb6.out.size)
    clear Hv'
    have Hv' := Hv''
    clear Hv''
    have Bw' : Hid (Below w.heap.size w w3) := Bw.out.trans (Hb6.out.mono Bw.out.size)
    clear Bw
    have Bw := Bw'
    clear Bw'
    clear Hb6
    go_wp2_with fail
    refine (awake22 w3).mono ?_
    rintro e wz ⟨rfl, hb7⟩
    have Hb7 := Lib.hid hb7
    clear hb7
    have H5' := Lib.hid (Blk.below H5.out Hb7.out H5.out.lt)
    clear H5
    have H5 := H5'
    clear H5'
    have H6' := Lib.hid (Blk.below H6.out Hb7.out H6.out.lt)
    clear H6
    have H6 := H6'
    clear H6'
    have H7' := Lib.hid (Blk.below H7.out Hb7.out H7.out.lt)
    clear H7
    have H7 := H7'
    clear H7'
    have Hv' := Lib.hid ((Hv.out.below Hb7.out).more Hb7.out.size)
    clear Hv
    have Hv := Hv'
    clear Hv'
    have Hv'' := Lib.hid ((Hv'.out.below Hb7.out).more Hb7.out.size)
    clear Hv'
    have Hv' := Hv''
    clear Hv''
    have Bw' : Hid (Below w.heap.size w wz) := Bw.out.trans (Hb7.out.mono Bw.out.size)
    clear Bw
    have Bw := Bw'
    clear Bw'
    clear Hb7
    go_wp2
    go_ret
    exact ⟨rfl, Bw.out⟩
  rcases hfi : f.vips.findIdx? (vipIs addr proto port) with _ | i
  · obtain ⟨v, hv⟩ : ∃ v, v = vip0 := ⟨_, rfl⟩
    have Hvo : Hid (addrOk v.1) := by rw [hv]; exact addr0_ok
    have Hfind : Hid (vipFind addr proto port f.vips = (v, false)) := by show _ = _; unfold vipFind; rw [hfi, hv]
    have Hidx : Hid (vipIdx addr proto port f.vips = -1) := by show _ = _; unfold vipIdx; rw [hfi]
    have Hv0 := Lib.hid hv
    clear hfi hv
    go_enter Try.func3, Try.ntmps3
    go_upto_region 1 with fail
    rw [← HW.out]
    clear HW
    go_wp2_with fail
    refine (awake22 W).mono ?_
    rintro e w1 ⟨rfl, hb8⟩
    have Hb8 := Lib.hid hb8
    clear hb8
    have H5' := Lib.hid (Blk.below H5.out Hb8.out H5.out.lt)
    clear H5
    have H5 := H5'
    clear H5'
    have H6' := Lib.hid (Blk.below H6.out Hb8.out H6.out.lt)
    clear H6
    have H6 := H6'
    clear H6'
    have H7' := Lib.hid (Blk.below H7.out Hb8.out H7.out.lt)
    clear H7
    have H7 := H7'
    clear H7'
    have Hv' := Lib.hid ((Hv.out.below Hb8.out).more Hb8.out.size)
    clear Hv
    have Hv := Hv'
    clear Hv'
    have Hv'' := Lib.hid ((Hv'.out.below Hb8.out).more Hb8.out.size)
    clear Hv'
    have Hv' := Hv''
    clear Hv''
    have Bw' : Hid (Below w.heap.size w w1) := Bw.out.trans (Hb8.out.mono Bw.out.size)
    clear Bw
    have Bw := Bw'
    clear Bw'
    clear Hb8
    have R5 := Lib.hid (blk_range H5.out)
    have R6 := Lib.hid (blk_range H6.out)
    have R7 := Lib.hid (blk_range H7.out)
    go_wp2_with (first
      | ((with_reducible refine gateL 29 ?_); refine wpList_load_g (by rfl) 29 (.tmp 5) rfl w.heap.size 0 rfl (confCs A f.vips.length c f) _ R5.out conf_under rfl (conf_szL Hs.out) ?_)
      | ((with_reducible refine gateL 29 ?_); refine wpList_load_g (by rfl) 29 (.tmp 6) rfl (w.heap.size + 1) 0 rfl (confCs A' g.vips.length c' g) _ R6.out conf_under rfl (conf_szL Hs'.out) ?_)
      | ((with_reducible refine gateL 27 ?_); refine wpList_load_g (by rfl) 27 (.tmp 7) rfl (w.heap.size + 2) 0 rfl (addrCs addr) _ R7.out Try.underlying27 rfl (addr_sz Ha.out) ?_))
    clear R5
    clear R6
    clear R7
    refine (few_yes A f.vips.length c f hf1 w1).mono ?_
    rintro e w2 ⟨rfl, hb9⟩
    have Hb9 := Lib.hid hb9
    clear hb9
    have H5' := Lib.hid (Blk.below H5.out Hb9.out H5.out.lt)
    clear H5
    have H5 := H5'
    clear H5'
    have H6' := Lib.hid (Blk.below H6.out Hb9.out H6.out.lt)
    clear H6
    have H6 := H6'
    clear H6'
    have H7' := Lib.hid (Blk.below H7.out Hb9.out H7.out.lt)
    clear H7
    have H7 := H7'
    clear H7'
    have Hv' := Lib.hid ((Hv.out.below Hb9.out).more Hb9.out.size)
    clear Hv
    have Hv := Hv'
    clear Hv'
    have Hv'' := Lib.hid ((Hv'.out.below Hb9.out).more Hb9.out.size)
    clear Hv'
    have Hv' := Hv''
    clear Hv''
    have Bw' : Hid (Below w.heap.size w w2) := Bw.out.trans (Hb9.out.mono Bw.out.size)
    clear Bw
    have Bw := Bw'
    clear Bw'
    clear Hb9
    have R5 := Lib.hid (blk_range H5.out)
    have R6 := Lib.hid (blk_range H6.out)
    have R7 := Lib.hid (blk_range H7.out)
    go_wp2_with (first
      | ((with_reducible refine gateL 29 ?_); refine wpList_load_g (by rfl) 29 (.tmp 5) rfl w.heap.size 0 rfl (confCs A f.vips.length c f) _ R5.out conf_under rfl (conf_szL Hs.out) ?_)
      | ((with_reducible refine gateL 29 ?_); refine wpList_load_g (by rfl) 29 (.tmp 6) rfl (w.heap.size + 1) 0 rfl (confCs A' g.vips.length c' g) _ R6.out conf_under rfl (conf_szL Hs'.out) ?_)
      | ((with_reducible refine gateL 27 ?_); refine wpList_load_g (by rfl) 27 (.tmp 7) rfl (w.heap.size + 2) 0 rfl (addrCs addr) _ R7.out Try.underlying27 rfl (addr_sz Ha.out) ?_))
    clear R5
    clear R6
    clear R7
    refine (few_yes A' g.vips.length c' g hf2 w2).mono ?_
    rintro e w3 ⟨rfl, hb10⟩
    have Hb10 := Lib.hid hb10
    clear hb10
    have H5' := Lib.hid (Blk.below H5.out Hb10.out H5.out.lt)
    clear H5
    have H5 := H5'
    clear H5'
    have H6' := Lib.hid (Blk.below H6.out Hb10.out H6.out.lt)
    clear H6
    have H6 := H6'
    clear H6'
    have H7' := Lib.hid (Blk.below H7.out Hb10.out H7.out.lt)
    clear H7
    have H7 := H7'
    clear H7'
    have Hv' := Lib.hid ((Hv.out.below Hb10.out).more Hb10.out.size)
    clear Hv
    have Hv := Hv'
    clear Hv'
    have Hv'' := Lib.hid ((Hv'.out.below Hb10.out).more Hb10.out.size)
    clear Hv'
    have Hv' := Hv''
    clear Hv''
    have Bw' : Hid (Below w.heap.size w w3) := Bw.out.trans (Hb10.out.mono Bw.out.size)
    clear Bw
    have Bw := Bw'
    clear Bw'
    clear Hb10
    have R5 := Lib.hid (blk_range H5.out)
    have R6 := Lib.hid (blk_range H6.out)
    have R7 := Lib.hid (blk_range H7.out)
    go_wp2_with (first
      | ((with_reducible refine gateL 29 ?_); refine wpList_load_g (by rfl) 29 (.tmp 5) rfl w.heap.size 0 rfl (confCs A f.vips.length c f) _ R5.out conf_under rfl (conf_szL Hs.out) ?_)
      | ((with_reducible refine gateL 29 ?_); refine wpList_load_g (by rfl) 29 (.tmp 6) rfl (w.heap.size + 1) 0 rfl (confCs A' g.vips.length c' g) _ R6.out conf_under rfl (conf_szL Hs'.out) ?_)
      | ((with_reducible refine gateL 27 ?_); refine wpList_load_g (by rfl) 27 (.tmp 7) rfl (w.heap.size + 2) 0 rfl (addrCs addr) _ R7.out Try.underlying27 rfl (addr_sz Ha.out) ?_))
    clear R5
    clear R6
    clear R7
    refine (vipC A c f Hs.out addr Ha.out proto port w3 Hv.out (by omega) v false Hfind.out).mono ?_
    rintro e w4 ⟨rfl, hb11⟩
    have Hb11 := Lib.hid hb11
    clear hb11
    have H5' := Lib.hid (Blk.below H5.out Hb11.out H5.out.lt)
    clear H5
    have H5 := H5'
    clear H5'
    have H6' := Lib.hid (Blk.below H6.out Hb11.out H6.out.lt)
    clear H6
    have H6 := H6'
    clear H6'
    have H7' := Lib.hid (Blk.below H7.out Hb11.out H7.out.lt)
    clear H7
    have H7 := H7'
    clear H7'
    have Hv' := Lib.hid ((Hv.out.below Hb11.out).more Hb11.out.size)
    clear Hv
    have Hv := Hv'
    clear Hv'
    have Hv'' := Lib.hid ((Hv'.out.below Hb11.out).more Hb11.out.size)
    clear Hv'
    have Hv' := Hv''
    clear Hv''
    have Bw' : Hid (Below w.heap.size w w4) := Bw.out.trans (Hb11.out.mono Bw.out.size)
    clear Bw
    have Bw := Bw'
    clear Bw'
    clear Hb11
    obtain ⟨x12, hx12⟩ : ∃ W, W = w4.alloc (.cells (vipCs vip0).toArray 33) := ⟨_, rfl⟩
    obtain ⟨y12, hy12⟩ : ∃ W, W = x12.setCells w4.heap.size 0 (vipCs v) := ⟨_, rfl⟩
    obtain ⟨hth12, hbx12, hbe12⟩ := boxed w4 x12 y12 33 (vipCs vip0) (vipCs v) (by rw [vipCs_length Hvo.out, vipCs_length (v := vip0) addr0_ok]) hx12 hy12
    rw [vip0_litA] at hx12
    have HX12 := Lib.hid hx12
    have HY12 := Lib.hid hy12
    have Hth12 := Lib.hid hth12
    have Hbe12 := Lib.hid hbe12
    have H11n := Lib.hid hbx12
    clear hx12 hy12 hth12 hbx12 hbe12
    have R5 := Lib.hid (blk_range H5.out)
    have R6 := Lib.hid (blk_range H6.out)
    have R7 := Lib.hid (blk_range H7.out)
    go_upto_region 4 with (first
      | ((with_reducible refine gateL 29 ?_); refine wpList_load_g (by rfl) 29 (.tmp 5) rfl w.heap.size 0 rfl (confCs A f.vips.length c f) _ R5.out conf_under rfl (conf_szL Hs.out) ?_)
      | ((with_reducible refine gateL 29 ?_); refine wpList_load_g (by rfl) 29 (.tmp 6) rfl (w.heap.size + 1) 0 rfl (confCs A' g.vips.length c' g) _ R6.out conf_under rfl (conf_szL Hs'.out) ?_)
      | ((with_reducible refine gateL 27 ?_); refine wpList_load_g (by rfl) 27 (.tmp 7) rfl (w.heap.size + 2) 0 rfl (addrCs addr) _ R7.out Try.underlying27 rfl (addr_sz Ha.out) ?_)
      | (rw [← HX12.out]; (with_reducible refine gateS 33 ?_); refine wpList_store_mid rfl 33 (.tmp 11) (.tmp 33) rfl w4.heap.size 0 (vipCs v).toArray rfl rfl Hth12.out (vip_szA Hvo.out) (vip_one v) ?_))
    clear R5
    clear R6
    clear R7
    rw [← HY12.out]
    clear HX12 HY12 Hth12
    have H5' := Lib.hid (Blk.below H5.out Hbe12.out H5.out.lt)
    clear H5
    have H5 := H5'
    clear H5'
    have H6' := Lib.hid (Blk.below H6.out Hbe12.out H6.out.lt)
    clear H6
    have H6 := H6'
    clear H6'
    have H7' := Lib.hid (Blk.below H7.out Hbe12.out H7.out.lt)
    clear H7
    have H7 := H7'
    clear H7'
    have Hv' := Lib.hid ((Hv.out.below Hbe12.out).more Hbe12.out.size)
    clear Hv
    have Hv := Hv'
    clear Hv'
    have Hv'' := Lib.hid ((Hv'.out.below Hbe12.out).more Hbe12.out.size)
    clear Hv'
    have Hv' := Hv''
    clear Hv''
    have Bw' : Hid (Below w.heap.size w y12) := Bw.out.trans (Hbe12.out.mono Bw.out.size)
    clear Bw
    have Bw := Bw'
    clear Bw'
    have H11 := H11n
    clear H11n Hbe12
    have R5 := Lib.hid (blk_range H5.out)
    have R6 := Lib.hid (blk_range H6.out)
    have R7 := Lib.hid (blk_range H7.out)
    have R11 := Lib.hid (blk_range H11.out)
    go_wp2_with (first
      | ((with_reducible refine gateL 29 ?_); refine wpList_load_g (by rfl) 29 (.tmp 5) rfl w.heap.size 0 rfl (confCs A f.vips.length c f) _ R5.out conf_under rfl (conf_szL Hs.out) ?_)
      | ((with_reducible refine gateL 29 ?_); refine wpList_load_g (by rfl) 29 (.tmp 6) rfl (w.heap.size + 1) 0 rfl (confCs A' g.vips.length c' g) _ R6.out conf_under rfl (conf_szL Hs'.out) ?_)
      | ((with_reducible refine gateL 27 ?_); refine wpList_load_g (by rfl) 27 (.tmp 7) rfl (w.heap.size + 2) 0 rfl (addrCs addr) _ R7.out Try.underlying27 rfl (addr_sz Ha.out) ?_)
      | ((with_reducible refine gateL 33 ?_); refine wpList_load_g (by rfl) 33 (.tmp 11) rfl w4.heap.size 0 rfl (vipCs v) _ R11.out Try.underlying33 rfl (vip_szL Hvo.out) ?_))
    clear R5
    clear R6
    clear R7
    clear R11
    refine (findC A c f Hs.out addr Ha.out proto port y12 Hv.out (by omega) (-1) Hidx.out).mono ?_
    rintro e w5 ⟨rfl, hb13⟩
    have Hb13 := Lib.hid hb13
    clear hb13
    have H5' := Lib.hid (Blk.below H5.out Hb13.out H5.out.lt)
    clear H5
    have H5 := H5'
    clear H5'
    have H6' := Lib.hid (Blk.below H6.out Hb13.out H6.out.lt)
    clear H6
    have H6 := H6'
    clear H6'
    have H7' := Lib.hid (Blk.below H7.out Hb13.out H7.out.lt)
    clear H7
    have H7 := H7'
    clear H7'
    have H11' := Lib.hid (Blk.below H11.out Hb13.out H11.out.lt)
    clear H11
    have H11 := H11'
    clear H11'
    have Hv' := Lib.hid ((Hv.out.below Hb13.out).more Hb13.out.size)
    clear Hv
    have Hv := Hv'
    clear Hv'
    have Hv'' := Lib.hid ((Hv'.out.below Hb13.out).more Hb13.out.size)
    clear Hv'
    have Hv' := Hv''
    clear Hv''
    have Bw' : Hid (Below w.heap.size w w5) := Bw.out.trans (Hb13.out.mono Bw.out.size)
    clear Bw
    have Bw := Bw'
    clear Bw'
    clear Hb13
    go_upto_region 5 with fail
    go_cut [71] from 40 to 71 (fun v71 wc => v71 = .bool false ∧ Hid (Below w5.heap.size w5 wc))
    case first =>
      refine wp_region_noPanic ?_
      refine wp_region_held_drew (S := fun w' => Below w5.heap.size w5 w') (by kernel_rfl) ((Below.refl _ _).drew) (fun hHeld => ?_)
      refine wpAnyH_take (i := 0) (v := ?_) rfl (by kernel_rfl) (by kernel_rfl) (by kernel_rfl) (fun _ _ _ h => h) (Or.inl ⟨by rfl, ?_⟩) hHeld ?_
      rotate_left
      · intro w' hSw
        skip
        go_simp
        try with_reducible rfl
      try (simp only [Act.put, List.getElem_toArray, List.getElem_cons_succ, List.getElem_cons_zero, List.setIfInBounds_toArray, List.set_cons_zero, List.set_cons_succ])
      refine wpAnyH_take (i := 1) (v := ?_) rfl (by kernel_rfl) (by kernel_rfl) (by kernel_rfl) (fun _ _ _ h => h) (Or.inl ⟨by rfl, ?_⟩) hHeld ?_
      rotate_left
      · intro w' hSw
        skip
        go_simp
        try with_reducible rfl
      try (simp only [Act.put, List.getElem_toArray, List.getElem_cons_succ, List.getElem_cons_zero, List.setIfInBounds_toArray, List.set_cons_zero, List.set_cons_succ])
      refine wpAnyH_take (i := 2) (v := ?_) rfl (by kernel_rfl) (by kernel_rfl) (by kernel_rfl) (fun _ _ _ h => h) (Or.inl ⟨by rfl, ?_⟩) hHeld ?_
      rotate_left
      · intro w' hSw
        skip
        go_simp
        try with_reducible rfl
      try (simp only [Act.put, List.getElem_toArray, List.getElem_cons_succ, List.getElem_cons_zero, List.setIfInBounds_toArray, List.set_cons_zero, List.set_cons_succ])
      refine wpAnyH_take (i := 3) (v := ?_) rfl (by kernel_rfl) (by kernel_rfl) (by kernel_rfl) (fun _ _ _ h => h) (Or.inl ⟨by rfl, ?_⟩) hHeld ?_
      rotate_left
      · intro w' hSw
        skip
        go_simp
        try with_reducible rfl
      try (simp only [Act.put, List.getElem_toArray, List.getElem_cons_succ, List.getElem_cons_zero, List.setIfInBounds_toArray, List.set_cons_zero, List.set_cons_succ])
      refine wpAnyH_take (i := 4) (v := ?_) rfl (by kernel_rfl) (by kernel_rfl) (by kernel_rfl) (fun _ _ _ h => h) (Or.inl ⟨by rfl, ?_⟩) hHeld ?_
      rotate_left
      · intro w' hSw
        skip
        go_simp
        try with_reducible rfl
      try (simp only [Act.put, List.getElem_toArray, List.getElem_cons_succ, List.getElem_cons_zero, List.setIfInBounds_toArray, List.set_cons_zero, List.set_cons_succ])
      refine wpAnyH_take (i := 5) (v := ?_) rfl (by kernel_rfl) (by kernel_rfl) (by kernel_rfl) (fun _ _ _ h => h) (Or.inl ⟨by rfl, ?_⟩) hHeld ?_
      rotate_left
      · intro w' hSw
        skip
        go_simp
        try with_reducible rfl
      try (simp only [Act.put, List.getElem_toArray, List.getElem_cons_succ, List.getElem_cons_zero, List.setIfInBounds_toArray, List.set_cons_zero, List.set_cons_succ])
      refine wpAnyH_take (i := 6) (v := ?_) rfl (by kernel_rfl) (by kernel_rfl) (by kernel_rfl) (fun _ _ _ h => h) (Or.inl ⟨by rfl, ?_⟩) hHeld ?_
      rotate_left
      · intro w' hSw
        skip
        go_simp
        try with_reducible rfl
      try (simp only [Act.put, List.getElem_toArray, List.getElem_cons_succ, List.getElem_cons_zero, List.setIfInBounds_toArray, List.set_cons_zero, List.set_cons_succ])
      refine wpAnyH_take (i := 7) (v := undef) rfl (by kernel_rfl) (by kernel_rfl) (by kernel_rfl) (fun _ _ _ h => h) (Or.inr ⟨by rfl, rfl⟩) hHeld ?_
      try (simp only [Act.put, List.getElem_toArray, List.getElem_cons_succ, List.getElem_cons_zero, List.setIfInBounds_toArray, List.set_cons_zero, List.set_cons_succ])
      refine wpAnyH_take (i := 8) (v := undef) rfl (by kernel_rfl) (by kernel_rfl) (by kernel_rfl) (fun _ _ _ h => h) (Or.inr ⟨by rfl, rfl⟩) hHeld ?_
      try (simp only [Act.put, List.getElem_toArray, List.getElem_cons_succ, List.getElem_cons_zero, List.setIfInBounds_toArray, List.set_cons_zero, List.set_cons_succ])
      refine wpAnyH_take (i := 9) (v := undef) rfl (by kernel_rfl) (by kernel_rfl) (by kernel_rfl) (fun _ _ _ h => h) (Or.inr ⟨by rfl, rfl⟩) hHeld ?_
      try (simp only [Act.put, List.getElem_toArray, List.getElem_cons_succ, List.getElem_cons_zero, List.setIfInBounds_toArray, List.set_cons_zero, List.set_cons_succ])
      refine wpAnyH_take (i := 10) (v := undef) rfl (by kernel_rfl) (by kernel_rfl) (by kernel_rfl) (fun _ _ _ h => h) (Or.inr ⟨by rfl, rfl⟩) hHeld ?_
      try (simp only [Act.put, List.getElem_toArray, List.getElem_cons_succ, List.getElem_cons_zero, List.setIfInBounds_toArray, List.set_cons_zero, List.set_cons_succ])
      refine wpAnyH_take (i := 11) (v := undef) rfl (by kernel_rfl) (by kernel_rfl) (by kernel_rfl) (fun _ _ _ h => h) (Or.inr ⟨by rfl, rfl⟩) hHeld ?_
      try (simp only [Act.put, List.getElem_toArray, List.getElem_cons_succ, List.getElem_cons_zero, List.setIfInBounds_toArray, List.set_cons_zero, List.set_cons_succ])
      refine wpAnyH_take (i := 12) (v := undef) rfl (by kernel_rfl) (by kernel_rfl) (by kernel_rfl) (fun _ _ _ h => h) (Or.inr ⟨by rfl, rfl⟩) hHeld ?_
      try (simp only [Act.put, List.getElem_toArray, List.getElem_cons_succ, List.getElem_cons_zero, List.setIfInBounds_toArray, List.set_cons_zero, List.set_cons_succ])
      refine wpAnyH_take (i := 13) (v := undef) rfl (by kernel_rfl) (by kernel_rfl) (by kernel_rfl) (fun _ _ _ h => h) (Or.inr ⟨by rfl, rfl⟩) hHeld ?_
      try (simp only [Act.put, List.getElem_toArray, List.getElem_cons_succ, List.getElem_cons_zero, List.setIfInBounds_toArray, List.set_cons_zero, List.set_cons_succ])
      refine wpAnyH_take (i := 14) (v := ?_) rfl (by kernel_rfl) (by kernel_rfl) (by kernel_rfl) (fun _ _ _ h => h) (Or.inl ⟨by rfl, ?_⟩) hHeld ?_
      rotate_left
      · intro w' hSw
        skip
        go_simp
        try with_reducible rfl
      try (simp only [Act.put, List.getElem_toArray, List.getElem_cons_succ, List.getElem_cons_zero, List.setIfInBounds_toArray, List.set_cons_zero, List.set_cons_succ])
      refine wpAnyH_take (i := 15) (v := ?_) rfl (by kernel_rfl) (by kernel_rfl) (by kernel_rfl) (fun _ _ _ h => h) (Or.inl ⟨by rfl, ?_⟩) hHeld ?_
      rotate_left
      · intro w' hSw
        skip
        go_simp
        try with_reducible rfl
      try (simp only [Act.put, List.getElem_toArray, List.getElem_cons_succ, List.getElem_cons_zero, List.setIfInBounds_toArray, List.set_cons_zero, List.set_cons_succ])
      refine wpAnyH_take (i := 16) (v := ?_) rfl (by kernel_rfl) (by kernel_rfl) (by kernel_rfl) (fun _ _ _ h => h) (Or.inl ⟨by rfl, ?_⟩) hHeld ?_
      rotate_left
      · intro w' hSw
        skip
        go_simp
        try with_reducible rfl
      try (simp only [Act.put, List.getElem_toArray, List.getElem_cons_succ, List.getElem_cons_zero, List.setIfInBounds_toArray, List.set_cons_zero, List.set_cons_succ])
      refine wpAnyH_take (i := 17) (v := ?_) rfl (by kernel_rfl) (by kernel_rfl) (by kernel_rfl) (fun _ _ _ h => h) (Or.inl ⟨by rfl, ?_⟩) hHeld ?_
      rotate_left
      · intro w' hSw
        skip
        go_simp
        try with_reducible rfl
      try (simp only [Act.put, List.getElem_toArray, List.getElem_cons_succ, List.getElem_cons_zero, List.setIfInBounds_toArray, List.set_cons_zero, List.set_cons_succ])
      refine wpAnyH_take (i := 18) (v := ?_) rfl (by kernel_rfl) (by kernel_rfl) (by kernel_rfl) (fun _ _ _ h => h) (Or.inl ⟨by rfl, ?_⟩) hHeld ?_
      rotate_left
      · intro w' hSw
        skip
        go_simp
        try with_reducible rfl
      try (simp only [Act.put, List.getElem_toArray, List.getElem_cons_succ, List.getElem_cons_zero, List.setIfInBounds_toArray, List.set_cons_zero, List.set_cons_succ])
      refine wpAnyH_take (i := 19) (v := ?_) rfl (by kernel_rfl) (by kernel_rfl) (by kernel_rfl) (fun _ _ _ h => h) (Or.inl ⟨by rfl, ?_⟩) hHeld ?_
      rotate_left
      · intro w' hSw
        skip
        go_simp
        try with_reducible rfl
      try (simp only [Act.put, List.getElem_toArray, List.getElem_cons_succ, List.getElem_cons_zero, List.setIfInBounds_toArray, List.set_cons_zero, List.set_cons_succ])
      refine wpAnyH_take (i := 20) rfl (by kernel_rfl) (by kernel_rfl) (by kernel_rfl) (fun _ _ _ h => h) (yieldsIf_load_mid (by rfl) 33 (.tmp 11) rfl (w4.heap.size) (0) rfl (vipCs v) _ (fun w' hSw => blk_range (Blk.below H11.out hSw H11.out.lt)) Try.underlying33 rfl (vip_szL Hvo.out)) hHeld ?_
      try (simp only [Act.put, List.getElem_toArray, List.getElem_cons_succ, List.getElem_cons_zero, List.setIfInBounds_toArray, List.set_cons_zero, List.set_cons_succ])
      refine wpAnyH_take (i := 21) (v := ?_) rfl (by kernel_rfl) (by kernel_rfl) (by kernel_rfl) (fun _ _ _ h => h) (Or.inl ⟨by rfl, ?_⟩) hHeld ?_
      rotate_left
      · intro w' hSw
        skip
        go_simp
        try with_reducible rfl
      try (simp only [Act.put, List.getElem_toArray, List.getElem_cons_succ, List.getElem_cons_zero, List.setIfInBounds_toArray, List.set_cons_zero, List.set_cons_succ])
      refine wpAnyH_take (i := 22) rfl (by kernel_rfl) (by kernel_rfl) (by kernel_rfl) (fun _ _ _ h => h) (yieldsIf_neqs (by rfl) 33 33 (.tmp 60) (.tmp 61) rfl ((vipCs v).toArray) ((vipCs vip0).toArray) rfl rfl vip_guard true (fun w => vip_eqT Hv0.out Hvo.out w)) hHeld ?_
      try (simp only [Act.put, List.getElem_toArray, List.getElem_cons_succ, List.getElem_cons_zero, List.setIfInBounds_toArray, List.set_cons_zero, List.set_cons_succ])
      refine wpAnyH_take (i := 23) (v := ?_) rfl (by kernel_rfl) (by kernel_rfl) (by kernel_rfl) (fun _ _ _ h => h) (Or.inl ⟨by rfl, ?_⟩) hHeld ?_
      rotate_left
      · intro w' hSw
        skip
        go_simp
        try with_reducible rfl
      try (simp only [Act.put, List.getElem_toArray, List.getElem_cons_succ, List.getElem_cons_zero, List.setIfInBounds_toArray, List.set_cons_zero, List.set_cons_succ])
      refine wpAnyH_take (i := 24) (v := ?_) rfl (by kernel_rfl) (by kernel_rfl) (by kernel_rfl) (fun _ _ _ h => h) (Or.inl ⟨by rfl, ?_⟩) hHeld ?_
      rotate_left
      · intro w' hSw
        skip
        go_simp
        try with_reducible rfl
      try (simp only [Act.put, List.getElem_toArray, List.getElem_cons_succ, List.getElem_cons_zero, List.setIfInBounds_toArray, List.set_cons_zero, List.set_cons_succ])
      refine wpAnyH_take (i := 25) (v := ?_) rfl (by kernel_rfl) (by kernel_rfl) (by kernel_rfl) (fun _ _ _ h => h) (Or.inl ⟨by rfl, ?_⟩) hHeld ?_
      rotate_left
      · intro w' hSw
        skip
        go_simp
        try with_reducible rfl
      try (simp only [Act.put, List.getElem_toArray, List.getElem_cons_succ, List.getElem_cons_zero, List.setIfInBounds_toArray, List.set_cons_zero, List.set_cons_succ])
      refine wpAnyH_take (i := 26) rfl (by kernel_rfl) (by kernel_rfl) (by kernel_rfl) (fun _ _ _ h => h) (yieldsIf_load_mid (by rfl) 27 (.tmp 7) rfl ((w.heap.size + 2)) (0) rfl (addrCs addr) _ (fun w' hSw => blk_range (Blk.below H7.out hSw H7.out.lt)) Try.underlying27 rfl (addr_sz Ha.out)) hHeld ?_
      try (simp only [Act.put, List.getElem_toArray, List.getElem_cons_succ, List.getElem_cons_zero, List.setIfInBounds_toArray, List.set_cons_zero, List.set_cons_succ])
      refine wpAnyH_take (i := 28) rfl (by kernel_rfl) (by kernel_rfl) (by kernel_rfl) (fun _ _ _ h => h) (yieldsIf_load_mid (by rfl) 27 (.tmp 7) rfl ((w.heap.size + 2)) (0) rfl (addrCs addr) _ (fun w' hSw => blk_range (Blk.below H7.out hSw H7.out.lt)) Try.underlying27 rfl (addr_sz Ha.out)) hHeld ?_
      try (simp only [Act.put, List.getElem_toArray, List.getElem_cons_succ, List.getElem_cons_zero, List.setIfInBounds_toArray, List.set_cons_zero, List.set_cons_succ])
      refine wpAnyH_ready (rs := [27]) (by kernel_rfl) (by simp) ?_
      refine AllReadyH.cons (i := 27) rfl (fun K hK => ?_) AllReadyH.nil
      go_simp
      refine (short_any addr Ha.out _).mono ?_
      rintro e w6 ⟨rfl, hb7⟩
      have hBehind : Below w5.heap.size w5 w6 := hHeld.trans (hb7.mono hHeld.size)
      clear hb7
      go_wp2_with fail
      refine hK.out _ _ hBehind (fun hHeld => ?_)
      clear hK K hBehind
      try (simp only [Act.put, List.getElem_toArray, List.getElem_cons_succ, List.getElem_cons_zero, List.setIfInBounds_toArray, List.set_cons_zero, List.set_cons_succ])
      refine wpAnyH_ready (rs := [29]) (by kernel_rfl) (by simp) ?_
      refine AllReadyH.cons (i := 29) rfl (fun K hK => ?_) AllReadyH.nil
      go_simp
      refine (refShort_any addr Ha.out _).mono ?_
      rintro e w7 ⟨rfl, hb7⟩
      have hBehind : Below w5.heap.size w5 w7 := hHeld.trans (hb7.mono hHeld.size)
      clear hb7
      go_wp2_with fail
      refine hK.out _ _ hBehind (fun hHeld => ?_)
      clear hK K hBehind
      try (simp only [Act.put, List.getElem_toArray, List.getElem_cons_succ, List.getElem_cons_zero, List.setIfInBounds_toArray, List.set_cons_zero, List.set_cons_succ])
      refine wpAnyH_take (i := 30) (v := ?_) rfl (by kernel_rfl) (by kernel_rfl) (by kernel_rfl) (fun _ _ _ h => h) (Or.inl ⟨by rfl, ?_⟩) hHeld ?_
      rotate_left
      · intro w' hSw
        skip
        go_simp
        try with_reducible rfl
      try (simp only [Act.put, List.getElem_toArray, List.getElem_cons_succ, List.getElem_cons_zero, List.setIfInBounds_toArray, List.set_cons_zero, List.set_cons_succ])
      refine wpAnyH_take (i := 31) (v := ?_) rfl (by kernel_rfl) (by kernel_rfl) (by kernel_rfl) (fun _ _ _ h => h) (Or.inl ⟨by rfl, ?_⟩) hHeld ?_
      rotate_left
      · intro w' hSw
        skip
        go_simp
        try with_reducible rfl
      try (simp only [Act.put, List.getElem_toArray, List.getElem_cons_succ, List.getElem_cons_zero, List.setIfInBounds_toArray, List.set_cons_zero, List.set_cons_succ])
      refine wpAnyH_done (by kernel_rfl) ?_ _
      refine NoPanic.normal ?_
      go_wp2
      go_meet
      case rel => exact ⟨rfl, Lib.hid hHeld⟩
    case rest =>
      obtain ⟨rfl, Hc⟩ := hcut
      have H5' := Lib.hid (Blk.below H5.out Hc.out H5.out.lt)
      clear H5
      have H5 := H5'
      clear H5'
      have H6' := Lib.hid (Blk.below H6.out Hc.out H6.out.lt)
      clear H6
      have H6 := H6'
      clear H6'
      have H7' := Lib.hid (Blk.below H7.out Hc.out H7.out.lt)
      clear H7
      have H7 := H7'
      clear H7'
      have H11' := Lib.hid (Blk.below H11.out Hc.out H11.out.lt)
      clear H11
      have H11 := H11'
      clear H11'
      have Hv' := Lib.hid ((Hv.out.below Hc.out).more Hc.out.size)
      clear Hv
      have Hv := Hv'
      clear Hv'
      have Hv'' := Lib.hid ((Hv'.out.below Hc.out).more Hc.out.size)
      clear Hv'
      have Hv' := Hv''
      clear Hv''
      have Bw' : Hid (Below w.heap.size w wc) := Bw.out.trans (Hc.out.mono Bw.out.size)
      clear Bw
      have Bw := Bw'
      clear Bw'
      clear Hc
      clear H11
      go_upto_region 7 with fail
      obtain ⟨br, hbr⟩ : ∃ b, b = rightB f := ⟨_, rfl⟩
      obtain ⟨bs, hbs⟩ : ∃ b, b = sameB f g := ⟨_, rfl⟩
      have Hbr := Lib.hid hbr.symm
      have Hbs := Lib.hid hbs.symm
      clear hbr hbs
      refine wp_region_noPanic ?_
      refine wp_region_held_drew (S := fun w' => Below wc.heap.size wc w') (by kernel_rfl) ((Below.refl _ _).drew) (fun hHeld => ?_)
      refine wpAnyH_take (i := 0) rfl (by kernel_rfl) (by kernel_rfl) (by kernel_rfl) (fun _ _ _ h => h) (yieldsIf_load_mid (by rfl) 29 (.tmp 5) rfl (w.heap.size) (0) rfl (confCs A f.vips.length c f) _ (fun w' hSw => blk_range (Blk.below H5.out hSw H5.out.lt)) Try.underlying29 rfl (conf_szL Hs.out)) hHeld ?_
      try (simp only [Act.put, List.getElem_toArray, List.getElem_cons_succ, List.getElem_cons_zero, List.setIfInBounds_toArray, List.set_cons_zero, List.set_cons_succ])
      refine wpAnyH_take (i := 2) rfl (by kernel_rfl) (by kernel_rfl) (by kernel_rfl) (fun _ _ _ h => h) (yieldsIf_load_mid (by rfl) 29 (.tmp 5) rfl (w.heap.size) (0) rfl (confCs A f.vips.length c f) _ (fun w' hSw => blk_range (Blk.below H5.out hSw H5.out.lt)) Try.underlying29 rfl (conf_szL Hs.out)) hHeld ?_
      try (simp only [Act.put, List.getElem_toArray, List.getElem_cons_succ, List.getElem_cons_zero, List.setIfInBounds_toArray, List.set_cons_zero, List.set_cons_succ])
      refine wpAnyH_ready (rs := [1]) (by kernel_rfl) (by simp) ?_
      refine AllReadyH.cons (i := 1) rfl (fun K hK => ?_) AllReadyH.nil
      go_simp
      refine (rightC_is A c f Hs.out _ br Hbr.out hnc ((Hv.out.below hHeld).more hHeld.size) (by omega)).mono ?_
      rintro e w8 ⟨rfl, hb7⟩
      have hBehind : Below wc.heap.size wc w8 := hHeld.trans (hb7.mono hHeld.size)
      clear hb7
      go_wp2_with fail
      refine hK.out _ _ hBehind (fun hHeld => ?_)
      clear hK K hBehind
      try (simp only [Act.put, List.getElem_toArray, List.getElem_cons_succ, List.getElem_cons_zero, List.setIfInBounds_toArray, List.set_cons_zero, List.set_cons_succ])
      refine wpAnyH_ready (rs := [3]) (by kernel_rfl) (by simp) ?_
      refine AllReadyH.cons (i := 3) rfl (fun K hK => ?_) AllReadyH.nil
      go_simp
      refine (rrightC A c f Hs.out _ ((Hv.out.below hHeld).more hHeld.size) (by omega) br Hbr.out).mono ?_
      rintro e w9 ⟨rfl, hb7⟩
      have hBehind : Below wc.heap.size wc w9 := hHeld.trans (hb7.mono hHeld.size)
      clear hb7
      go_wp2_with fail
      refine hK.out _ _ hBehind (fun hHeld => ?_)
      clear hK K hBehind
      try (simp only [Act.put, List.getElem_toArray, List.getElem_cons_succ, List.getElem_cons_zero, List.setIfInBounds_toArray, List.set_cons_zero, List.set_cons_succ])
      refine wpAnyH_take (i := 4) (v := ?_) rfl (by kernel_rfl) (by kernel_rfl) (by kernel_rfl) (fun _ _ _ h => h) (Or.inl ⟨by rfl, ?_⟩) hHeld ?_
      rotate_left
      · intro w' hSw
        skip
        go_simp
        try with_reducible rfl
      try (simp only [Act.put, List.getElem_toArray, List.getElem_cons_succ, List.getElem_cons_zero, List.setIfInBounds_toArray, List.set_cons_zero, List.set_cons_succ])
      refine wpAnyH_take (i := 5) (v := ?_) rfl (by kernel_rfl) (by kernel_rfl) (by kernel_rfl) (fun _ _ _ h => h) (Or.inl ⟨by rfl, ?_⟩) hHeld ?_
      rotate_left
      · intro w' hSw
        skip
        go_simp
        try with_reducible rfl
      try (simp only [Act.put, List.getElem_toArray, List.getElem_cons_succ, List.getElem_cons_zero, List.setIfInBounds_toArray, List.set_cons_zero, List.set_cons_succ])
      refine wpAnyH_take (i := 6) rfl (by kernel_rfl) (by kernel_rfl) (by kernel_rfl) (fun _ _ _ h => h) (yieldsIf_load_mid (by rfl) 29 (.tmp 5) rfl (w.heap.size) (0) rfl (confCs A f.vips.length c f) _ (fun w' hSw => blk_range (Blk.below H5.out hSw H5.out.lt)) Try.underlying29 rfl (conf_szL Hs.out)) hHeld ?_
      try (simp only [Act.put, List.getElem_toArray, List.getElem_cons_succ, List.getElem_cons_zero, List.setIfInBounds_toArray, List.set_cons_zero, List.set_cons_succ])
      refine wpAnyH_take (i := 7) rfl (by kernel_rfl) (by kernel_rfl) (by kernel_rfl) (fun _ _ _ h => h) (yieldsIf_load_mid (by rfl) 29 (.tmp 6) rfl ((w.heap.size + 1)) (0) rfl (confCs A' g.vips.length c' g) _ (fun w' hSw => blk_range (Blk.below H6.out hSw H6.out.lt)) Try.underlying29 rfl (conf_szL Hs'.out)) hHeld ?_
      try (simp only [Act.put, List.getElem_toArray, List.getElem_cons_succ, List.getElem_cons_zero, List.setIfInBounds_toArray, List.set_cons_zero, List.set_cons_succ])
      refine wpAnyH_take (i := 9) rfl (by kernel_rfl) (by kernel_rfl) (by kernel_rfl) (fun _ _ _ h => h) (yieldsIf_load_mid (by rfl) 29 (.tmp 5) rfl (w.heap.size) (0) rfl (confCs A f.vips.length c f) _ (fun w' hSw => blk_range (Blk.below H5.out hSw H5.out.lt)) Try.underlying29 rfl (conf_szL Hs.out)) hHeld ?_
      try (simp only [Act.put, List.getElem_toArray, List.getElem_cons_succ, List.getElem_cons_zero, List.setIfInBounds_toArray, List.set_cons_zero, List.set_cons_succ])
      refine wpAnyH_take (i := 10) rfl (by kernel_rfl) (by kernel_rfl) (by kernel_rfl) (fun _ _ _ h => h) (yieldsIf_load_mid (by rfl) 29 (.tmp 6) rfl ((w.heap.size + 1)) (0) rfl (confCs A' g.vips.length c' g) _ (fun w' hSw => blk_range (Blk.below H6.out hSw H6.out.lt)) Try.underlying29 rfl (conf_szL Hs'.out)) hHeld ?_
      try (simp only [Act.put, List.getElem_toArray, List.getElem_cons_succ, List.getElem_cons_zero, List.setIfInBounds_toArray, List.set_cons_zero, List.set_cons_succ])
      refine wpAnyH_ready (rs := [8]) (by kernel_rfl) (by simp) ?_
      refine AllReadyH.cons (i := 8) rfl (fun K hK => ?_) AllReadyH.nil
      go_simp
      refine (sameC_is A c f Hs.out A' c' g Hs'.out _ bs Hbs.out ((Hv.out.below hHeld).more hHeld.size) ((Hv'.out.below hHeld).more hHeld.size) (by omega) (by omega)).mono ?_
      rintro e w10 ⟨rfl, hb7⟩
      have hBehind : Below wc.heap.size wc w10 := hHeld.trans (hb7.mono hHeld.size)
      clear hb7
      go_wp2_with fail
      refine hK.out _ _ hBehind (fun hHeld => ?_)
      clear hK K hBehind
      try (simp only [Act.put, List.getElem_toArray, List.getElem_cons_succ, List.getElem_cons_zero, List.setIfInBounds_toArray, List.set_cons_zero, List.set_cons_succ])
      refine wpAnyH_ready (rs := [11]) (by kernel_rfl) (by simp) ?_
      refine AllReadyH.cons (i := 11) rfl (fun K hK => ?_) AllReadyH.nil
      go_simp
      refine (rsameC A c f Hs.out A' c' g Hs'.out _ bs Hbs.out ((Hv.out.below hHeld).more hHeld.size) ((Hv'.out.below hHeld).more hHeld.size) (by omega) (by omega)).mono ?_
      rintro e w11 ⟨rfl, hb7⟩
      have hBehind : Below wc.heap.size wc w11 := hHeld.trans (hb7.mono hHeld.size)
      clear hb7
      go_wp2_with fail
      refine hK.out _ _ hBehind (fun hHeld => ?_)
      clear hK K hBehind
      try (simp only [Act.put, List.getElem_toArray, List.getElem_cons_succ, List.getElem_cons_zero, List.setIfInBounds_toArray, List.set_cons_zero, List.set_cons_succ])
      refine wpAnyH_take (i := 12) (v := ?_) rfl (by kernel_rfl) (by kernel_rfl) (by kernel_rfl) (fun _ _ _ h => h) (Or.inl ⟨by rfl, ?_⟩) hHeld ?_
      rotate_left
      · intro w' hSw
        skip
        go_simp
        try with_reducible rfl
      try (simp only [Act.put, List.getElem_toArray, List.getElem_cons_succ, List.getElem_cons_zero, List.setIfInBounds_toArray, List.set_cons_zero, List.set_cons_succ])
      refine wpAnyH_take (i := 13) (v := ?_) rfl (by kernel_rfl) (by kernel_rfl) (by kernel_rfl) (fun _ _ _ h => h) (Or.inl ⟨by rfl, ?_⟩) hHeld ?_
      rotate_left
      · intro w' hSw
        skip
        go_simp
        try with_reducible rfl
      try (simp only [Act.put, List.getElem_toArray, List.getElem_cons_succ, List.getElem_cons_zero, List.setIfInBounds_toArray, List.set_cons_zero, List.set_cons_succ])
      refine wpAnyH_take (i := 14) (v := ?_) rfl (by kernel_rfl) (by kernel_rfl) (by kernel_rfl) (fun _ _ _ h => h) (Or.inl ⟨by rfl, ?_⟩) hHeld ?_
      rotate_left
      · intro w' hSw
        skip
        go_simp
        try with_reducible rfl
      try (simp only [Act.put, List.getElem_toArray, List.getElem_cons_succ, List.getElem_cons_zero, List.setIfInBounds_toArray, List.set_cons_zero, List.set_cons_succ])
      refine wpAnyH_take (i := 15) rfl (by kernel_rfl) (by kernel_rfl) (by kernel_rfl) (fun _ _ _ h => h) (yieldsIf_load_mid (by rfl) 29 (.tmp 5) rfl (w.heap.size) (0) rfl (confCs A f.vips.length c f) _ (fun w' hSw => blk_range (Blk.below H5.out hSw H5.out.lt)) Try.underlying29 rfl (conf_szL Hs.out)) hHeld ?_
      try (simp only [Act.put, List.getElem_toArray, List.getElem_cons_succ, List.getElem_cons_zero, List.setIfInBounds_toArray, List.set_cons_zero, List.set_cons_succ])
      refine wpAnyH_take (i := 16) rfl (by kernel_rfl) (by kernel_rfl) (by kernel_rfl) (fun _ _ _ h => h) (yieldsIf_load_mid (by rfl) 29 (.tmp 5) rfl (w.heap.size) (0) rfl (confCs A f.vips.length c f) _ (fun w' hSw => blk_range (Blk.below H5.out hSw H5.out.lt)) Try.underlying29 rfl (conf_szL Hs.out)) hHeld ?_
      try (simp only [Act.put, List.getElem_toArray, List.getElem_cons_succ, List.getElem_cons_zero, List.setIfInBounds_toArray, List.set_cons_zero, List.set_cons_succ])
      refine wpAnyH_ready (rs := [17]) (by kernel_rfl) (by simp) ?_
      refine AllReadyH.cons (i := 17) rfl (fun K hK => ?_) AllReadyH.nil
      go_simp
      refine (sameC_is A c f Hs.out A c f Hs.out _ true (sameB_iff.2 rfl) ((Hv.out.below hHeld).more hHeld.size) ((Hv.out.below hHeld).more hHeld.size) (by omega) (by omega)).mono ?_
      rintro e w12 ⟨rfl, hb7⟩
      have hBehind : Below wc.heap.size wc w12 := hHeld.trans (hb7.mono hHeld.size)
      clear hb7
      go_wp2_with fail
      refine hK.out _ _ hBehind (fun hHeld => ?_)
      clear hK K hBehind
      try (simp only [Act.put, List.getElem_toArray, List.getElem_cons_succ, List.getElem_cons_zero, List.setIfInBounds_toArray, List.set_cons_zero, List.set_cons_succ])
      refine wpAnyH_take (i := 18) (v := ?_) rfl (by kernel_rfl) (by kernel_rfl) (by kernel_rfl) (fun _ _ _ h => h) (Or.inl ⟨by rfl, ?_⟩) hHeld ?_
      rotate_left
      · intro w' hSw
        skip
        go_simp
        try with_reducible rfl
      try (simp only [Act.put, List.getElem_toArray, List.getElem_cons_succ, List.getElem_cons_zero, List.setIfInBounds_toArray, List.set_cons_zero, List.set_cons_succ])
      refine wpAnyH_take (i := 19) (v := ?_) rfl (by kernel_rfl) (by kernel_rfl) (by kernel_rfl) (fun _ _ _ h => h) (Or.inl ⟨by rfl, ?_⟩) hHeld ?_
      rotate_left
      · intro w' hSw
        skip
        go_simp
        try with_reducible rfl
      try (simp only [Act.put, List.getElem_toArray, List.getElem_cons_succ, List.getElem_cons_zero, List.setIfInBounds_toArray, List.set_cons_zero, List.set_cons_succ])
      refine wpAnyH_done (by kernel_rfl) ?_ _
      refine NoPanic.normal ?_
      have Hend : Hid (Below w.heap.size w w12) := Bw.out.trans (hHeld.mono Bw.out.size)
      go_wp2
      go_ret
      exact ⟨rfl, Hend.out⟩
  · have hil : i < f.vips.length := (List.findIdx?_eq_some_iff_getElem.1 hfi).1
    obtain ⟨v, hv⟩ : ∃ v, f.vips[i]? = some v := ⟨_, List.getElem?_eq_getElem hil⟩
    have Hvo : Hid (addrOk v.1) := Hs.out.vips v (List.mem_of_getElem? hv)
    have Hfind : Hid (vipFind addr proto port f.vips = (v, true)) := by show _ = _; unfold vipFind; rw [hfi]; simp [hv]
    have Hidx : Hid (vipIdx addr proto port f.vips = (i : Int)) := by show _ = _; unfold vipIdx; rw [hfi]
    have Hv? := Lib.hid hv
    have hilI : (i : Int) < (f.vips.length : Int) := by omega
    have hi0 : (0 : Int) ≤ (i : Int) := by omega
    clear hfi hv
    go_enter Try.func3, Try.ntmps3
    go_upto_region 1 with fail
    rw [← HW.out]
    clear HW
    go_wp2_with fail
    refine (awake22 W).mono ?_
    rintro e w1 ⟨rfl, hb14⟩
    have Hb14 := Lib.hid hb14
    clear hb14
    have H5' := Lib.hid (Blk.below H5.out Hb14.out H5.out.lt)
    clear H5
    have H5 := H5'
    clear H5'
    have H6' := Lib.hid (Blk.below H6.out Hb14.out H6.out.lt)
    clear H6
    have H6 := H6'
    clear H6'
    have H7' := Lib.hid (Blk.below H7.out Hb14.out H7.out.lt)
    clear H7
    have H7 := H7'
    clear H7'
    have Hv' := Lib.hid ((Hv.out.below Hb14.out).more Hb14.out.size)
    clear Hv
    have Hv := Hv'
    clear Hv'
    have Hv'' := Lib.hid ((Hv'.out.below Hb14.out).more Hb14.out.size)
    clear Hv'
    have Hv' := Hv''
    clear Hv''
    have Bw' : Hid (Below w.heap.size w w1) := Bw.out.trans (Hb14.out.mono Bw.out.size)
    clear Bw
    have Bw := Bw'
    clear Bw'
    clear Hb14
    have R5 := Lib.hid (blk_range H5.out)
    have R6 := Lib.hid (blk_range H6.out)
    have R7 := Lib.hid (blk_range H7.out)
    go_wp2_with (first
      | ((with_reducible refine gateL 29 ?_); refine wpList_load_g (by rfl) 29 (.tmp 5) rfl w.heap.size 0 rfl (confCs A f.vips.length c f) _ R5.out conf_under rfl (conf_szL Hs.out) ?_)
      | ((with_reducible refine gateL 29 ?_); refine wpList_load_g (by rfl) 29 (.tmp 6) rfl (w.heap.size + 1) 0 rfl (confCs A' g.vips.length c' g) _ R6.out conf_under rfl (conf_szL Hs'.out) ?_)
      | ((with_reducible refine gateL 27 ?_); refine wpList_load_g (by rfl) 27 (.tmp 7) rfl (w.heap.size + 2) 0 rfl (addrCs addr) _ R7.out Try.underlying27 rfl (addr_sz Ha.out) ?_))
    clear R5
    clear R6
    clear R7
    refine (few_yes A f.vips.length c f hf1 w1).mono ?_
    rintro e w2 ⟨rfl, hb15⟩
    have Hb15 := Lib.hid hb15
    clear hb15
    have H5' := Lib.hid (Blk.below H5.out Hb15.out H5.out.lt)
    clear H5
    have H5 := H5'
    clear H5'
    have H6' := Lib.hid (Blk.below H6.out Hb15.out H6.out.lt)
    clear H6
    have H6 := H6'
    clear H6'
    have H7' := Lib.hid (Blk.below H7.out Hb15.out H7.out.lt)
    clear H7
    have H7 := H7'
    clear H7'
    have Hv' := Lib.hid ((Hv.out.below Hb15.out).more Hb15.out.size)
    clear Hv
    have Hv := Hv'
    clear Hv'
    have Hv'' := Lib.hid ((Hv'.out.below Hb15.out).more Hb15.out.size)
    clear Hv'
    have Hv' := Hv''
    clear Hv''
    have Bw' : Hid (Below w.heap.size w w2) := Bw.out.trans (Hb15.out.mono Bw.out.size)
    clear Bw
    have Bw := Bw'
    clear Bw'
    clear Hb15
    have R5 := Lib.hid (blk_range H5.out)
    have R6 := Lib.hid (blk_range H6.out)
    have R7 := Lib.hid (blk_range H7.out)
    go_wp2_with (first
      | ((with_reducible refine gateL 29 ?_); refine wpList_load_g (by rfl) 29 (.tmp 5) rfl w.heap.size 0 rfl (confCs A f.vips.length c f) _ R5.out conf_under rfl (conf_szL Hs.out) ?_)
      | ((with_reducible refine gateL 29 ?_); refine wpList_load_g (by rfl) 29 (.tmp 6) rfl (w.heap.size + 1) 0 rfl (confCs A' g.vips.length c' g) _ R6.out conf_under rfl (conf_szL Hs'.out) ?_)
      | ((with_reducible refine gateL 27 ?_); refine wpList_load_g (by rfl) 27 (.tmp 7) rfl (w.heap.size + 2) 0 rfl (addrCs addr) _ R7.out Try.underlying27 rfl (addr_sz Ha.out) ?_))
    clear R5
    clear R6
    clear R7
    refine (few_yes A' g.vips.length c' g hf2 w2).mono ?_
    rintro e w3 ⟨rfl, hb16⟩
    have Hb16 := Lib.hid hb16
    clear hb16
    have H5' := Lib.hid (Blk.below H5.out Hb16.out H5.out.lt)
    clear H5
    have H5 := H5'
    clear H5'
    have H6' := Lib.hid (Blk.below H6.out Hb16.out H6.out.lt)
    clear H6
    have H6 := H6'
    clear H6'
    have H7' := Lib.hid (Blk.below H7.out Hb16.out H7.out.lt)
    clear H7
    have H7 := H7'
    clear H7'
    have Hv' := Lib.hid ((Hv.out.below Hb16.out).more Hb16.out.size)
    clear Hv
    have Hv := Hv'
    clear Hv'
    have Hv'' := Lib.hid ((Hv'.out.below Hb16.out).more Hb16.out.size)
    clear Hv'
    have Hv' := Hv''
    clear Hv''
    have Bw' : Hid (Below w.heap.size w w3) := Bw.out.trans (Hb16.out.mono Bw.out.size)
    clear Bw
    have Bw := Bw'
    clear Bw'
    clear Hb16
    have R5 := Lib.hid (blk_range H5.out)
    have R6 := Lib.hid (blk_range H6.out)
    have R7 := Lib.hid (blk_range H7.out)
    go_wp2_with (first
      | ((with_reducible refine gateL 29 ?_); refine wpList_load_g (by rfl) 29 (.tmp 5) rfl w.heap.size 0 rfl (confCs A f.vips.length c f) _ R5.out conf_under rfl (conf_szL Hs.out) ?_)
      | ((with_reducible refine gateL 29 ?_); refine wpList_load_g (by rfl) 29 (.tmp 6) rfl (w.heap.size + 1) 0 rfl (confCs A' g.vips.length c' g) _ R6.out conf_under rfl (conf_szL Hs'.out) ?_)
      | ((with_reducible refine gateL 27 ?_); refine wpList_load_g (by rfl) 27 (.tmp 7) rfl (w.heap.size + 2) 0 rfl (addrCs addr) _ R7.out Try.underlying27 rfl (addr_sz Ha.out) ?_))
    clear R5
    clear R6
    clear R7
    refine (vipC A c f Hs.out addr Ha.out proto port w3 Hv.out (by omega) v true Hfind.out).mono ?_
    rintro e w4 ⟨rfl, hb17⟩
    have Hb17 := Lib.hid hb17
    clear hb17
    have H5' := Lib.hid (Blk.below H5.out Hb17.out H5.out.lt)
    clear H5
    have H5 := H5'
    clear H5'
    have H6' := Lib.hid (Blk.below H6.out Hb17.out H6.out.lt)
    clear H6
    have H6 := H6'
    clear H6'
    have H7' := Lib.hid (Blk.below H7.out Hb17.out H7.out.lt)
    clear H7
    have H7 := H7'
    clear H7'
    have Hv' := Lib.hid ((Hv.out.below Hb17.out).more Hb17.out.size)
    clear Hv
    have Hv := Hv'
    clear Hv'
    have Hv'' := Lib.hid ((Hv'.out.below Hb17.out).more Hb17.out.size)
    clear Hv'
    have Hv' := Hv''
    clear Hv''
    have Bw' : Hid (Below w.heap.size w w4) := Bw.out.trans (Hb17.out.mono Bw.out.size)
    clear Bw
    have Bw := Bw'
    clear Bw'
    clear Hb17
    obtain ⟨x18, hx18⟩ : ∃ W, W = w4.alloc (.cells (vipCs vip0).toArray 33) := ⟨_, rfl⟩
    obtain ⟨y18, hy18⟩ : ∃ W, W = x18.setCells w4.heap.size 0 (vipCs v) := ⟨_, rfl⟩
    obtain ⟨hth18, hbx18, hbe18⟩ := boxed w4 x18 y18 33 (vipCs vip0) (vipCs v) (by rw [vipCs_length Hvo.out, vipCs_length (v := vip0) addr0_ok]) hx18 hy18
    rw [vip0_litA] at hx18
    have HX18 := Lib.hid hx18
    have HY18 := Lib.hid hy18
    have Hth18 := Lib.hid hth18
    have Hbe18 := Lib.hid hbe18
    have H11n := Lib.hid hbx18
    clear hx18 hy18 hth18 hbx18 hbe18
    have R5 := Lib.hid (blk_range H5.out)
    have R6 := Lib.hid (blk_range H6.out)
    have R7 := Lib.hid (blk_range H7.out)
    go_upto_region 4 with (first
      | ((with_reducible refine gateL 29 ?_); refine wpList_load_g (by rfl) 29 (.tmp 5) rfl w.heap.size 0 rfl (confCs A f.vips.length c f) _ R5.out conf_under rfl (conf_szL Hs.out) ?_)
      | ((with_reducible refine gateL 29 ?_); refine wpList_load_g (by rfl) 29 (.tmp 6) rfl (w.heap.size + 1) 0 rfl (confCs A' g.vips.length c' g) _ R6.out conf_under rfl (conf_szL Hs'.out) ?_)
      | ((with_reducible refine gateL 27 ?_); refine wpList_load_g (by rfl) 27 (.tmp 7) rfl (w.heap.size + 2) 0 rfl (addrCs addr) _ R7.out Try.underlying27 rfl (addr_sz Ha.out) ?_)
      | (rw [← HX18.out]; (with_reducible refine gateS 33 ?_); refine wpList_store_mid rfl 33 (.tmp 11) (.tmp 33) rfl w4.heap.size 0 (vipCs v).toArray rfl rfl Hth18.out (vip_szA Hvo.out) (vip_one v) ?_))
    clear R5
    clear R6
    clear R7
    rw [← HY18.out]
    clear HX18 HY18 Hth18
    have H5' := Lib.hid (Blk.below H5.out Hbe18.out H5.out.lt)
    clear H5
    have H5 := H5'
    clear H5'
    have H6' := Lib.hid (Blk.below H6.out Hbe18.out H6.out.lt)
    clear H6
    have H6 := H6'
    clear H6'
    have H7' := Lib.hid (Blk.below H7.out Hbe18.out H7.out.lt)
    clear H7
    have H7 := H7'
    clear H7'
    have Hv' := Lib.hid ((Hv.out.below Hbe18.out).more Hbe18.out.size)
    clear Hv
    have Hv := Hv'
    clear Hv'
    have Hv'' := Lib.hid ((Hv'.out.below Hbe18.out).more Hbe18.out.size)
    clear Hv'
    have Hv' := Hv''
    clear Hv''
    have Bw' : Hid (Below w.heap.size w y18) := Bw.out.trans (Hbe18.out.mono Bw.out.size)
    clear Bw
    have Bw := Bw'
    clear Bw'
    have H11 := H11n
    clear H11n Hbe18
    have R5 := Lib.hid (blk_range H5.out)
    have R6 := Lib.hid (blk_range H6.out)
    have R7 := Lib.hid (blk_range H7.out)
    have R11 := Lib.hid (blk_range H11.out)
    go_wp2_with (first
      | ((with_reducible refine gateL 29 ?_); refine wpList_load_g (by rfl) 29 (.tmp 5) rfl w.heap.size 0 rfl (confCs A f.vips.length c f) _ R5.out conf_under rfl (conf_szL Hs.out) ?_)
      | ((with_reducible refine gateL 29 ?_); refine wpList_load_g (by rfl) 29 (.tmp 6) rfl (w.heap.size + 1) 0 rfl (confCs A' g.vips.length c' g) _ R6.out conf_under rfl (conf_szL Hs'.out) ?_)
      | ((with_reducible refine gateL 27 ?_); refine wpList_load_g (by rfl) 27 (.tmp 7) rfl (w.heap.size + 2) 0 rfl (addrCs addr) _ R7.out Try.underlying27 rfl (addr_sz Ha.out) ?_)
      | ((with_reducible refine gateL 33 ?_); refine wpList_load_g (by rfl) 33 (.tmp 11) rfl w4.heap.size 0 rfl (vipCs v) _ R11.out Try.underlying33 rfl (vip_szL Hvo.out) ?_))
    clear R5
    clear R6
    clear R7
    clear R11
    refine (findC A c f Hs.out addr Ha.out proto port y18 Hv.out (by omega) (i : Int) Hidx.out).mono ?_
    rintro e w5 ⟨rfl, hb19⟩
    have Hb19 := Lib.hid hb19
    clear hb19
    have H5' := Lib.hid (Blk.below H5.out Hb19.out H5.out.lt)
    clear H5
    have H5 := H5'
    clear H5'
    have H6' := Lib.hid (Blk.below H6.out Hb19.out H6.out.lt)
    clear H6
    have H6 := H6'
    clear H6'
    have H7' := Lib.hid (Blk.below H7.out Hb19.out H7.out.lt)
    clear H7
    have H7 := H7'
    clear H7'
    have H11' := Lib.hid (Blk.below H11.out Hb19.out H11.out.lt)
    clear H11
    have H11 := H11'
    clear H11'
    have Hv' := Lib.hid ((Hv.out.below Hb19.out).more Hb19.out.size)
    clear Hv
    have Hv := Hv'
    clear Hv'
    have Hv'' := Lib.hid ((Hv'.out.below Hb19.out).more Hb19.out.size)
    clear Hv'
    have Hv' := Hv''
    clear Hv''
    have Bw' : Hid (Below w.heap.size w w5) := Bw.out.trans (Hb19.out.mono Bw.out.size)
    clear Bw
    have Bw := Bw'
    clear Bw'
    clear Hb19
    go_upto_region 5 with fail
    go_cut [71] from 40 to 71 (fun v71 wc => v71 = .bool false ∧ Hid (Below w5.heap.size w5 wc))
    case first =>
      obtain ⟨b1, o1, hA, hbB, hcc⟩ := Hv.out (by omega)
      subst hA
      have Hcc := Lib.hid hcc
      clear hcc
      refine wp_region_noPanic ?_
      refine wp_region_held_drew (S := fun w' => Below w5.heap.size w5 w') (by kernel_rfl) ((Below.refl _ _).drew) (fun hHeld => ?_)
      refine wpAnyH_take (i := 0) (v := ?_) rfl (by kernel_rfl) (by kernel_rfl) (by kernel_rfl) (fun _ _ _ h => h) (Or.inl ⟨by rfl, ?_⟩) hHeld ?_
      rotate_left
      · intro w' hSw
        skip
        go_simp
        try with_reducible rfl
      try (simp only [Act.put, List.getElem_toArray, List.getElem_cons_succ, List.getElem_cons_zero, List.setIfInBounds_toArray, List.set_cons_zero, List.set_cons_succ])
      refine wpAnyH_take (i := 1) (v := ?_) rfl (by kernel_rfl) (by kernel_rfl) (by kernel_rfl) (fun _ _ _ h => h) (Or.inl ⟨by rfl, ?_⟩) hHeld ?_
      rotate_left
      · intro w' hSw
        skip
        go_simp
        try with_reducible rfl
      try (simp only [Act.put, List.getElem_toArray, List.getElem_cons_succ, List.getElem_cons_zero, List.setIfInBounds_toArray, List.set_cons_zero, List.set_cons_succ])
      refine wpAnyH_take (i := 2) (v := ?_) rfl (by kernel_rfl) (by kernel_rfl) (by kernel_rfl) (fun _ _ _ h => h) (Or.inl ⟨by rfl, ?_⟩) hHeld ?_
      rotate_left
      · intro w' hSw
        skip
        go_simp
        try with_reducible rfl
      try (simp only [Act.put, List.getElem_toArray, List.getElem_cons_succ, List.getElem_cons_zero, List.setIfInBounds_toArray, List.set_cons_zero, List.set_cons_succ])
      refine wpAnyH_take (i := 3) (v := ?_) rfl (by kernel_rfl) (by kernel_rfl) (by kernel_rfl) (fun _ _ _ h => h) (Or.inl ⟨by rfl, ?_⟩) hHeld ?_
      rotate_left
      · intro w' hSw
        skip
        go_simp
        try with_reducible rfl
      try (simp only [Act.put, List.getElem_toArray, List.getElem_cons_succ, List.getElem_cons_zero, List.setIfInBounds_toArray, List.set_cons_zero, List.set_cons_succ])
      refine wpAnyH_take (i := 4) (v := ?_) rfl (by kernel_rfl) (by kernel_rfl) (by kernel_rfl) (fun _ _ _ h => h) (Or.inl ⟨by rfl, ?_⟩) hHeld ?_
      rotate_left
      · intro w' hSw
        skip
        go_simp
        try with_reducible rfl
      try (simp only [Act.put, List.getElem_toArray, List.getElem_cons_succ, List.getElem_cons_zero, List.setIfInBounds_toArray, List.set_cons_zero, List.set_cons_succ])
      refine wpAnyH_take (i := 5) (v := ?_) rfl (by kernel_rfl) (by kernel_rfl) (by kernel_rfl) (fun _ _ _ h => h) (Or.inl ⟨by rfl, ?_⟩) hHeld ?_
      rotate_left
      · intro w' hSw
        skip
        go_simp
        try with_reducible rfl
      try (simp only [Act.put, List.getElem_toArray, List.getElem_cons_succ, List.getElem_cons_zero, List.setIfInBounds_toArray, List.set_cons_zero, List.set_cons_succ])
      refine wpAnyH_take (i := 6) (v := ?_) rfl (by kernel_rfl) (by kernel_rfl) (by kernel_rfl) (fun _ _ _ h => h) (Or.inl ⟨by rfl, ?_⟩) hHeld ?_
      rotate_left
      · intro w' hSw
        skip
        go_simp
        try with_reducible rfl
      try (simp only [Act.put, List.getElem_toArray, List.getElem_cons_succ, List.getElem_cons_zero, List.setIfInBounds_toArray, List.set_cons_zero, List.set_cons_succ])
      refine wpAnyH_take (i := 7) rfl (by kernel_rfl) (by kernel_rfl) (by kernel_rfl) (fun _ _ _ h => h) (yieldsIf_load_mid (by rfl) 33 (.tmp 11) rfl (w4.heap.size) (0) rfl (vipCs v) _ (fun w' hSw => blk_range (Blk.below H11.out hSw H11.out.lt)) Try.underlying33 rfl (vip_szL Hvo.out)) hHeld ?_
      try (simp only [Act.put, List.getElem_toArray, List.getElem_cons_succ, List.getElem_cons_zero, List.setIfInBounds_toArray, List.set_cons_zero, List.set_cons_succ])
      refine wpAnyH_take (i := 8) (v := ?_) rfl (by kernel_rfl) (by kernel_rfl) (by kernel_rfl) (fun _ _ _ h => h) (Or.inl ⟨by rfl, ?_⟩) hHeld ?_
      rotate_left
      · intro w' hSw
        skip
        go_simp
        try with_reducible rfl
      try (simp only [Act.put, List.getElem_toArray, List.getElem_cons_succ, List.getElem_cons_zero, List.setIfInBounds_toArray, List.set_cons_zero, List.set_cons_succ])
      refine wpAnyH_take (i := 9) (v := ?_) rfl (by kernel_rfl) (by kernel_rfl) (by kernel_rfl) (fun _ _ _ h => h) (Or.inl ⟨by rfl, ?_⟩) hHeld ?_
      rotate_left
      · intro w' hSw
        have hc0 := cf_c0 (Blk.below H5.out hSw H5.out.lt)
        go_simp
        try with_reducible rfl
      try (simp only [Act.put, List.getElem_toArray, List.getElem_cons_succ, List.getElem_cons_zero, List.setIfInBounds_toArray, List.set_cons_zero, List.set_cons_succ])
      refine wpAnyH_take (i := 10) (v := ?_) rfl (by kernel_rfl) (by kernel_rfl) (by kernel_rfl) (fun _ _ _ h => h) (Or.inl ⟨by rfl, ?_⟩) hHeld ?_
      rotate_left
      · intro w' hSw
        skip
        go_simp
        try with_reducible rfl
      try (simp only [Act.put, List.getElem_toArray, List.getElem_cons_succ, List.getElem_cons_zero, List.setIfInBounds_toArray, List.set_cons_zero, List.set_cons_succ])
      refine wpAnyH_take (i := 11) (v := ?_) rfl (by kernel_rfl) (by kernel_rfl) (by kernel_rfl) (fun _ _ _ h => h) (Or.inl ⟨by rfl, ?_⟩) hHeld ?_
      rotate_left
      · intro w' hSw
        skip
        go_simp
        try with_reducible rfl
      try (simp only [Act.put, List.getElem_toArray, List.getElem_cons_succ, List.getElem_cons_zero, List.setIfInBounds_toArray, List.set_cons_zero, List.set_cons_succ])
      refine wpAnyH_take (i := 12) rfl (by kernel_rfl) (by kernel_rfl) (by kernel_rfl) (fun _ _ _ h => h) (yieldsIf_load_mid (by rfl) 33 (.tmp 51) rfl (b1) (o1 + i * 20) rfl (vipCs v) _ (fun w' hSw j u hu => (hSw.cell (p := ⟨b1, _, none⟩) hbB).trans (Hcc.out i v Hv?.out j u hu)) Try.underlying33 rfl (vip_szL Hvo.out)) hHeld ?_
      try (simp only [Act.put, List.getElem_toArray, List.getElem_cons_succ, List.getElem_cons_zero, List.setIfInBounds_toArray, List.set_cons_zero, List.set_cons_succ])
      refine wpAnyH_take (i := 13) rfl (by kernel_rfl) (by kernel_rfl) (by kernel_rfl) (fun _ _ _ h => h) (yieldsIf_neqs (by rfl) 33 33 (.tmp 47) (.tmp 52) rfl ((vipCs v).toArray) ((vipCs v).toArray) rfl rfl vip_guard true (fun w => vip_eqT rfl Hvo.out w)) hHeld ?_
      try (simp only [Act.put, List.getElem_toArray, List.getElem_cons_succ, List.getElem_cons_zero, List.setIfInBounds_toArray, List.set_cons_zero, List.set_cons_succ])
      refine wpAnyH_take (i := 14) (v := ?_) rfl (by kernel_rfl) (by kernel_rfl) (by kernel_rfl) (fun _ _ _ h => h) (Or.inl ⟨by rfl, ?_⟩) hHeld ?_
      rotate_left
      · intro w' hSw
        skip
        go_simp
        try with_reducible rfl
      try (simp only [Act.put, List.getElem_toArray, List.getElem_cons_succ, List.getElem_cons_zero, List.setIfInBounds_toArray, List.set_cons_zero, List.set_cons_succ])
      refine wpAnyH_take (i := 15) (v := ?_) rfl (by kernel_rfl) (by kernel_rfl) (by kernel_rfl) (fun _ _ _ h => h) (Or.inl ⟨by rfl, ?_⟩) hHeld ?_
      rotate_left
      · intro w' hSw
        skip
        go_simp
        try with_reducible rfl
      try (simp only [Act.put, List.getElem_toArray, List.getElem_cons_succ, List.getElem_cons_zero, List.setIfInBounds_toArray, List.set_cons_zero, List.set_cons_succ])
      refine wpAnyH_take (i := 16) (v := ?_) rfl (by kernel_rfl) (by kernel_rfl) (by kernel_rfl) (fun _ _ _ h => h) (Or.inl ⟨by rfl, ?_⟩) hHeld ?_
      rotate_left
      · intro w' hSw
        skip
        go_simp
        try with_reducible rfl
      try (simp only [Act.put, List.getElem_toArray, List.getElem_cons_succ, List.getElem_cons_zero, List.setIfInBounds_toArray, List.set_cons_zero, List.set_cons_succ])
      refine wpAnyH_take (i := 17) (v := ?_) rfl (by kernel_rfl) (by kernel_rfl) (by kernel_rfl) (fun _ _ _ h => h) (Or.inl ⟨by rfl, ?_⟩) hHeld ?_
      rotate_left
      · intro w' hSw
        skip
        go_simp
        try with_reducible rfl
      try (simp only [Act.put, List.getElem_toArray, List.getElem_cons_succ, List.getElem_cons_zero, List.setIfInBounds_toArray, List.set_cons_zero, List.set_cons_succ])
      refine wpAnyH_take (i := 18) (v := ?_) rfl (by kernel_rfl) (by kernel_rfl) (by kernel_rfl) (fun _ _ _ h => h) (Or.inl ⟨by rfl, ?_⟩) hHeld ?_
      rotate_left
      · intro w' hSw
        skip
        go_simp
        try with_reducible rfl
      try (simp only [Act.put, List.getElem_toArray, List.getElem_cons_succ, List.getElem_cons_zero, List.setIfInBounds_toArray, List.set_cons_zero, List.set_cons_succ])
      refine wpAnyH_take (i := 19) (v := ?_) rfl (by kernel_rfl) (by kernel_rfl) (by kernel_rfl) (fun _ _ _ h => h) (Or.inl ⟨by rfl, ?_⟩) hHeld ?_
      rotate_left
      · intro w' hSw
        skip
        go_simp
        try with_reducible rfl
      try (simp only [Act.put, List.getElem_toArray, List.getElem_cons_succ, List.getElem_cons_zero, List.setIfInBounds_toArray, List.set_cons_zero, List.set_cons_succ])
      refine wpAnyH_take (i := 20) (v := undef) rfl (by kernel_rfl) (by kernel_rfl) (by kernel_rfl) (fun _ _ _ h => h) (Or.inr ⟨by rfl, rfl⟩) hHeld ?_
      try (simp only [Act.put, List.getElem_toArray, List.getElem_cons_succ, List.getElem_cons_zero, List.setIfInBounds_toArray, List.set_cons_zero, List.set_cons_succ])
      refine wpAnyH_take (i := 21) (v := undef) rfl (by kernel_rfl) (by kernel_rfl) (by kernel_rfl) (fun _ _ _ h => h) (Or.inr ⟨by rfl, rfl⟩) hHeld ?_
      try (simp only [Act.put, List.getElem_toArray, List.getElem_cons_succ, List.getElem_cons_zero, List.setIfInBounds_toArray, List.set_cons_zero, List.set_cons_succ])
      refine wpAnyH_take (i := 22) (v := undef) rfl (by kernel_rfl) (by kernel_rfl) (by kernel_rfl) (fun _ _ _ h => h) (Or.inr ⟨by rfl, rfl⟩) hHeld ?_
      try (simp only [Act.put, List.getElem_toArray, List.getElem_cons_succ, List.getElem_cons_zero, List.setIfInBounds_toArray, List.set_cons_zero, List.set_cons_succ])
      refine wpAnyH_take (i := 23) (v := ?_) rfl (by kernel_rfl) (by kernel_rfl) (by kernel_rfl) (fun _ _ _ h => h) (Or.inl ⟨by rfl, ?_⟩) hHeld ?_
      rotate_left
      · intro w' hSw
        skip
        go_simp
        try with_reducible rfl
      try (simp only [Act.put, List.getElem_toArray, List.getElem_cons_succ, List.getElem_cons_zero, List.setIfInBounds_toArray, List.set_cons_zero, List.set_cons_succ])
      refine wpAnyH_take (i := 24) (v := ?_) rfl (by kernel_rfl) (by kernel_rfl) (by kernel_rfl) (fun _ _ _ h => h) (Or.inl ⟨by rfl, ?_⟩) hHeld ?_
      rotate_left
      · intro w' hSw
        skip
        go_simp
        try with_reducible rfl
      try (simp only [Act.put, List.getElem_toArray, List.getElem_cons_succ, List.getElem_cons_zero, List.setIfInBounds_toArray, List.set_cons_zero, List.set_cons_succ])
      refine wpAnyH_take (i := 25) (v := ?_) rfl (by kernel_rfl) (by kernel_rfl) (by kernel_rfl) (fun _ _ _ h => h) (Or.inl ⟨by rfl, ?_⟩) hHeld ?_
      rotate_left
      · intro w' hSw
        skip
        go_simp
        try with_reducible rfl
      try (simp only [Act.put, List.getElem_toArray, List.getElem_cons_succ, List.getElem_cons_zero, List.setIfInBounds_toArray, List.set_cons_zero, List.set_cons_succ])
      refine wpAnyH_take (i := 26) rfl (by kernel_rfl) (by kernel_rfl) (by kernel_rfl) (fun _ _ _ h => h) (yieldsIf_load_mid (by rfl) 27 (.tmp 7) rfl ((w.heap.size + 2)) (0) rfl (addrCs addr) _ (fun w' hSw => blk_range (Blk.below H7.out hSw H7.out.lt)) Try.underlying27 rfl (addr_sz Ha.out)) hHeld ?_
      try (simp only [Act.put, List.getElem_toArray, List.getElem_cons_succ, List.getElem_cons_zero, List.setIfInBounds_toArray, List.set_cons_zero, List.set_cons_succ])
      refine wpAnyH_take (i := 28) rfl (by kernel_rfl) (by kernel_rfl) (by kernel_rfl) (fun _ _ _ h => h) (yieldsIf_load_mid (by rfl) 27 (.tmp 7) rfl ((w.heap.size + 2)) (0) rfl (addrCs addr) _ (fun w' hSw => blk_range (Blk.below H7.out hSw H7.out.lt)) Try.underlying27 rfl (addr_sz Ha.out)) hHeld ?_
      try (simp only [Act.put, List.getElem_toArray, List.getElem_cons_succ, List.getElem_cons_zero, List.setIfInBounds_toArray, List.set_cons_zero, List.set_cons_succ])
      refine wpAnyH_ready (rs := [27]) (by kernel_rfl) (by simp) ?_
      refine AllReadyH.cons (i := 27) rfl (fun K hK => ?_) AllReadyH.nil
      go_simp
      refine (short_any addr Ha.out _).mono ?_
      rintro e w6 ⟨rfl, hb7⟩
      have hBehind : Below w5.heap.size w5 w6 := hHeld.trans (hb7.mono hHeld.size)
      clear hb7
      go_wp2_with fail
      refine hK.out _ _ hBehind (fun hHeld => ?_)
      clear hK K hBehind
      try (simp only [Act.put, List.getElem_toArray, List.getElem_cons_succ, List.getElem_cons_zero, List.setIfInBounds_toArray, List.set_cons_zero, List.set_cons_succ])
      refine wpAnyH_ready (rs := [29]) (by kernel_rfl) (by simp) ?_
      refine AllReadyH.cons (i := 29) rfl (fun K hK => ?_) AllReadyH.nil
      go_simp
      refine (refShort_any addr Ha.out _).mono ?_
      rintro e w7 ⟨rfl, hb7⟩
      have hBehind : Below w5.heap.size w5 w7 := hHeld.trans (hb7.mono hHeld.size)
      clear hb7
      go_wp2_with fail
      refine hK.out _ _ hBehind (fun hHeld => ?_)
      clear hK K hBehind
      try (simp only [Act.put, List.getElem_toArray, List.getElem_cons_succ, List.getElem_cons_zero, List.setIfInBounds_toArray, List.set_cons_zero, List.set_cons_succ])
      refine wpAnyH_take (i := 30) (v := ?_) rfl (by kernel_rfl) (by kernel_rfl) (by kernel_rfl) (fun _ _ _ h => h) (Or.inl ⟨by rfl, ?_⟩) hHeld ?_
      rotate_left
      · intro w' hSw
        skip
        go_simp
        try with_reducible rfl
      try (simp only [Act.put, List.getElem_toArray, List.getElem_cons_succ, List.getElem_cons_zero, List.setIfInBounds_toArray, List.set_cons_zero, List.set_cons_succ])
      refine wpAnyH_take (i := 31) (v := ?_) rfl (by kernel_rfl) (by kernel_rfl) (by kernel_rfl) (fun _ _ _ h => h) (Or.inl ⟨by rfl, ?_⟩) hHeld ?_
      rotate_left
      · intro w' hSw
        skip
        go_simp
        try with_reducible rfl
      try (simp only [Act.put, List.getElem_toArray, List.getElem_cons_succ, List.getElem_cons_zero, List.setIfInBounds_toArray, List.set_cons_zero, List.set_cons_succ])
      refine wpAnyH_done (by kernel_rfl) ?_ _
      refine NoPanic.normal ?_
      go_wp2
      go_meet
      case rel => exact ⟨rfl, Lib.hid hHeld⟩
    case rest =>
      obtain ⟨rfl, Hc⟩ := hcut
      have H5' := Lib.hid (Blk.below H5.out Hc.out H5.out.lt)
      clear H5
      have H5 := H5'
      clear H5'
      have H6' := Lib.hid (Blk.below H6.out Hc.out H6.out.lt)
      clear H6
      have H6 := H6'
      clear H6'
      have H7' := Lib.hid (Blk.below H7.out Hc.out H7.out.lt)
      clear H7
      have H7 := H7'
      clear H7'
      have H11' := Lib.hid (Blk.below H11.out Hc.out H11.out.lt)
      clear H11
      have H11 := H11'
      clear H11'
      have Hv' := Lib.hid ((Hv.out.below Hc.out).more Hc.out.size)
      clear Hv
      have Hv := Hv'
      clear Hv'
      have Hv'' := Lib.hid ((Hv'.out.below Hc.out).more Hc.out.size)
      clear Hv'
      have Hv' := Hv''
      clear Hv''
      have Bw' : Hid (Below w.heap.size w wc) := Bw.out.trans (Hc.out.mono Bw.out.size)
      clear Bw
      have Bw := Bw'
      clear Bw'
      clear Hc
      clear H11
      go_upto_region 7 with fail
      obtain ⟨br, hbr⟩ : ∃ b, b = rightB f := ⟨_, rfl⟩
      obtain ⟨bs, hbs⟩ : ∃ b, b = sameB f g := ⟨_, rfl⟩
      have Hbr := Lib.hid hbr.symm
      have Hbs := Lib.hid hbs.symm
      clear hbr hbs
      refine wp_region_noPanic ?_
      refine wp_region_held_drew (S := fun w' => Below wc.heap.size wc w') (by kernel_rfl) ((Below.refl _ _).drew) (fun hHeld => ?_)
      refine wpAnyH_take (i := 0) rfl (by kernel_rfl) (by kernel_rfl) (by kernel_rfl) (fun _ _ _ h => h) (yieldsIf_load_mid (by rfl) 29 (.tmp 5) rfl (w.heap.size) (0) rfl (confCs A f.vips.length c f) _ (fun w' hSw => blk_range (Blk.below H5.out hSw H5.out.lt)) Try.underlying29 rfl (conf_szL Hs.out)) hHeld ?_
      try (simp only [Act.put, List.getElem_toArray, List.getElem_cons_succ, List.getElem_cons_zero, List.setIfInBounds_toArray, List.set_cons_zero, List.set_cons_succ])
      refine wpAnyH_take (i := 2) rfl (by kernel_rfl) (by kernel_rfl) (by kernel_rfl) (fun _ _ _ h => h) (yieldsIf_load_mid (by rfl) 29 (.tmp 5) rfl (w.heap.size) (0) rfl (confCs A f.vips.length c f) _ (fun w' hSw => blk_range (Blk.below H5.out hSw H5.out.lt)) Try.underlying29 rfl (conf_szL Hs.out)) hHeld ?_
      try (simp only [Act.put, List.getElem_toArray, List.getElem_cons_succ, List.getElem_cons_zero, List.setIfInBounds_toArray, List.set_cons_zero, List.set_cons_succ])
      refine wpAnyH_ready (rs := [1]) (by kernel_rfl) (by simp) ?_
      refine AllReadyH.cons (i := 1) rfl (fun K hK => ?_) AllReadyH.nil
      go_simp
      refine (rightC_is A c f Hs.out _ br Hbr.out hnc ((Hv.out.below hHeld).more hHeld.size) (by omega)).mono ?_
      rintro e w8 ⟨rfl, hb7⟩
      have hBehind : Below wc.heap.size wc w8 := hHeld.trans (hb7.mono hHeld.size)
      clear hb7
      go_wp2_with fail
      refine hK.out _ _ hBehind (fun hHeld => ?_)
      clear hK K hBehind
      try (simp only [Act.put, List.getElem_toArray, List.getElem_cons_succ, List.getElem_cons_zero, List.setIfInBounds_toArray, List.set_cons_zero, List.set_cons_succ])
      refine wpAnyH_ready (rs := [3]) (by kernel_rfl) (by simp) ?_
      refine AllReadyH.cons (i := 3) rfl (fun K hK => ?_) AllReadyH.nil
      go_simp
      refine (rrightC A c f Hs.out _ ((Hv.out.below hHeld).more hHeld.size) (by omega) br Hbr.out).mono ?_
      rintro e w9 ⟨rfl, hb7⟩
      have hBehind : Below wc.heap.size wc w9 := hHeld.trans (hb7.mono hHeld.size)
      clear hb7
      go_wp2_with fail
      refine hK.out _ _ hBehind (fun hHeld => ?_)
      clear hK K hBehind
      try (simp only [Act.put, List.getElem_toArray, List.getElem_cons_succ, List.getElem_cons_zero, List.setIfInBounds_toArray, List.set_cons_zero, List.set_cons_succ])
      refine wpAnyH_take (i := 4) (v := ?_) rfl (by kernel_rfl) (by kernel_rfl) (by kernel_rfl) (fun _ _ _ h => h) (Or.inl ⟨by rfl, ?_⟩) hHeld ?_
      rotate_left
      · intro w' hSw
        skip
        go_simp
        try with_reducible rfl
      try (simp only [Act.put, List.getElem_toArray, List.getElem_cons_succ, List.getElem_cons_zero, List.setIfInBounds_toArray, List.set_cons_zero, List.set_cons_succ])
      refine wpAnyH_take (i := 5) (v := ?_) rfl (by kernel_rfl) (by kernel_rfl) (by kernel_rfl) (fun _ _ _ h => h) (Or.inl ⟨by rfl, ?_⟩) hHeld ?_
      rotate_left
      · intro w' hSw
        skip
        go_simp
        try with_reducible rfl
      try (simp only [Act.put, List.getElem_toArray, List.getElem_cons_succ, List.getElem_cons_zero, List.setIfInBounds_toArray, List.set_cons_zero, List.set_cons_succ])
      refine wpAnyH_take (i := 6) rfl (by kernel_rfl) (by kernel_rfl) (by kernel_rfl) (fun _ _ _ h => h) (yieldsIf_load_mid (by rfl) 29 (.tmp 5) rfl (w.heap.size) (0) rfl (confCs A f.vips.length c f) _ (fun w' hSw => blk_range (Blk.below H5.out hSw H5.out.lt)) Try.underlying29 rfl (conf_szL Hs.out)) hHeld ?_
      try (simp only [Act.put, List.getElem_toArray, List.getElem_cons_succ, List.getElem_cons_zero, List.setIfInBounds_toArray, List.set_cons_zero, List.set_cons_succ])
      refine wpAnyH_take (i := 7) rfl (by kernel_rfl) (by kernel_rfl) (by kernel_rfl) (fun _ _ _ h => h) (yieldsIf_load_mid (by rfl) 29 (.tmp 6) rfl ((w.heap.size + 1)) (0) rfl (confCs A' g.vips.length c' g) _ (fun w' hSw => blk_range (Blk.below H6.out hSw H6.out.lt)) Try.underlying29 rfl (conf_szL Hs'.out)) hHeld ?_
      try (simp only [Act.put, List.getElem_toArray, List.getElem_cons_succ, List.getElem_cons_zero, List.setIfInBounds_toArray, List.set_cons_zero, List.set_cons_succ])
      refine wpAnyH_take (i := 9) rfl (by kernel_rfl) (by kernel_rfl) (by kernel_rfl) (fun _ _ _ h => h) (yieldsIf_load_mid (by rfl) 29 (.tmp 5) rfl (w.heap.size) (0) rfl (confCs A f.vips.length c f) _ (fun w' hSw => blk_range (Blk.below H5.out hSw H5.out.lt)) Try.underlying29 rfl (conf_szL Hs.out)) hHeld ?_
      try (simp only [Act.put, List.getElem_toArray, List.getElem_cons_succ, List.getElem_cons_zero, List.setIfInBounds_toArray, List.set_cons_zero, List.set_cons_succ])
      refine wpAnyH_take (i := 10) rfl (by kernel_rfl) (by kernel_rfl) (by kernel_rfl) (fun _ _ _ h => h) (yieldsIf_load_mid (by rfl) 29 (.tmp 6) rfl ((w.heap.size + 1)) (0) rfl (confCs A' g.vips.length c' g) _ (fun w' hSw => blk_range (Blk.below H6.out hSw H6.out.lt)) Try.underlying29 rfl (conf_szL Hs'.out)) hHeld ?_
      try (simp only [Act.put, List.getElem_toArray, List.getElem_cons_succ, List.getElem_cons_zero, List.setIfInBounds_toArray, List.set_cons_zero, List.set_cons_succ])
      refine wpAnyH_ready (rs := [8]) (by kernel_rfl) (by simp) ?_
      refine AllReadyH.cons (i := 8) rfl (fun K hK => ?_) AllReadyH.nil
      go_simp
      refine (sameC_is A c f Hs.out A' c' g Hs'.out _ bs Hbs.out ((Hv.out.below hHeld).more hHeld.size) ((Hv'.out.below hHeld).more hHeld.size) (by omega) (by omega)).mono ?_
      rintro e w10 ⟨rfl, hb7⟩
      have hBehind : Below wc.heap.size wc w10 := hHeld.trans (hb7.mono hHeld.size)
      clear hb7
      go_wp2_with fail
      refine hK.out _ _ hBehind (fun hHeld => ?_)
      clear hK K hBehind
      try (simp only [Act.put, List.getElem_toArray, List.getElem_cons_succ, List.getElem_cons_zero, List.setIfInBounds_toArray, List.set_cons_zero, List.set_cons_succ])
      refine wpAnyH_ready (rs := [11]) (by kernel_rfl) (by simp) ?_
      refine AllReadyH.cons (i := 11) rfl (fun K hK => ?_) AllReadyH.nil
      go_simp
      refine (rsameC A c f Hs.out A' c' g Hs'.out _ bs Hbs.out ((Hv.out.below hHeld).more hHeld.size) ((Hv'.out.below hHeld).more hHeld.size) (by omega) (by omega)).mono ?_
      rintro e w11 ⟨rfl, hb7⟩
      have hBehind : Below wc.heap.size wc w11 := hHeld.trans (hb7.mono hHeld.size)
      clear hb7
      go_wp2_with fail
      refine hK.out _ _ hBehind (fun hHeld => ?_)
      clear hK K hBehind
      try (simp only [Act.put, List.getElem_toArray, List.getElem_cons_succ, List.getElem_cons_zero, List.setIfInBounds_toArray, List.set_cons_zero, List.set_cons_succ])
      refine wpAnyH_take (i := 12) (v := ?_) rfl (by kernel_rfl) (by kernel_rfl) (by kernel_rfl) (fun _ _ _ h => h) (Or.inl ⟨by rfl, ?_⟩) hHeld ?_
      rotate_left
      · intro w' hSw
        skip
        go_simp
        try with_reducible rfl
      try (simp only [Act.put, List.getElem_toArray, List.getElem_cons_succ, List.getElem_cons_zero, List.setIfInBounds_toArray, List.set_cons_zero, List.set_cons_succ])
      refine wpAnyH_take (i := 13) (v := ?_) rfl (by kernel_rfl) (by kernel_rfl) (by kernel_rfl) (fun _ _ _ h => h) (Or.inl ⟨by rfl, ?_⟩) hHeld ?_
      rotate_left
      · intro w' hSw
        skip
        go_simp
        try with_reducible rfl
      try (simp only [Act.put, List.getElem_toArray, List.getElem_cons_succ, List.getElem_cons_zero, List.setIfInBounds_toArray, List.set_cons_zero, List.set_cons_succ])
      refine wpAnyH_take (i := 14) (v := ?_) rfl (by kernel_rfl) (by kernel_rfl) (by kernel_rfl) (fun _ _ _ h => h) (Or.inl ⟨by rfl, ?_⟩) hHeld ?_
      rotate_left
      · intro w' hSw
        skip
        go_simp
        try with_reducible rfl
      try (simp only [Act.put, List.getElem_toArray, List.getElem_cons_succ, List.getElem_cons_zero, List.setIfInBounds_toArray, List.set_cons_zero, List.set_cons_succ])
      refine wpAnyH_take (i := 15) rfl (by kernel_rfl) (by kernel_rfl) (by kernel_rfl) (fun _ _ _ h => h) (yieldsIf_load_mid (by rfl) 29 (.tmp 5) rfl (w.heap.size) (0) rfl (confCs A f.vips.length c f) _ (fun w' hSw => blk_range (Blk.below H5.out hSw H5.out.lt)) Try.underlying29 rfl (conf_szL Hs.out)) hHeld ?_
      try (simp only [Act.put, List.getElem_toArray, List.getElem_cons_succ, List.getElem_cons_zero, List.setIfInBounds_toArray, List.set_cons_zero, List.set_cons_succ])
      refine wpAnyH_take (i := 16) rfl (by kernel_rfl) (by kernel_rfl) (by kernel_rfl) (fun _ _ _ h => h) (yieldsIf_load_mid (by rfl) 29 (.tmp 5) rfl (w.heap.size) (0) rfl (confCs A f.vips.length c f) _ (fun w' hSw => blk_range (Blk.below H5.out hSw H5.out.lt)) Try.underlying29 rfl (conf_szL Hs.out)) hHeld ?_
      try (simp only [Act.put, List.getElem_toArray, List.getElem_cons_succ, List.getElem_cons_zero, List.setIfInBounds_toArray, List.set_cons_zero, List.set_cons_succ])
      refine wpAnyH_ready (rs := [17]) (by kernel_rfl) (by simp) ?_
      refine AllReadyH.cons (i := 17) rfl (fun K hK => ?_) AllReadyH.nil
      go_simp
      refine (sameC_is A c f Hs.out A c f Hs.out _ true (sameB_iff.2 rfl) ((Hv.out.below hHeld).more hHeld.size) ((Hv.out.below hHeld).more hHeld.size) (by omega) (by omega)).mono ?_
      rintro e w12 ⟨rfl, hb7⟩
      have hBehind : Below wc.heap.size wc w12 := hHeld.trans (hb7.mono hHeld.size)
      clear hb7
      go_wp2_with fail
      refine hK.out _ _ hBehind (fun hHeld => ?_)
      clear hK K hBehind
      try (simp only [Act.put, List.getElem_toArray, List.getElem_cons_succ, List.getElem_cons_zero, List.setIfInBounds_toArray, List.set_cons_zero, List.set_cons_succ])
      refine wpAnyH_take (i := 18) (v := ?_) rfl (by kernel_rfl) (by kernel_rfl) (by kernel_rfl) (fun _ _ _ h => h) (Or.inl ⟨by rfl, ?_⟩) hHeld ?_
      rotate_left
      · intro w' hSw
        skip
        go_simp
        try with_reducible rfl
      try (simp only [Act.put, List.getElem_toArray, List.getElem_cons_succ, List.getElem_cons_zero, List.setIfInBounds_toArray, List.set_cons_zero, List.set_cons_succ])
      refine wpAnyH_take (i := 19) (v := ?_) rfl (by kernel_rfl) (by kernel_rfl) (by kernel_rfl) (fun _ _ _ h => h) (Or.inl ⟨by rfl, ?_⟩) hHeld ?_
      rotate_left
      · intro w' hSw
        skip
        go_simp
        try with_reducible rfl
      try (simp only [Act.put, List.getElem_toArray, List.getElem_cons_succ, List.getElem_cons_zero, List.setIfInBounds_toArray, List.set_cons_zero, List.set_cons_succ])
      refine wpAnyH_done (by kernel_rfl) ?_ _
      refine NoPanic.normal ?_
      have Hend : Hid (Below w.heap.size w w12) := Bw.out.trans (hHeld.mono Bw.out.size)
      go_wp2
      go_ret
      exact ⟨rfl, Hend.out⟩
end Go.Proofs.Ytmkeljcjhcaigaa
