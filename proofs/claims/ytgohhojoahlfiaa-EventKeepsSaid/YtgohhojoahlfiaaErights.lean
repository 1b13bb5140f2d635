/- EventRights: whether an event may be, whether its act is plain, whether both are alike (printed by gen_erights.py). -/
import Derived.Test.YtgohhojoahlfiaaEofl
import Derived.Test.YtgohhojoahlfiaaEvRr
namespace Go.Proofs.Ytgohhojoahlfiaa
open Go.RowKit
set_option linter.unusedVariables false
set_option linter.unusedSimpArgs false

theorem rrightE (A : Option Addr) (c : Nat) (A2 : Option Addr) (c2 : Nat) (a : EvP) (ha0 : EvShape a) (w : World) (hf : BS w w.heap.size A a.act.frame) (r : Bool) (hr : rightEB a = r) :
    Calls Try.prog 13 #[.agg (evCs A a.act.frame.length c A2 a.o.out.length c2 a).toArray] w fun e w' => e = .returned (.bool r) ∧ Below w.heap.size w w' := by
  subst hr
  exact refRightE_any A c A2 c2 a ha0 w hf
set_option maxHeartbeats 1000000 in
set_option maxRecDepth 100000 in
theorem walk_eventRights (w : World) (A : Option Addr) (c : Nat) (A2 : Option Addr) (c2 : Nat) (a : EvP) (hc : a.act.frame.length ≤ c) (hb : BS w w.heap.size A a.act.frame) (hc2 : a.o.out.length ≤ c2) (hb2 : BS w w.heap.size A2 a.o.out) (hs : EvShape a) (hw : EvWf a)
    (A' : Option Addr) (c' : Nat) (A2' : Option Addr) (c2' : Nat) (b : EvP) (hc' : b.act.frame.length ≤ c') (hb' : BS w w.heap.size A' b.act.frame) (hc2' : b.o.out.length ≤ c2') (hb2' : BS w w.heap.size A2' b.o.out) (hs' : EvShape b) (hw' : EvWf b) :
    Calls Try.prog 3 #[.agg (evCs A a.act.frame.length c A2 a.o.out.length c2 a).toArray, .agg (evCs A' b.act.frame.length c' A2' b.o.out.length c2' b).toArray] w fun e w' => e = .returned (.bool true) ∧ Below w.heap.size w w' := by
  obtain ⟨W0, hW⟩ : ∃ W, W = (w.alloc (.cells (evCs A a.act.frame.length c A2 a.o.out.length c2 a).toArray 39)).alloc (.cells (evCs A' b.act.frame.length c' A2' b.o.out.length c2' b).toArray 39) := ⟨_, rfl⟩
  have H2 : Hid (Blk W0 w.heap.size 39 (evCs A a.act.frame.length c A2 a.o.out.length c2 a).toArray) := by rw [hW]; exact Blk.alloc (Blk.new w _ _ _ rfl) _
  have H3 : Hid (Blk W0 (w.heap.size + 1) 39 (evCs A' b.act.frame.length c' A2' b.o.out.length c2' b).toArray) := by rw [hW]; exact Blk.new _ _ _ _ (by simp)
  have hB : Below w.heap.size w W0 := by rw [hW]; exact ((Below.refl _ _).alloc (Nat.le_refl _) _).alloc (by simp) _
  have Bw := Lib.hid hB
  have Hf := Lib.hid ((hb.below hB).more hB.size)
  have Ho := Lib.hid ((hb2.below hB).more hB.size)
  have Hf' := Lib.hid ((hb'.below hB).more hB.size)
  have Ho' := Lib.hid ((hb2'.below hB).more hB.size)
  have Hs := Lib.hid hs
  have Hs' := Lib.hid hs'
  have HW := Lib.hid hW
  clear hW hB hb hb2 hs hb' hb2' hs' hw hw'
  rcases hf1 : fewEB a with _ | _
  · go_enter Try.func3, Try.ntmps3
    go_upto_region 1 with fail
    rw [← HW.out]
    clear HW
    go_wp2_with fail
    refine (awake28 W0).mono ?_
    rintro e w1 ⟨rfl, hb1⟩
    have Hb1 := Lib.hid hb1
    clear hb1
    have H2' := Lib.hid (Blk.below H2.out Hb1.out H2.out.lt)
    clear H2
    have H2 := H2'
    clear H2'
    have H3' := Lib.hid (Blk.below H3.out Hb1.out H3.out.lt)
    clear H3
    have H3 := H3'
    clear H3'
    have Hf' := Lib.hid ((Hf.out.below Hb1.out).more Hb1.out.size)
    clear Hf
    have Hf := Hf'
    clear Hf'
    have Ho' := Lib.hid ((Ho.out.below Hb1.out).more Hb1.out.size)
    clear Ho
    have Ho := Ho'
    clear Ho'
    have Hf'' := Lib.hid ((Hf'.out.below Hb1.out).more Hb1.out.size)
    clear Hf'
    have Hf' := Hf''
    clear Hf''
    have Ho'' := Lib.hid ((Ho'.out.below Hb1.out).more Hb1.out.size)
    clear Ho'
    have Ho' := Ho''
    clear Ho''
    have Bw' : Hid (Below w.heap.size w w1) := Bw.out.trans (Hb1.out.mono Bw.out.size)
    clear Bw
    have Bw := Bw'
    clear Bw'
    clear Hb1
    have R2 := Lib.hid (blk_range H2.out)
    have R3 := Lib.hid (blk_range H3.out)
    go_wp2_with (first
      | ((with_reducible refine gateL 39 ?_); refine wpList_load_g (by rfl) 39 (.tmp 2) rfl w.heap.size 0 rfl (evCs A a.act.frame.length c A2 a.o.out.length c2 a) _ R2.out ev_under rfl (ev_sz Hs.out) ?_)
      | ((with_reducible refine gateL 39 ?_); refine wpList_load_g (by rfl) 39 (.tmp 3) rfl (w.heap.size + 1) 0 rfl (evCs A' b.act.frame.length c' A2' b.o.out.length c2' b) _ R3.out ev_under rfl (ev_sz Hs'.out) ?_))
    clear R2
    clear R3
    refine (fewE_is A _ c A2 _ c2 a Hs.out rfl rfl w1 false hf1).mono ?_
    rintro e w2 ⟨rfl, hb2⟩
    have Hb2 := Lib.hid hb2
    clear hb2
    have H2' := Lib.hid (Blk.below H2.out Hb2.out H2.out.lt)
    clear H2
    have H2 := H2'
    clear H2'
    have H3' := Lib.hid (Blk.below H3.out Hb2.out H3.out.lt)
    clear H3
    have H3 := H3'
    clear H3'
    have Hf' := Lib.hid ((Hf.out.below Hb2.out).more Hb2.out.size)
    clear Hf
    have Hf := Hf'
    clear Hf'
    have Ho' := Lib.hid ((Ho.out.below Hb2.out).more Hb2.out.size)
    clear Ho
    have Ho := Ho'
    clear Ho'
    have Hf'' := Lib.hid ((Hf'.out.below Hb2.out).more Hb2.out.size)
    clear Hf'
    have Hf' := Hf''
    clear Hf''
    have Ho'' := Lib.hid ((Ho'.out.below Hb2.out).more Hb2.out.size)
    clear Ho'
    have Ho' := Ho''
    clear Ho''
    have Bw' : Hid (Below w.heap.size w w2) := Bw.out.trans (Hb2.out.mono Bw.out.size)
    clear Bw
    have Bw := Bw'
    clear Bw'
    clear Hb2
    go_wp2_with fail
    refine (awake28 w2).mono ?_
    rintro e wz ⟨rfl, hb3⟩
    have Hb3 := Lib.hid hb3
    clear hb3
    have H2' := Lib.hid (Blk.below H2.out Hb3.out H2.out.lt)
    clear H2
    have H2 := H2'
    clear H2'
    have H3' := Lib.hid (Blk.below H3.out Hb3.out H3.out.lt)
    clear H3
    have H3 := H3'
    clear H3'
    have Hf' := Lib.hid ((Hf.out.below Hb3.out).more Hb3.out.size)
    clear Hf
    have Hf := Hf'
    clear Hf'
    have Ho' := Lib.hid ((Ho.out.below Hb3.out).more Hb3.out.size)
    clear Ho
    have Ho := Ho'
    clear Ho'
    have Hf'' := Lib.hid ((Hf'.out.below Hb3.out).more Hb3.out.size)
    clear Hf'
    have Hf' := Hf''
    clear Hf''
    have Ho'' := Lib.hid ((Ho'.out.below Hb3.out).more Hb3.out.size)
    clear Ho'
    have Ho' := Ho''
    clear Ho''
    have Bw' : Hid (Below w.heap.size w wz) := Bw.out.trans (Hb3.out.mono Bw.out.size)
    clear Bw
    have Bw := Bw'
    clear Bw'
    clear Hb3
    go_wp2
    go_ret
    exact ⟨rfl, Bw.out⟩
  · rcases hf2 : fewEB b with _ | _
    · go_enter Try.func3, Try.ntmps3
      go_upto_region 1 with fail
      rw [← HW.out]
      clear HW
      go_wp2_with fail
      refine (awake28 W0).mono ?_
      rintro e w1 ⟨rfl, hb4⟩
      have Hb4 := Lib.hid hb4
      clear hb4
      have H2' := Lib.hid (Blk.below H2.out Hb4.out H2.out.lt)
      clear H2
      have H2 := H2'
      clear H2'
      have H3' := Lib.hid (Blk.below H3.out Hb4.out H3.out.lt)
      clear H3
      have H3 := H3'
      clear H3'
      have Hf' := Lib.hid ((Hf.out.below Hb4.out).more Hb4.out.size)
      clear Hf
      have Hf := Hf'
      clear Hf'
      have Ho' := Lib.hid ((Ho.out.below Hb4.out).more Hb4.out.size)
      clear Ho
      have Ho := Ho'
      clear Ho'
      have Hf'' := Lib.hid ((Hf'.out.below Hb4.out).more Hb4.out.size)
      clear Hf'
      have Hf' := Hf''
      clear Hf''
      have Ho'' := Lib.hid ((Ho'.out.below Hb4.out).more Hb4.out.size)
      clear Ho'
      have Ho' := Ho''
      clear Ho''
      have Bw' : Hid (Below w.heap.size w w1) := Bw.out.trans (Hb4.out.mono Bw.out.size)
      clear Bw
      have Bw := Bw'
      clear Bw'
      clear Hb4
      have R2 := Lib.hid (blk_range H2.out)
      have R3 := Lib.hid (blk_range H3.out)
      go_wp2_with (first
        | ((with_reducible refine gateL 39 ?_); refine wpList_load_g (by rfl) 39 (.tmp 2) rfl w.heap.size 0 rfl (evCs A a.act.frame.length c A2 a.o.out.length c2 a) _ R2.out ev_under rfl (ev_sz Hs.out) ?_)
        | ((with_reducible refine gateL 39 ?_); refine wpList_load_g (by rfl) 39 (.tmp 3) rfl (w.heap.size + 1) 0 rfl (evCs A' b.act.frame.length c' A2' b.o.out.length c2' b) _ R3.out ev_under rfl (ev_sz Hs'.out) ?_))
      clear R2
      clear R3
      refine (fewE_is A _ c A2 _ c2 a Hs.out rfl rfl w1 true hf1).mono ?_
      rintro e w2 ⟨rfl, hb5⟩
      have Hb5 := Lib.hid hb5
      clear hb5
      have H2' := Lib.hid (Blk.below H2.out Hb5.out H2.out.lt)
      clear H2
      have H2 := H2'
      clear H2'
      have H3' := Lib.hid (Blk.below H3.out Hb5.out H3.out.lt)
      clear H3
      have H3 := H3'
      clear H3'
      have Hf' := Lib.hid ((Hf.out.below Hb5.out).more Hb5.out.size)
      clear Hf
      have Hf := Hf'
      clear Hf'
      have Ho' := Lib.hid ((Ho.out.below Hb5.out).more Hb5.out.size)
      clear Ho
      have Ho := Ho'
      clear Ho'
      have Hf'' := Lib.hid ((Hf'.out.below Hb5.out).more Hb5.out.size)
      clear Hf'
      have Hf' := Hf''
      clear Hf''
      have Ho'' := Lib.hid ((Ho'.out.below Hb5.out).more Hb5.out.size)
      clear Ho'
      have Ho' := Ho''
      clear Ho''
      have Bw' : Hid (Below w.heap.size w w2) := Bw.out.trans (Hb5.out.mono Bw.out.size)
      clear Bw
      have Bw := Bw'
      clear Bw'
      clear Hb5
      have R2 := Lib.hid (blk_range H2.out)
      have R3 := Lib.hid (blk_range H3.out)
      go_wp2_with (first
        | ((with_reducible refine gateL 39 ?_); refine wpList_load_g (by rfl) 39 (.tmp 2) rfl w.heap.size 0 rfl (evCs A a.act.frame.length c A2 a.o.out.length c2 a) _ R2.out ev_under rfl (ev_sz Hs.out) ?_)
        | ((with_reducible refine gateL 39 ?_); refine wpList_load_g (by rfl) 39 (.tmp 3) rfl (w.heap.size + 1) 0 rfl (evCs A' b.act.frame.length c' A2' b.o.out.length c2' b) _ R3.out ev_under rfl (ev_sz Hs'.out) ?_))
      clear R2
      clear R3
      refine (fewE_is A' _ c' A2' _ c2' b Hs'.out rfl rfl w2 false hf2).mono ?_
      rintro e w3 ⟨rfl, hb6⟩
      have Hb6 := Lib.hid hb6
      clear hb6
      have H2' := Lib.hid (Blk.below H2.out Hb6.out H2.out.lt)
      clear H2
      have H2 := H2'
      clear H2'
      have H3' := Lib.hid (Blk.below H3.out Hb6.out H3.out.lt)
      clear H3
      have H3 := H3'
      clear H3'
      have Hf' := Lib.hid ((Hf.out.below Hb6.out).more Hb6.out.size)
      clear Hf
      have Hf := Hf'
      clear Hf'
      have Ho' := Lib.hid ((Ho.out.below Hb6.out).more Hb6.out.size)
      clear Ho
      have Ho := Ho'
      clear Ho'
      have Hf'' := Lib.hid ((Hf'.out.below Hb6.out).more Hb6.out.size)
      clear Hf'
      have Hf' := Hf''
      clear Hf''
      have Ho'' := Lib.hid ((Ho'.out.below Hb6.out).more Hb6.out.size)
      clear Ho'
      have Ho' := Ho''
      clear Ho''
      have Bw' : Hid (Below w.heap.size w w3) := Bw.out.trans (Hb6.out.mono Bw.out.size)
      clear Bw
      have Bw := Bw'
      clear Bw'
      clear Hb6
      go_wp2_with fail
      refine (awake28 w3).mono ?_
      rintro e wz ⟨rfl, hb7⟩
      have Hb7 := Lib.hid hb7
      clear hb7
      have H2' := Lib.hid (Blk.below H2.out Hb7.out H2.out.lt)
      clear H2
      have H2 := H2'
      clear H2'
      have H3' := Lib.hid (Blk.below H3.out Hb7.out H3.out.lt)
      clear H3
      have H3 := H3'
      clear H3'
      have Hf' := Lib.hid ((Hf.out.below Hb7.out).more Hb7.out.size)
      clear Hf
      have Hf := Hf'
      clear Hf'
      have Ho' := Lib.hid ((Ho.out.below Hb7.out).more Hb7.out.size)
      clear Ho
      have Ho := Ho'
      clear Ho'
      have Hf'' := Lib.hid ((Hf'.out.below Hb7.out).more Hb7.out.size)
      clear Hf'
      have Hf' := Hf''
      clear Hf''
      have Ho'' := Lib.hid ((Ho'.out.below Hb7.out).more Hb7.out.size)
      clear Ho'
      have Ho' := Ho''
      clear Ho''
      have Bw' : Hid (Below w.heap.size w wz) := Bw.out.trans (Hb7.out.mono Bw.out.size)
      clear Bw
      have Bw := Bw'
      clear Bw'
      clear Hb7
      go_wp2
      go_ret
      exact ⟨rfl, Bw.out⟩
    · go_enter Try.func3, Try.ntmps3
      go_upto_region 1 with fail
      rw [← HW.out]
      clear HW
      go_wp2_with fail
      refine (awake28 W0).mono ?_
      rintro e w1 ⟨rfl, hb8⟩
      have Hb8 := Lib.hid hb8
      clear hb8
      have H2' := Lib.hid (Blk.below H2.out Hb8.out H2.out.lt)
      clear H2
      have H2 := H2'
      clear H2'
      have H3' := Lib.hid (Blk.below H3.out Hb8.out H3.out.lt)
      clear H3
      have H3 := H3'
      clear H3'
      have Hf' := Lib.hid ((Hf.out.below Hb8.out).more Hb8.out.size)
      clear Hf
      have Hf := Hf'
      clear Hf'
      have Ho' := Lib.hid ((Ho.out.below Hb8.out).more Hb8.out.size)
      clear Ho
      have Ho := Ho'
      clear Ho'
      have Hf'' := Lib.hid ((Hf'.out.below Hb8.out).more Hb8.out.size)
      clear Hf'
      have Hf' := Hf''
      clear Hf''
      have Ho'' := Lib.hid ((Ho'.out.below Hb8.out).more Hb8.out.size)
      clear Ho'
      have Ho' := Ho''
      clear Ho''
      have Bw' : Hid (Below w.heap.size w w1) := Bw.out.trans (Hb8.out.mono Bw.out.size)
      clear Bw
      have Bw := Bw'
      clear Bw'
      clear Hb8
      have R2 := Lib.hid (blk_range H2.out)
      have R3 := Lib.hid (blk_range H3.out)
      go_wp2_with (first
        | ((with_reducible refine gateL 39 ?_); refine wpList_load_g (by rfl) 39 (.tmp 2) rfl w.heap.size 0 rfl (evCs A a.act.frame.length c A2 a.o.out.length c2 a) _ R2.out ev_under rfl (ev_sz Hs.out) ?_)
        | ((with_reducible refine gateL 39 ?_); refine wpList_load_g (by rfl) 39 (.tmp 3) rfl (w.heap.size + 1) 0 rfl (evCs A' b.act.frame.length c' A2' b.o.out.length c2' b) _ R3.out ev_under rfl (ev_sz Hs'.out) ?_))
      clear R2
      clear R3
      refine (fewE_is A _ c A2 _ c2 a Hs.out rfl rfl w1 true hf1).mono ?_
      rintro e w2 ⟨rfl, hb9⟩
      have Hb9 := Lib.hid hb9
      clear hb9
      have H2' := Lib.hid (Blk.below H2.out Hb9.out H2.out.lt)
      clear H2
      have H2 := H2'
      clear H2'
      have H3' := Lib.hid (Blk.below H3.out Hb9.out H3.out.lt)
      clear H3
      have H3 := H3'
      clear H3'
      have Hf' := Lib.hid ((Hf.out.below Hb9.out).more Hb9.out.size)
      clear Hf
      have Hf := Hf'
      clear Hf'
      have Ho' := Lib.hid ((Ho.out.below Hb9.out).more Hb9.out.size)
      clear Ho
      have Ho := Ho'
      clear Ho'
      have Hf'' := Lib.hid ((Hf'.out.below Hb9.out).more Hb9.out.size)
      clear Hf'
      have Hf' := Hf''
      clear Hf''
      have Ho'' := Lib.hid ((Ho'.out.below Hb9.out).more Hb9.out.size)
      clear Ho'
      have Ho' := Ho''
      clear Ho''
      have Bw' : Hid (Below w.heap.size w w2) := Bw.out.trans (Hb9.out.mono Bw.out.size)
      clear Bw
      have Bw := Bw'
      clear Bw'
      clear Hb9
      have R2 := Lib.hid (blk_range H2.out)
      have R3 := Lib.hid (blk_range H3.out)
      go_wp2_with (first
        | ((with_reducible refine gateL 39 ?_); refine wpList_load_g (by rfl) 39 (.tmp 2) rfl w.heap.size 0 rfl (evCs A a.act.frame.length c A2 a.o.out.length c2 a) _ R2.out ev_under rfl (ev_sz Hs.out) ?_)
        | ((with_reducible refine gateL 39 ?_); refine wpList_load_g (by rfl) 39 (.tmp 3) rfl (w.heap.size + 1) 0 rfl (evCs A' b.act.frame.length c' A2' b.o.out.length c2' b) _ R3.out ev_under rfl (ev_sz Hs'.out) ?_))
      clear R2
      clear R3
      refine (fewE_is A' _ c' A2' _ c2' b Hs'.out rfl rfl w2 true hf2).mono ?_
      rintro e w3 ⟨rfl, hb10⟩
      have Hb10 := Lib.hid hb10
      clear hb10
      have H2' := Lib.hid (Blk.below H2.out Hb10.out H2.out.lt)
      clear H2
      have H2 := H2'
      clear H2'
      have H3' := Lib.hid (Blk.below H3.out Hb10.out H3.out.lt)
      clear H3
      have H3 := H3'
      clear H3'
      have Hf' := Lib.hid ((Hf.out.below Hb10.out).more Hb10.out.size)
      clear Hf
      have Hf := Hf'
      clear Hf'
      have Ho' := Lib.hid ((Ho.out.below Hb10.out).more Hb10.out.size)
      clear Ho
      have Ho := Ho'
      clear Ho'
      have Hf'' := Lib.hid ((Hf'.out.below Hb10.out).more Hb10.out.size)
      clear Hf'
      have Hf' := Hf''
      clear Hf''
      have Ho'' := Lib.hid ((Ho'.out.below Hb10.out).more Hb10.out.size)
      clear Ho'
      have Ho' := Ho''
      clear Ho''
      have Bw' : Hid (Below w.heap.size w w3) := Bw.out.trans (Hb10.out.mono Bw.out.size)
      clear Bw
      have Bw := Bw'
      clear Bw'
      clear Hb10
      obtain ⟨r1, hr1⟩ : ∃ r, rightEB a = r := ⟨_, rfl⟩
      obtain ⟨r2, hr2⟩ : ∃ r, plainB a.act = r := ⟨_, rfl⟩
      obtain ⟨r3, hr3⟩ : ∃ r, sameEvB a b = r := ⟨_, rfl⟩
      have R1 := Lib.hid hr1
      have R2 := Lib.hid hr2
      have R3 := Lib.hid hr3
      clear hr1 hr2 hr3
      go_upto_region 3 with fail
      refine wp_region_noPanic ?_
      refine wp_region_held_drew (S := fun w' => Below w3.heap.size w3 w') (by kernel_rfl) ((Below.refl _ _).drew) (fun hHeld => ?_)
      refine wpAnyH_take (i := 0) rfl (by kernel_rfl) (by kernel_rfl) (by kernel_rfl) (fun _ _ _ h => h) (yieldsIf_load_mid (by rfl) 39 (.tmp 2) rfl (w.heap.size) (0) rfl (evCs A a.act.frame.length c A2 a.o.out.length c2 a) _ (fun w' hSw => blk_range (Blk.below H2.out hSw H2.out.lt)) Try.underlying39 rfl (ev_sz Hs.out)) hHeld ?_
      try (simp only [Act.put, List.getElem_toArray, List.getElem_cons_succ, List.getElem_cons_zero, List.setIfInBounds_toArray, List.set_cons_zero, List.set_cons_succ])
      refine wpAnyH_take (i := 2) rfl (by kernel_rfl) (by kernel_rfl) (by kernel_rfl) (fun _ _ _ h => h) (yieldsIf_load_mid (by rfl) 39 (.tmp 2) rfl (w.heap.size) (0) rfl (evCs A a.act.frame.length c A2 a.o.out.length c2 a) _ (fun w' hSw => blk_range (Blk.below H2.out hSw H2.out.lt)) Try.underlying39 rfl (ev_sz Hs.out)) hHeld ?_
      try (simp only [Act.put, List.getElem_toArray, List.getElem_cons_succ, List.getElem_cons_zero, List.setIfInBounds_toArray, List.set_cons_zero, List.set_cons_succ])
      refine wpAnyH_ready (rs := [1]) (by kernel_rfl) (by simp) ?_
      refine AllReadyH.cons (i := 1) rfl (fun K hK => ?_) AllReadyH.nil
      go_simp
      refine (erightE A c A2 c2 a Hs.out _ ((Hf.out.below hHeld).more hHeld.size) r1 R1.out).mono ?_
      rintro e wq1 ⟨rfl, hbq⟩
      have hBehind : Below w3.heap.size w3 wq1 := hHeld.trans (hbq.mono hHeld.size)
      clear hbq
      go_wp2_with fail
      refine hK.out _ _ hBehind (fun hHeld => ?_)
      clear hK K hBehind
      try (simp only [Act.put, List.getElem_toArray, List.getElem_cons_succ, List.getElem_cons_zero, List.setIfInBounds_toArray, List.set_cons_zero, List.set_cons_succ])
      refine wpAnyH_ready (rs := [3]) (by kernel_rfl) (by simp) ?_
      refine AllReadyH.cons (i := 3) rfl (fun K hK => ?_) AllReadyH.nil
      go_simp
      refine (rrightE A c A2 c2 a Hs.out _ ((Hf.out.below hHeld).more hHeld.size) r1 R1.out).mono ?_
      rintro e wq2 ⟨rfl, hbq⟩
      have hBehind : Below w3.heap.size w3 wq2 := hHeld.trans (hbq.mono hHeld.size)
      clear hbq
      go_wp2_with fail
      refine hK.out _ _ hBehind (fun hHeld => ?_)
      clear hK K hBehind
      try (simp only [Act.put, List.getElem_toArray, List.getElem_cons_succ, List.getElem_cons_zero, List.setIfInBounds_toArray, List.set_cons_zero, List.set_cons_succ])
      refine wpAnyH_take (i := 4) (v := ?_) rfl (by kernel_rfl) (by kernel_rfl) (by kernel_rfl) (fun _ _ _ h => h) (Or.inl ⟨by rfl, ?_⟩) hHeld ?_
      rotate_left
      · intro w' hSw
        have er : (r1 == r1) = true := beq_self_eq_true r1
        go_simp
        try with_reducible rfl
      try (simp only [Act.put, List.getElem_toArray, List.getElem_cons_succ, List.getElem_cons_zero, List.setIfInBounds_toArray, List.set_cons_zero, List.set_cons_succ])
      refine wpAnyH_take (i := 5) (v := ?_) rfl (by kernel_rfl) (by kernel_rfl) (by kernel_rfl) (fun _ _ _ h => h) (Or.inl ⟨by rfl, ?_⟩) hHeld ?_
      rotate_left
      · intro w' hSw
        skip
        go_simp
        try with_reducible rfl
      try (simp only [Act.put, List.getElem_toArray, List.getElem_cons_succ, List.getElem_cons_zero, List.setIfInBounds_toArray, List.set_cons_zero, List.set_cons_succ])
      refine wpAnyH_take (i := 6) (v := ?_) rfl (by kernel_rfl) (by kernel_rfl) (by kernel_rfl) (fun _ _ _ h => h) (Or.inl ⟨by rfl, ?_⟩) hHeld ?_
      rotate_left
      · intro w' hSw
        skip
        go_simp
        try with_reducible rfl
      try (simp only [Act.put, List.getElem_toArray, List.getElem_cons_succ, List.getElem_cons_zero, List.setIfInBounds_toArray, List.set_cons_zero, List.set_cons_succ])
      refine wpAnyH_take (i := 7) rfl (by kernel_rfl) (by kernel_rfl) (by kernel_rfl) (fun _ _ _ h => h) (yieldsIf_load_mid (by rfl) 33 (.tmp 24) rfl (w.heap.size) (0) rfl (actCs A a.act.frame.length c a.act) _ (fun w' hSw => ce_act (Blk.below H2.out hSw H2.out.lt) Hs.out) Try.underlying33 rfl (act_sz Hs.out.act)) hHeld ?_
      try (simp only [Act.put, List.getElem_toArray, List.getElem_cons_succ, List.getElem_cons_zero, List.setIfInBounds_toArray, List.set_cons_zero, List.set_cons_succ])
      refine wpAnyH_take (i := 9) (v := ?_) rfl (by kernel_rfl) (by kernel_rfl) (by kernel_rfl) (fun _ _ _ h => h) (Or.inl ⟨by rfl, ?_⟩) hHeld ?_
      rotate_left
      · intro w' hSw
        skip
        go_simp
        try with_reducible rfl
      try (simp only [Act.put, List.getElem_toArray, List.getElem_cons_succ, List.getElem_cons_zero, List.setIfInBounds_toArray, List.set_cons_zero, List.set_cons_succ])
      refine wpAnyH_take (i := 10) rfl (by kernel_rfl) (by kernel_rfl) (by kernel_rfl) (fun _ _ _ h => h) (yieldsIf_load_mid (by rfl) 33 (.tmp 27) rfl (w.heap.size) (0) rfl (actCs A a.act.frame.length c a.act) _ (fun w' hSw => ce_act (Blk.below H2.out hSw H2.out.lt) Hs.out) Try.underlying33 rfl (act_sz Hs.out.act)) hHeld ?_
      try (simp only [Act.put, List.getElem_toArray, List.getElem_cons_succ, List.getElem_cons_zero, List.setIfInBounds_toArray, List.set_cons_zero, List.set_cons_succ])
      refine wpAnyH_ready (rs := [8]) (by kernel_rfl) (by simp) ?_
      refine AllReadyH.cons (i := 8) rfl (fun K hK => ?_) AllReadyH.nil
      go_simp
      refine (eplainE A c a.act Hs.out.act _ ((Hf.out.below hHeld).more hHeld.size) r2 R2.out).mono ?_
      rintro e wq3 ⟨rfl, hbq⟩
      have hBehind : Below w3.heap.size w3 wq3 := hHeld.trans (hbq.mono hHeld.size)
      clear hbq
      go_wp2_with fail
      refine hK.out _ _ hBehind (fun hHeld => ?_)
      clear hK K hBehind
      try (simp only [Act.put, List.getElem_toArray, List.getElem_cons_succ, List.getElem_cons_zero, List.setIfInBounds_toArray, List.set_cons_zero, List.set_cons_succ])
      refine wpAnyH_ready (rs := [11]) (by kernel_rfl) (by simp) ?_
      refine AllReadyH.cons (i := 11) rfl (fun K hK => ?_) AllReadyH.nil
      go_simp
      refine (rplainE A _ c a.act Hs.out.act rfl _ ((Hf.out.below hHeld).more hHeld.size) r2 R2.out).mono ?_
      rintro e wq4 ⟨rfl, hbq⟩
      have hBehind : Below w3.heap.size w3 wq4 := hHeld.trans (hbq.mono hHeld.size)
      clear hbq
      go_wp2_with fail
      refine hK.out _ _ hBehind (fun hHeld => ?_)
      clear hK K hBehind
      try (simp only [Act.put, List.getElem_toArray, List.getElem_cons_succ, List.getElem_cons_zero, List.setIfInBounds_toArray, List.set_cons_zero, List.set_cons_succ])
      refine wpAnyH_take (i := 12) (v := ?_) rfl (by kernel_rfl) (by kernel_rfl) (by kernel_rfl) (fun _ _ _ h => h) (Or.inl ⟨by rfl, ?_⟩) hHeld ?_
      rotate_left
      · intro w' hSw
        have er : (r2 == r2) = true := beq_self_eq_true r2
        go_simp
        try with_reducible rfl
      try (simp only [Act.put, List.getElem_toArray, List.getElem_cons_succ, List.getElem_cons_zero, List.setIfInBounds_toArray, List.set_cons_zero, List.set_cons_succ])
      refine wpAnyH_take (i := 13) (v := ?_) rfl (by kernel_rfl) (by kernel_rfl) (by kernel_rfl) (fun _ _ _ h => h) (Or.inl ⟨by rfl, ?_⟩) hHeld ?_
      rotate_left
      · intro w' hSw
        skip
        go_simp
        try with_reducible rfl
      try (simp only [Act.put, List.getElem_toArray, List.getElem_cons_succ, List.getElem_cons_zero, List.setIfInBounds_toArray, List.set_cons_zero, List.set_cons_succ])
      refine wpAnyH_take (i := 14) (v := ?_) rfl (by kernel_rfl) (by kernel_rfl) (by kernel_rfl) (fun _ _ _ h => h) (Or.inl ⟨by rfl, ?_⟩) hHeld ?_
      rotate_left
      · intro w' hSw
        skip
        go_simp
        try with_reducible rfl
      try (simp only [Act.put, List.getElem_toArray, List.getElem_cons_succ, List.getElem_cons_zero, List.setIfInBounds_toArray, List.set_cons_zero, List.set_cons_succ])
      refine wpAnyH_take (i := 15) rfl (by kernel_rfl) (by kernel_rfl) (by kernel_rfl) (fun _ _ _ h => h) (yieldsIf_load_mid (by rfl) 39 (.tmp 2) rfl (w.heap.size) (0) rfl (evCs A a.act.frame.length c A2 a.o.out.length c2 a) _ (fun w' hSw => blk_range (Blk.below H2.out hSw H2.out.lt)) Try.underlying39 rfl (ev_sz Hs.out)) hHeld ?_
      try (simp only [Act.put, List.getElem_toArray, List.getElem_cons_succ, List.getElem_cons_zero, List.setIfInBounds_toArray, List.set_cons_zero, List.set_cons_succ])
      refine wpAnyH_take (i := 16) rfl (by kernel_rfl) (by kernel_rfl) (by kernel_rfl) (fun _ _ _ h => h) (yieldsIf_load_mid (by rfl) 39 (.tmp 3) rfl ((w.heap.size + 1)) (0) rfl (evCs A' b.act.frame.length c' A2' b.o.out.length c2' b) _ (fun w' hSw => blk_range (Blk.below H3.out hSw H3.out.lt)) Try.underlying39 rfl (ev_sz Hs'.out)) hHeld ?_
      try (simp only [Act.put, List.getElem_toArray, List.getElem_cons_succ, List.getElem_cons_zero, List.setIfInBounds_toArray, List.set_cons_zero, List.set_cons_succ])
      refine wpAnyH_take (i := 18) rfl (by kernel_rfl) (by kernel_rfl) (by kernel_rfl) (fun _ _ _ h => h) (yieldsIf_load_mid (by rfl) 39 (.tmp 2) rfl (w.heap.size) (0) rfl (evCs A a.act.frame.length c A2 a.o.out.length c2 a) _ (fun w' hSw => blk_range (Blk.below H2.out hSw H2.out.lt)) Try.underlying39 rfl (ev_sz Hs.out)) hHeld ?_
      try (simp only [Act.put, List.getElem_toArray, List.getElem_cons_succ, List.getElem_cons_zero, List.setIfInBounds_toArray, List.set_cons_zero, List.set_cons_succ])
      refine wpAnyH_take (i := 19) rfl (by kernel_rfl) (by kernel_rfl) (by kernel_rfl) (fun _ _ _ h => h) (yieldsIf_load_mid (by rfl) 39 (.tmp 3) rfl ((w.heap.size + 1)) (0) rfl (evCs A' b.act.frame.length c' A2' b.o.out.length c2' b) _ (fun w' hSw => blk_range (Blk.below H3.out hSw H3.out.lt)) Try.underlying39 rfl (ev_sz Hs'.out)) hHeld ?_
      try (simp only [Act.put, List.getElem_toArray, List.getElem_cons_succ, List.getElem_cons_zero, List.setIfInBounds_toArray, List.set_cons_zero, List.set_cons_succ])
      refine wpAnyH_ready (rs := [17]) (by kernel_rfl) (by simp) ?_
      refine AllReadyH.cons (i := 17) rfl (fun K hK => ?_) AllReadyH.nil
      go_simp
      refine (esameE A c A2 c2 a A' c' A2' c2' b Hs.out Hs'.out _ ((Hf.out.below hHeld).more hHeld.size) ((Hf'.out.below hHeld).more hHeld.size) ((Ho.out.below hHeld).more hHeld.size) ((Ho'.out.below hHeld).more hHeld.size) r3 R3.out).mono ?_
      rintro e wq5 ⟨rfl, hbq⟩
      have hBehind : Below w3.heap.size w3 wq5 := hHeld.trans (hbq.mono hHeld.size)
      clear hbq
      go_wp2_with fail
      refine hK.out _ _ hBehind (fun hHeld => ?_)
      clear hK K hBehind
      try (simp only [Act.put, List.getElem_toArray, List.getElem_cons_succ, List.getElem_cons_zero, List.setIfInBounds_toArray, List.set_cons_zero, List.set_cons_succ])
      refine wpAnyH_ready (rs := [20]) (by kernel_rfl) (by simp) ?_
      refine AllReadyH.cons (i := 20) rfl (fun K hK => ?_) AllReadyH.nil
      go_simp
      refine (rsameE A c A2 c2 a A' c' A2' c2' b Hs.out Hs'.out _ ((Hf.out.below hHeld).more hHeld.size) ((Hf'.out.below hHeld).more hHeld.size) ((Ho.out.below hHeld).more hHeld.size) ((Ho'.out.below hHeld).more hHeld.size) r3 R3.out).mono ?_
      rintro e wq6 ⟨rfl, hbq⟩
      have hBehind : Below w3.heap.size w3 wq6 := hHeld.trans (hbq.mono hHeld.size)
      clear hbq
      go_wp2_with fail
      refine hK.out _ _ hBehind (fun hHeld => ?_)
      clear hK K hBehind
      try (simp only [Act.put, List.getElem_toArray, List.getElem_cons_succ, List.getElem_cons_zero, List.setIfInBounds_toArray, List.set_cons_zero, List.set_cons_succ])
      refine wpAnyH_take (i := 21) (v := ?_) rfl (by kernel_rfl) (by kernel_rfl) (by kernel_rfl) (fun _ _ _ h => h) (Or.inl ⟨by rfl, ?_⟩) hHeld ?_
      rotate_left
      · intro w' hSw
        have er : (r3 == r3) = true := beq_self_eq_true r3
        go_simp
        try with_reducible rfl
      try (simp only [Act.put, List.getElem_toArray, List.getElem_cons_succ, List.getElem_cons_zero, List.setIfInBounds_toArray, List.set_cons_zero, List.set_cons_succ])
      refine wpAnyH_take (i := 22) (v := ?_) rfl (by kernel_rfl) (by kernel_rfl) (by kernel_rfl) (fun _ _ _ h => h) (Or.inl ⟨by rfl, ?_⟩) hHeld ?_
      rotate_left
      · intro w' hSw
        skip
        go_simp
        try with_reducible rfl
      try (simp only [Act.put, List.getElem_toArray, List.getElem_cons_succ, List.getElem_cons_zero, List.setIfInBounds_toArray, List.set_cons_zero, List.set_cons_succ])
      refine wpAnyH_take (i := 23) (v := ?_) rfl (by kernel_rfl) (by kernel_rfl) (by kernel_rfl) (fun _ _ _ h => h) (Or.inl ⟨by rfl, ?_⟩) hHeld ?_
      rotate_left
      · intro w' hSw
        skip
        go_simp
        try with_reducible rfl
      try (simp only [Act.put, List.getElem_toArray, List.getElem_cons_succ, List.getElem_cons_zero, List.setIfInBounds_toArray, List.set_cons_zero, List.set_cons_succ])
      refine wpAnyH_take (i := 24) rfl (by kernel_rfl) (by kernel_rfl) (by kernel_rfl) (fun _ _ _ h => h) (yieldsIf_load_mid (by rfl) 39 (.tmp 2) rfl (w.heap.size) (0) rfl (evCs A a.act.frame.length c A2 a.o.out.length c2 a) _ (fun w' hSw => blk_range (Blk.below H2.out hSw H2.out.lt)) Try.underlying39 rfl (ev_sz Hs.out)) hHeld ?_
      try (simp only [Act.put, List.getElem_toArray, List.getElem_cons_succ, List.getElem_cons_zero, List.setIfInBounds_toArray, List.set_cons_zero, List.set_cons_succ])
      refine wpAnyH_take (i := 25) rfl (by kernel_rfl) (by kernel_rfl) (by kernel_rfl) (fun _ _ _ h => h) (yieldsIf_load_mid (by rfl) 39 (.tmp 2) rfl (w.heap.size) (0) rfl (evCs A a.act.frame.length c A2 a.o.out.length c2 a) _ (fun w' hSw => blk_range (Blk.below H2.out hSw H2.out.lt)) Try.underlying39 rfl (ev_sz Hs.out)) hHeld ?_
      try (simp only [Act.put, List.getElem_toArray, List.getElem_cons_succ, List.getElem_cons_zero, List.setIfInBounds_toArray, List.set_cons_zero, List.set_cons_succ])
      refine wpAnyH_ready (rs := [26]) (by kernel_rfl) (by simp) ?_
      refine AllReadyH.cons (i := 26) rfl (fun K hK => ?_) AllReadyH.nil
      go_simp
      refine (esameE A c A2 c2 a A c A2 c2 a Hs.out Hs.out _ ((Hf.out.below hHeld).more hHeld.size) ((Hf.out.below hHeld).more hHeld.size) ((Ho.out.below hHeld).more hHeld.size) ((Ho.out.below hHeld).more hHeld.size) true (sameEv_self a)).mono ?_
      rintro e wq7 ⟨rfl, hbq⟩
      have hBehind : Below w3.heap.size w3 wq7 := hHeld.trans (hbq.mono hHeld.size)
      clear hbq
      go_wp2_with fail
      refine hK.out _ _ hBehind (fun hHeld => ?_)
      clear hK K hBehind
      try (simp only [Act.put, List.getElem_toArray, List.getElem_cons_succ, List.getElem_cons_zero, List.setIfInBounds_toArray, List.set_cons_zero, List.set_cons_succ])
      refine wpAnyH_take (i := 27) (v := ?_) rfl (by kernel_rfl) (by kernel_rfl) (by kernel_rfl) (fun _ _ _ h => h) (Or.inl ⟨by rfl, ?_⟩) hHeld ?_
      rotate_left
      · intro w' hSw
        skip
        go_simp
        try with_reducible rfl
      try (simp only [Act.put, List.getElem_toArray, List.getElem_cons_succ, List.getElem_cons_zero, List.setIfInBounds_toArray, List.set_cons_zero, List.set_cons_succ])
      refine wpAnyH_take (i := 28) (v := ?_) rfl (by kernel_rfl) (by kernel_rfl) (by kernel_rfl) (fun _ _ _ h => h) (Or.inl ⟨by rfl, ?_⟩) hHeld ?_
      rotate_left
      · intro w' hSw
        skip
        go_simp
        try with_reducible rfl
      try (simp only [Act.put, List.getElem_toArray, List.getElem_cons_succ, List.getElem_cons_zero, List.setIfInBounds_toArray, List.set_cons_zero, List.set_cons_succ])
      refine wpAnyH_done (by kernel_rfl) ?_ _
      refine NoPanic.normal ?_
      go_wp2
      go_ret
      exact ⟨rfl, Bw.out.trans (hHeld.mono Bw.out.size)⟩
end Go.Proofs.Ytgohhojoahlfiaa
