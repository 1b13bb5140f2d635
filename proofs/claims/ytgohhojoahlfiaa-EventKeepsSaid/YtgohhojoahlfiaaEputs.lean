/- EventPuts: of whatever event: its bytes, or that it has none (printed by gen_eputs.py). -/
import Derived.Test.YtgohhojoahlfiaaErights
import Derived.Test.YtgohhojoahlfiaaEvPu
namespace Go.Proofs.Ytgohhojoahlfiaa
open Go.RowKit
set_option linter.unusedVariables false
set_option linter.unusedSimpArgs false

theorem rputE_is (A : Option Addr) (c : Nat) (A2 : Option Addr) (c2 : Nat) (e : EvP) (hs0 : EvShape e) (hr : rightEB e = true) (w : World) (hf0 : BS w w.heap.size A e.act.frame) (m : List UInt8) (hm : evBytes e = m) :
    Calls Try.prog 21 #[.agg (evCs A e.act.frame.length c A2 e.o.out.length c2 e).toArray] w fun x w' => ∃ A' c', x = .returned (.slice A' m.length c') ∧ BS w' w'.heap.size A' m ∧ Below w.heap.size w w' := by
  subst hm
  refine (rputE_any A c A2 c2 e hs0 hr w hf0).mono ?_
  rintro x w' ⟨A', c', h1, h2, h3⟩
  exact ⟨A', c', h1, (BS.of_own h2).1, h3.below (Nat.le_refl _)⟩
set_option maxHeartbeats 1000000 in
set_option maxRecDepth 100000 in
theorem walk_eventPuts (w : World) (A : Option Addr) (c : Nat) (A2 : Option Addr) (c2 : Nat) (a : EvP) (hc : a.act.frame.length ≤ c) (hb : BS w w.heap.size A a.act.frame) (hc2 : a.o.out.length ≤ c2) (hb2 : BS w w.heap.size A2 a.o.out) (hs : EvShape a) (hw : EvWf a) :
    Calls Try.prog 5 #[.agg (evCs A a.act.frame.length c A2 a.o.out.length c2 a).toArray] w fun e w' => e = .returned (.bool true) ∧ Below w.heap.size w w' := by
  obtain ⟨W0, hW⟩ : ∃ W, W = w.alloc (.cells (evCs A a.act.frame.length c A2 a.o.out.length c2 a).toArray 39) := ⟨_, rfl⟩
  have H1 : Hid (Blk W0 w.heap.size 39 (evCs A a.act.frame.length c A2 a.o.out.length c2 a).toArray) := by rw [hW]; exact Blk.new w _ _ _ rfl
  have hB : Below w.heap.size w W0 := by rw [hW]; exact (Below.refl _ _).alloc (Nat.le_refl _) _
  have Bw := Lib.hid hB
  have Hf := Lib.hid ((hb.below hB).more hB.size)
  have Hs := Lib.hid hs
  have HW := Lib.hid hW
  clear hW hB hb hb2 hs hw
  rcases hf1 : fewEB a with _ | _
  · go_enter Try.func5, Try.ntmps5
    go_upto_region 1 with fail
    rw [← HW.out]
    clear HW
    go_wp2_with fail
    refine (awake28 W0).mono ?_
    rintro e w1 ⟨rfl, hb1⟩
    have Hb1 := Lib.hid hb1
    clear hb1
    have H1' := Lib.hid (Blk.below H1.out Hb1.out H1.out.lt)
    clear H1
    have H1 := H1'
    clear H1'
    have Hf' := Lib.hid ((Hf.out.below Hb1.out).more Hb1.out.size)
    clear Hf
    have Hf := Hf'
    clear Hf'
    have Bw' : Hid (Below w.heap.size w w1) := Bw.out.trans (Hb1.out.mono Bw.out.size)
    clear Bw
    have Bw := Bw'
    clear Bw'
    clear Hb1
    have R1 := Lib.hid (blk_range H1.out)
    go_wp2_with (first
      | ((with_reducible refine gateL 39 ?_); refine wpList_load_g (by rfl) 39 (.tmp 1) rfl w.heap.size 0 rfl (evCs A a.act.frame.length c A2 a.o.out.length c2 a) _ R1.out ev_under rfl (ev_sz Hs.out) ?_))
    clear R1
    refine (fewE_is A _ c A2 _ c2 a Hs.out rfl rfl w1 false hf1).mono ?_
    rintro e w2 ⟨rfl, hb2⟩
    have Hb2 := Lib.hid hb2
    clear hb2
    have H1' := Lib.hid (Blk.below H1.out Hb2.out H1.out.lt)
    clear H1
    have H1 := H1'
    clear H1'
    have Hf' := Lib.hid ((Hf.out.below Hb2.out).more Hb2.out.size)
    clear Hf
    have Hf := Hf'
    clear Hf'
    have Bw' : Hid (Below w.heap.size w w2) := Bw.out.trans (Hb2.out.mono Bw.out.size)
    clear Bw
    have Bw := Bw'
    clear Bw'
    clear Hb2
    go_wp2_with fail
    refine (awake28 w2).mono ?_
    rintro e wz ⟨rfl, hb3⟩
    have Hb3 := Lib.hid hb3
    clear hb3
    have H1' := Lib.hid (Blk.below H1.out Hb3.out H1.out.lt)
    clear H1
    have H1 := H1'
    clear H1'
    have Hf' := Lib.hid ((Hf.out.below Hb3.out).more Hb3.out.size)
    clear Hf
    have Hf := Hf'
    clear Hf'
    have Bw' : Hid (Below w.heap.size w wz) := Bw.out.trans (Hb3.out.mono Bw.out.size)
    clear Bw
    have Bw := Bw'
    clear Bw'
    clear Hb3
    go_wp2
    go_ret
    exact ⟨rfl, Bw.out⟩
  · rcases hr : rightEB a with _ | _
    · have Hr := Lib.hid hr
      clear hr
      go_enter Try.func5, Try.ntmps5
      go_upto_region 1 with fail
      rw [← HW.out]
      clear HW
      go_wp2_with fail
      refine (awake28 W0).mono ?_
      rintro e w1 ⟨rfl, hb4⟩
      have Hb4 := Lib.hid hb4
      clear hb4
      have H1' := Lib.hid (Blk.below H1.out Hb4.out H1.out.lt)
      clear H1
      have H1 := H1'
      clear H1'
      have Hf' := Lib.hid ((Hf.out.below Hb4.out).more Hb4.out.size)
      clear Hf
      have Hf := Hf'
      clear Hf'
      have Bw' : Hid (Below w.heap.size w w1) := Bw.out.trans (Hb4.out.mono Bw.out.size)
      clear Bw
      have Bw := Bw'
      clear Bw'
      clear Hb4
      have R1 := Lib.hid (blk_range H1.out)
      go_wp2_with (first
        | ((with_reducible refine gateL 39 ?_); refine wpList_load_g (by rfl) 39 (.tmp 1) rfl w.heap.size 0 rfl (evCs A a.act.frame.length c A2 a.o.out.length c2 a) _ R1.out ev_under rfl (ev_sz Hs.out) ?_))
      clear R1
      refine (fewE_is A _ c A2 _ c2 a Hs.out rfl rfl w1 true hf1).mono ?_
      rintro e w2 ⟨rfl, hb5⟩
      have Hb5 := Lib.hid hb5
      clear hb5
      have H1' := Lib.hid (Blk.below H1.out Hb5.out H1.out.lt)
      clear H1
      have H1 := H1'
      clear H1'
      have Hf' := Lib.hid ((Hf.out.below Hb5.out).more Hb5.out.size)
      clear Hf
      have Hf := Hf'
      clear Hf'
      have Bw' : Hid (Below w.heap.size w w2) := Bw.out.trans (Hb5.out.mono Bw.out.size)
      clear Bw
      have Bw := Bw'
      clear Bw'
      clear Hb5
      have R1 := Lib.hid (blk_range H1.out)
      go_wp2_with (first
        | ((with_reducible refine gateL 39 ?_); refine wpList_load_g (by rfl) 39 (.tmp 1) rfl w.heap.size 0 rfl (evCs A a.act.frame.length c A2 a.o.out.length c2 a) _ R1.out ev_under rfl (ev_sz Hs.out) ?_))
      clear R1
      refine (eputE_no A c A2 c2 a Hs.out Hr.out w2 Hf.out).mono ?_
      rintro e w3 ⟨rfl, hb6⟩
      have Hb6 := Lib.hid hb6
      clear hb6
      have H1' := Lib.hid (Blk.below H1.out Hb6.out H1.out.lt)
      clear H1
      have H1 := H1'
      clear H1'
      have Hf' := Lib.hid ((Hf.out.below Hb6.out).more Hb6.out.size)
      clear Hf
      have Hf := Hf'
      clear Hf'
      have Bw' : Hid (Below w.heap.size w w3) := Bw.out.trans (Hb6.out.mono Bw.out.size)
      clear Bw
      have Bw := Bw'
      clear Bw'
      clear Hb6
      have R1 := Lib.hid (blk_range H1.out)
      go_wp2_with (first
        | ((with_reducible refine gateL 39 ?_); refine wpList_load_g (by rfl) 39 (.tmp 1) rfl w.heap.size 0 rfl (evCs A a.act.frame.length c A2 a.o.out.length c2 a) _ R1.out ev_under rfl (ev_sz Hs.out) ?_))
      clear R1
      refine (rrightE A c A2 c2 a Hs.out w3 Hf.out false Hr.out).mono ?_
      rintro e w4 ⟨rfl, hb7⟩
      have Hb7 := Lib.hid hb7
      clear hb7
      have H1' := Lib.hid (Blk.below H1.out Hb7.out H1.out.lt)
      clear H1
      have H1 := H1'
      clear H1'
      have Hf' := Lib.hid ((Hf.out.below Hb7.out).more Hb7.out.size)
      clear Hf
      have Hf := Hf'
      clear Hf'
      have Bw' : Hid (Below w.heap.size w w4) := Bw.out.trans (Hb7.out.mono Bw.out.size)
      clear Bw
      have Bw := Bw'
      clear Bw'
      clear Hb7
      go_wp2
      go_ret
      exact ⟨rfl, Bw.out⟩
    · have Hr := Lib.hid hr
      clear hr
      obtain ⟨m, hm⟩ : ∃ m, evBytes a = m := ⟨_, rfl⟩
      have Hm := Lib.hid hm
      clear hm
      go_enter Try.func5, Try.ntmps5
      go_upto_region 1 with fail
      rw [← HW.out]
      clear HW
      go_wp2_with fail
      refine (awake28 W0).mono ?_
      rintro e w1 ⟨rfl, hb8⟩
      have Hb8 := Lib.hid hb8
      clear hb8
      have H1' := Lib.hid (Blk.below H1.out Hb8.out H1.out.lt)
      clear H1
      have H1 := H1'
      clear H1'
      have Hf' := Lib.hid ((Hf.out.below Hb8.out).more Hb8.out.size)
      clear Hf
      have Hf := Hf'
      clear Hf'
      have Bw' : Hid (Below w.heap.size w w1) := Bw.out.trans (Hb8.out.mono Bw.out.size)
      clear Bw
      have Bw := Bw'
      clear Bw'
      clear Hb8
      have R1 := Lib.hid (blk_range H1.out)
      go_wp2_with (first
        | ((with_reducible refine gateL 39 ?_); refine wpList_load_g (by rfl) 39 (.tmp 1) rfl w.heap.size 0 rfl (evCs A a.act.frame.length c A2 a.o.out.length c2 a) _ R1.out ev_under rfl (ev_sz Hs.out) ?_))
      clear R1
      refine (fewE_is A _ c A2 _ c2 a Hs.out rfl rfl w1 true hf1).mono ?_
      rintro e w2 ⟨rfl, hb9⟩
      have Hb9 := Lib.hid hb9
      clear hb9
      have H1' := Lib.hid (Blk.below H1.out Hb9.out H1.out.lt)
      clear H1
      have H1 := H1'
      clear H1'
      have Hf' := Lib.hid ((Hf.out.below Hb9.out).more Hb9.out.size)
      clear Hf
      have Hf := Hf'
      clear Hf'
      have Bw' : Hid (Below w.heap.size w w2) := Bw.out.trans (Hb9.out.mono Bw.out.size)
      clear Bw
      have Bw := Bw'
      clear Bw'
      clear Hb9
      have R1 := Lib.hid (blk_range H1.out)
      go_wp2_with (first
        | ((with_reducible refine gateL 39 ?_); refine wpList_load_g (by rfl) 39 (.tmp 1) rfl w.heap.size 0 rfl (evCs A a.act.frame.length c A2 a.o.out.length c2 a) _ R1.out ev_under rfl (ev_sz Hs.out) ?_))
      clear R1
      refine (eputE_yes A c A2 c2 a Hs.out Hr.out w2 Hf.out m Hm.out).mono ?_
      rintro e w3 ⟨A3, c3, rfl, hown, hb10⟩
      have Hb10 := Lib.hid hb10
      clear hb10
      have Hbs := Lib.hid (BS.of_own hown).1
      clear hown
      have H1' := Lib.hid (Blk.below H1.out Hb10.out H1.out.lt)
      clear H1
      have H1 := H1'
      clear H1'
      have Hf' := Lib.hid ((Hf.out.below Hb10.out).more Hb10.out.size)
      clear Hf
      have Hf := Hf'
      clear Hf'
      have Bw' : Hid (Below w.heap.size w w3) := Bw.out.trans (Hb10.out.mono Bw.out.size)
      clear Bw
      have Bw := Bw'
      clear Bw'
      clear Hb10
      have R1 := Lib.hid (blk_range H1.out)
      go_wp2_with (first
        | ((with_reducible refine gateL 39 ?_); refine wpList_load_g (by rfl) 39 (.tmp 1) rfl w.heap.size 0 rfl (evCs A a.act.frame.length c A2 a.o.out.length c2 a) _ R1.out ev_under rfl (ev_sz Hs.out) ?_))
      clear R1
      refine (rrightE A c A2 c2 a Hs.out w3 Hf.out true Hr.out).mono ?_
      rintro e w4 ⟨rfl, hb11⟩
      have Hb11 := Lib.hid hb11
      clear hb11
      have H1' := Lib.hid (Blk.below H1.out Hb11.out H1.out.lt)
      clear H1
      have H1 := H1'
      clear H1'
      have Hf' := Lib.hid ((Hf.out.below Hb11.out).more Hb11.out.size)
      clear Hf
      have Hf := Hf'
      clear Hf'
      have Hbs' := Lib.hid ((Hbs.out.below Hb11.out).more Hb11.out.size)
      clear Hbs
      have Hbs := Hbs'
      clear Hbs'
      have Bw' : Hid (Below w.heap.size w w4) := Bw.out.trans (Hb11.out.mono Bw.out.size)
      clear Bw
      have Bw := Bw'
      clear Bw'
      clear Hb11
      go_upto_region 6 with fail
      refine wp_region_noPanic ?_
      refine wp_region_held_drew (S := fun w' => Below w4.heap.size w4 w') (by kernel_rfl) ((Below.refl _ _).drew) (fun hHeld => ?_)
      refine wpAnyH_take (i := 0) (v := ?_) rfl (by kernel_rfl) (by kernel_rfl) (by kernel_rfl) (fun _ _ _ h => h) (Or.inl ⟨by rfl, ?_⟩) hHeld ?_
      rotate_left
      · intro w' hSw
        skip
        go_simp
        try with_reducible rfl
      try (simp only [Act.put, List.getElem_toArray, List.getElem_cons_succ, List.getElem_cons_zero, List.setIfInBounds_toArray, List.set_cons_zero, List.set_cons_succ])
      refine wpAnyH_take (i := 1) (v := ?_) rfl (by kernel_rfl) (by kernel_rfl) (by kernel_rfl) (fun _ _ _ h => h) (Or.inl ⟨by rfl, ?_⟩) hHeld ?_
      rotate_left
      · intro w' hSw
        skip
        go_simp
        try with_reducible rfl
      try (simp only [Act.put, List.getElem_toArray, List.getElem_cons_succ, List.getElem_cons_zero, List.setIfInBounds_toArray, List.set_cons_zero, List.set_cons_succ])
      refine wpAnyH_take (i := 2) (v := ?_) rfl (by kernel_rfl) (by kernel_rfl) (by kernel_rfl) (fun _ _ _ h => h) (Or.inl ⟨by rfl, ?_⟩) hHeld ?_
      rotate_left
      · intro w' hSw
        skip
        go_simp
        try with_reducible rfl
      try (simp only [Act.put, List.getElem_toArray, List.getElem_cons_succ, List.getElem_cons_zero, List.setIfInBounds_toArray, List.set_cons_zero, List.set_cons_succ])
      refine wpAnyH_take (i := 3) (v := ?_) rfl (by kernel_rfl) (by kernel_rfl) (by kernel_rfl) (fun _ _ _ h => h) (Or.inl ⟨by rfl, ?_⟩) hHeld ?_
      rotate_left
      · intro w' hSw
        skip
        go_simp
        try with_reducible rfl
      try (simp only [Act.put, List.getElem_toArray, List.getElem_cons_succ, List.getElem_cons_zero, List.setIfInBounds_toArray, List.set_cons_zero, List.set_cons_succ])
      refine wpAnyH_take (i := 4) (v := ?_) rfl (by kernel_rfl) (by kernel_rfl) (by kernel_rfl) (fun _ _ _ h => h) (Or.inl ⟨by rfl, ?_⟩) hHeld ?_
      rotate_left
      · intro w' hSw
        have hcv := run_convert_bs (P := Try.prog) 22 9 5 Try.underlying22 Try.underlying5 Try.underlying9 w' _ A3 m (Hbs.out.below hSw) _ c3 rfl
        go_simp
        try with_reducible rfl
      try (simp only [Act.put, List.getElem_toArray, List.getElem_cons_succ, List.getElem_cons_zero, List.setIfInBounds_toArray, List.set_cons_zero, List.set_cons_succ])
      refine wpAnyH_take (i := 5) rfl (by kernel_rfl) (by kernel_rfl) (by kernel_rfl) (fun _ _ _ h => h) (yieldsIf_load_mid (by rfl) 39 (.tmp 1) rfl (w.heap.size) (0) rfl (evCs A a.act.frame.length c A2 a.o.out.length c2 a) _ (fun w' hSw => blk_range (Blk.below H1.out hSw H1.out.lt)) Try.underlying39 rfl (ev_sz Hs.out)) hHeld ?_
      try (simp only [Act.put, List.getElem_toArray, List.getElem_cons_succ, List.getElem_cons_zero, List.setIfInBounds_toArray, List.set_cons_zero, List.set_cons_succ])
      refine wpAnyH_ready (rs := [6]) (by kernel_rfl) (by simp) ?_
      refine AllReadyH.cons (i := 6) rfl (fun K hK => ?_) AllReadyH.nil
      go_simp
      refine (rputE_is A c A2 c2 a Hs.out Hr.out _ ((Hf.out.below hHeld).more hHeld.size) m Hm.out).mono ?_
      rintro e w5 ⟨A5, c5, rfl, hbs5, hbq⟩
      have hBehind : Below w4.heap.size w4 w5 := hHeld.trans (hbq.mono hHeld.size)
      have Hb5 := Lib.hid hbs5
      clear hbs5
      clear hbq
      go_wp2_with fail
      refine hK.out _ _ hBehind (fun hHeld => ?_)
      clear hK K hBehind
      try (simp only [Act.put, List.getElem_toArray, List.getElem_cons_succ, List.getElem_cons_zero, List.setIfInBounds_toArray, List.set_cons_zero, List.set_cons_succ])
      refine wpAnyH_ready (rs := [7]) (by kernel_rfl) (by simp) ?_
      refine AllReadyH.cons (i := 7) rfl (fun K hK => ?_) AllReadyH.nil
      have hcv := run_convert_bs (P := Try.prog) 22 9 5 Try.underlying22 Try.underlying5 Try.underlying9 w5 _ A5 m Hb5.out _ c5 rfl
      go_simp
      refine hK.out _ _ hHeld (fun hHeld => ?_)
      clear hK K hcv
      try (simp only [Act.put, List.getElem_toArray, List.getElem_cons_succ, List.getElem_cons_zero, List.setIfInBounds_toArray, List.set_cons_zero, List.set_cons_succ])
      refine wpAnyH_take (i := 8) (v := ?_) rfl (by kernel_rfl) (by kernel_rfl) (by kernel_rfl) (fun _ _ _ h => h) (Or.inl ⟨by rfl, ?_⟩) hHeld ?_
      rotate_left
      · intro w' hSw
        have er : (m == m) = true := beq_self_eq_true m
        go_simp
        try with_reducible rfl
      try (simp only [Act.put, List.getElem_toArray, List.getElem_cons_succ, List.getElem_cons_zero, List.setIfInBounds_toArray, List.set_cons_zero, List.set_cons_succ])
      refine wpAnyH_take (i := 9) (v := ?_) rfl (by kernel_rfl) (by kernel_rfl) (by kernel_rfl) (fun _ _ _ h => h) (Or.inl ⟨by rfl, ?_⟩) hHeld ?_
      rotate_left
      · intro w' hSw
        skip
        go_simp
        try with_reducible rfl
      try (simp only [Act.put, List.getElem_toArray, List.getElem_cons_succ, List.getElem_cons_zero, List.setIfInBounds_toArray, List.set_cons_zero, List.set_cons_succ])
      refine wpAnyH_take (i := 10) (v := ?_) rfl (by kernel_rfl) (by kernel_rfl) (by kernel_rfl) (fun _ _ _ h => h) (Or.inl ⟨by rfl, ?_⟩) hHeld ?_
      rotate_left
      · intro w' hSw
        skip
        go_simp
        try with_reducible rfl
      try (simp only [Act.put, List.getElem_toArray, List.getElem_cons_succ, List.getElem_cons_zero, List.setIfInBounds_toArray, List.set_cons_zero, List.set_cons_succ])
      refine wpAnyH_done (by kernel_rfl) ?_ _
      refine NoPanic.normal ?_
      go_wp2
      go_ret
      exact ⟨rfl, Bw.out.trans (hHeld.mono Bw.out.size)⟩
end Go.Proofs.Ytgohhojoahlfiaa
