/- EventOf: of whatever act and outcome: the event (printed by gen_eofl.py). -/
import Derived.Test.YtgohhojoahlfiaaEaw
import Derived.Test.YtgohhojoahlfiaaEvFw
import Derived.Test.YtgohhojoahlfiaaTrodE
namespace Go.Proofs.Ytgohhojoahlfiaa
open Go.RowKit
set_option linter.unusedVariables false
set_option linter.unusedSimpArgs false

theorem few_parts {e : EvP} (h : fewEB e = true) : e.act.frame.length ≤ 140000 ∧ e.act.name.length ≤ 400 ∧ e.act.oname.length ≤ 400 ∧ e.act.back.name.length ≤ 400 ∧ e.o.name.length ≤ 400 ∧ e.o.out.length ≤ 3000 := by
  simpa [fewEB] using h
theorem fewE_is (A : Option Addr) (n c : Nat) (A2 : Option Addr) (n2 c2 : Nat) (e : EvP) (hs : EvShape e) (hn : n = e.act.frame.length) (hn2 : n2 = e.o.out.length) (w : World) (r : Bool) (hr : fewEB e = r) :
    Calls Try.prog 11 #[.agg (evCs A n c A2 n2 c2 e).toArray] w fun x w' => x = .returned (.bool r) ∧ Below w.heap.size w w' := by
  subst hr
  exact refFewE_any A n c A2 n2 c2 e hs hn hn2 w
theorem ev_built2 (A : Option Addr) (n c : Nat) (a : ActP) (A' : Option Addr) (n' c' : Nat) (o : OutP) (ha : ActShape a) :
    Try.prog.built 39 [(0, .agg (actCs A n c a).toArray), (1, .agg (outCs A' n' c' o).toArray)] = some (evCs A n c A' n' c' { act := a, o := o, len := 0, sum := 0 }).toArray := by
  have h1 := act_len (A := A) (n := n) (c := c) ha
  have h2 : (outCs A' n' c' o).length = 6 := rfl
  have h0 : (evCs none 0 0 none 0 0 ev0).length = 42 := rfl
  rw [ev_built_fill, fill_agg _ _ _ 0 _ _ (by rw [h1]; rfl) (by rw [h1, List.size_toArray, h0]; decide)]
  rw [setL_list _ _ _ (by rw [h1, h0]; decide), h1, List.take_zero, List.nil_append, Nat.zero_add]
  have hd : (evCs none 0 0 none 0 0 ev0).drop 34 = outCs none 0 0 out0 ++ [zv 0, .int .u32 0] := rfl
  rw [hd, fill_agg _ _ _ 34 _ _ (by rw [h2]; rfl) (by rw [h2, List.size_toArray, List.length_append, h1]; decide)]
  have hl : (actCs A n c a ++ (outCs none 0 0 out0 ++ [zv 0, .int .u32 0])).length = 42 := by rw [List.length_append, h1]; rfl
  rw [setL_list _ _ _ (by rw [h2, hl]; decide), h2, List.take_left' h1, show 34 + 6 = 34 + 6 from rfl, ← List.drop_drop, List.drop_left' h1]
  rfl
theorem evOf_sum (a : ActP) (o : OutP) : (evOf a o).sum < 4294967296 := by
  unfold evOf
  split
  · exact ofS_lt _
  · show (0 : Nat) < 4294967296; decide
theorem ofE (A : Option Addr) (fl c : Nat) (A2 : Option Addr) (ol c2 : Nat) (a : ActP) (o : OutP) (hsa0 : ActShape a) (w : World) (hfl0 : fl = a.frame.length) (hol0 : ol = o.out.length)
    (hf0 : BS w w.heap.size A a.frame) (ho0 : BS w w.heap.size A2 o.out) (hlf0 : fl ≤ 1000000000) (hlo0 : ol ≤ 1000000000) (E : EvP) (hE : E = evOf a o) :
    Calls Try.prog 18 #[.agg (actCs A fl c a).toArray, .agg (outCs A2 ol c2 o).toArray] w fun e w' => ∃ A' c', e = .returned (.agg (evCs A' fl c' none 0 0 E).toArray) ∧ w'.ownsRow w.heap.size 5 1 (.slice A' fl c') fl (bcells a.frame) ∧ Below w.heap.size w w' := by
  subst hE
  exact eof_any A fl c A2 ol c2 a o hsa0 w hfl0 hol0 hf0 ho0 hlf0 hlo0
theorem rofE (A : Option Addr) (fl c : Nat) (A2 : Option Addr) (ol c2 : Nat) (a : ActP) (o : OutP) (hsa0 : ActShape a) (w : World) (hol0 : ol = o.out.length)
    (ho0 : BS w w.heap.size A2 o.out) (hlo0 : ol ≤ 1000000000) (E : EvP) (hE : E = evOf a o) :
    Calls Try.prog 19 #[.agg (actCs A fl c a).toArray, .agg (outCs A2 ol c2 o).toArray] w fun e w' => e = .returned (.agg (evCs A fl c none 0 0 E).toArray) ∧ Below w.heap.size w w' := by
  subst hE
  exact refEof_any A fl c A2 ol c2 a o hsa0 w hol0 ho0 hlo0
theorem rsameN (A : Option Addr) (n c : Nat) (A2 : Option Addr) (n2 c2 : Nat) (a : EvP) (A' : Option Addr) (n' c' : Nat) (A2' : Option Addr) (n2' c2' : Nat) (b : EvP) (ha0 : EvShape a) (hb0 : EvShape b) (hn : n = a.act.frame.length) (hn2 : n2 = a.o.out.length) (hn' : n' = b.act.frame.length) (hn2' : n2' = b.o.out.length) (w : World) (hf : BS w w.heap.size A a.act.frame) (hf' : BS w w.heap.size A' b.act.frame) (ho : BS w w.heap.size A2 a.o.out) (ho' : BS w w.heap.size A2' b.o.out) (r : Bool) (hr : sameEvB a b = r) :
    Calls Try.prog 17 #[.agg (evCs A n c A2 n2 c2 a).toArray, .agg (evCs A' n' c' A2' n2' c2' b).toArray] w fun e w' => e = .returned (.bool r) ∧ Below w.heap.size w w' := by
  subst hr hn hn2 hn' hn2'
  exact refSame_any A c A2 c2 a A' c' A2' c2' b ha0 hb0 w hf hf' ho ho'

set_option maxHeartbeats 1000000 in
set_option maxRecDepth 100000 in
theorem walk_eventOf (w : World) (A : Option Addr) (c : Nat) (a : ActP) (hc : a.frame.length ≤ c) (hb : BS w w.heap.size A a.frame) (hs : ActShape a) (hw : ActWf a) (A2 : Option Addr) (c2 : Nat) (o : OutP) (hc2 : o.out.length ≤ c2) (hb2 : BS w w.heap.size A2 o.out) (hw2 : OutWf o) :
    Calls Try.prog 4 #[.agg (actCs A a.frame.length c a).toArray, .agg (outCs A2 o.out.length c2 o).toArray] w fun e w' => e = .returned (.bool true) ∧ Below w.heap.size w w' := by
  obtain ⟨W0, hW⟩ : ∃ W, W = (w.alloc (.cells (actCs A a.frame.length c a).toArray 33)).alloc (.cells (outCs A2 o.out.length c2 o).toArray 36) := ⟨_, rfl⟩
  have H2 : Hid (Blk W0 w.heap.size 33 (actCs A a.frame.length c a).toArray) := by rw [hW]; exact Blk.alloc (Blk.new w _ _ _ rfl) _
  have H3 : Hid (Blk W0 (w.heap.size + 1) 36 (outCs A2 o.out.length c2 o).toArray) := by rw [hW]; exact Blk.new _ _ _ _ (by simp)
  have hB : Below w.heap.size w W0 := by rw [hW]; exact ((Below.refl _ _).alloc (Nat.le_refl _) _).alloc (by simp) _
  have Bw := Lib.hid hB
  have Hf := Lib.hid ((hb.below hB).more hB.size)
  have Ho := Lib.hid ((hb2.below hB).more hB.size)
  have Hs := Lib.hid hs
  have HW := Lib.hid hW
  have Hbuilt := Lib.hid (ev_built2 A a.frame.length c a A2 o.out.length c2 o hs)
  obtain ⟨E0, hE0⟩ : ∃ E : EvP, E = { act := a, o := o, len := 0, sum := 0 } := ⟨_, rfl⟩
  have HE0 : Hid (EvShape E0) := by rw [hE0]; exact ⟨hs, by show (0 : Nat) < _; decide⟩
  have Hp : Hid (E0.act = a ∧ E0.o = o) := by rw [hE0]; exact ⟨rfl, rfl⟩
  rw [← hE0] at Hbuilt
  clear hW hB hb hb2 hs hE0
  rcases hf : fewEB E0 with _ | _
  · go_enter Try.func4, Try.ntmps4
    go_upto_region 1 with fail
    rw [← HW.out]
    clear HW
    go_wp2_with fail
    refine (awake28 W0).mono ?_
    rintro e w1 ⟨rfl, hb1⟩
    have Hb1 := Lib.hid hb1
    clear hb1
    have H2' := Lib.hid (Blk.below H2.out Hb1.out H2.out.lt)
    clear H2
    have H2 := H2'
    clear H2'
    have H3' := Lib.hid (Blk.below H3.out Hb1.out H3.out.lt)
    clear H3
    have H3 := H3'
    clear H3'
    have Hf' := Lib.hid ((Hf.out.below Hb1.out).more Hb1.out.size)
    clear Hf
    have Hf := Hf'
    clear Hf'
    have Ho' := Lib.hid ((Ho.out.below Hb1.out).more Hb1.out.size)
    clear Ho
    have Ho := Ho'
    clear Ho'
    have Bw' : Hid (Below w.heap.size w w1) := Bw.out.trans (Hb1.out.mono Bw.out.size)
    clear Bw
    have Bw := Bw'
    clear Bw'
    clear Hb1
    have R2 := Lib.hid (blk_range H2.out)
    have R3 := Lib.hid (blk_range H3.out)
    go_wp2_with (first
      | ((with_reducible refine gateL 33 ?_); refine wpList_load_g (by rfl) 33 (.tmp 2) rfl w.heap.size 0 rfl (actCs A a.frame.length c a) _ R2.out act_under rfl (act_sz Hs.out) ?_)
      | ((with_reducible refine gateL 36 ?_); refine wpList_load_g (by rfl) 36 (.tmp 3) rfl (w.heap.size + 1) 0 rfl (outCs A2 o.out.length c2 o) _ R3.out out_under rfl out_sz ?_)
      | ((with_reducible refine gateD 39 ?_); refine wpList_build_c (by rfl) 39 _ rfl (evCs A a.frame.length c A2 o.out.length c2 E0).toArray (by simp only [List.map_toArray, List.map_cons, List.map_nil]; exact Hbuilt.out) ?_))
    clear R2
    clear R3
    refine (fewE_is A a.frame.length c A2 o.out.length c2 E0 HE0.out (by rw [Hp.out.1]) (by rw [Hp.out.2]) w1 false hf).mono ?_
    rintro e w2 ⟨rfl, hb2⟩
    have Hb2 := Lib.hid hb2
    clear hb2
    have H2' := Lib.hid (Blk.below H2.out Hb2.out H2.out.lt)
    clear H2
    have H2 := H2'
    clear H2'
    have H3' := Lib.hid (Blk.below H3.out Hb2.out H3.out.lt)
    clear H3
    have H3 := H3'
    clear H3'
    have Hf' := Lib.hid ((Hf.out.below Hb2.out).more Hb2.out.size)
    clear Hf
    have Hf := Hf'
    clear Hf'
    have Ho' := Lib.hid ((Ho.out.below Hb2.out).more Hb2.out.size)
    clear Ho
    have Ho := Ho'
    clear Ho'
    have Bw' : Hid (Below w.heap.size w w2) := Bw.out.trans (Hb2.out.mono Bw.out.size)
    clear Bw
    have Bw := Bw'
    clear Bw'
    clear Hb2
    go_wp2_with fail
    refine (awake28 w2).mono ?_
    rintro e wz ⟨rfl, hb3⟩
    have Hb3 := Lib.hid hb3
    clear hb3
    have H2' := Lib.hid (Blk.below H2.out Hb3.out H2.out.lt)
    clear H2
    have H2 := H2'
    clear H2'
    have H3' := Lib.hid (Blk.below H3.out Hb3.out H3.out.lt)
    clear H3
    have H3 := H3'
    clear H3'
    have Hf' := Lib.hid ((Hf.out.below Hb3.out).more Hb3.out.size)
    clear Hf
    have Hf := Hf'
    clear Hf'
    have Ho' := Lib.hid ((Ho.out.below Hb3.out).more Hb3.out.size)
    clear Ho
    have Ho := Ho'
    clear Ho'
    have Bw' : Hid (Below w.heap.size w wz) := Bw.out.trans (Hb3.out.mono Bw.out.size)
    clear Bw
    have Bw := Bw'
    clear Bw'
    clear Hb3
    go_wp2
    go_ret
    exact ⟨rfl, Bw.out⟩
  · have hfp := few_parts hf
    rw [Hp.out.1, Hp.out.2] at hfp
    obtain ⟨q1, _, _, _, _, q2⟩ := hfp
    go_enter Try.func4, Try.ntmps4
    go_upto_region 1 with fail
    rw [← HW.out]
    clear HW
    go_wp2_with fail
    refine (awake28 W0).mono ?_
    rintro e w1 ⟨rfl, hb4⟩
    have Hb4 := Lib.hid hb4
    clear hb4
    have H2' := Lib.hid (Blk.below H2.out Hb4.out H2.out.lt)
    clear H2
    have H2 := H2'
    clear H2'
    have H3' := Lib.hid (Blk.below H3.out Hb4.out H3.out.lt)
    clear H3
    have H3 := H3'
    clear H3'
    have Hf' := Lib.hid ((Hf.out.below Hb4.out).more Hb4.out.size)
    clear Hf
    have Hf := Hf'
    clear Hf'
    have Ho' := Lib.hid ((Ho.out.below Hb4.out).more Hb4.out.size)
    clear Ho
    have Ho := Ho'
    clear Ho'
    have Bw' : Hid (Below w.heap.size w w1) := Bw.out.trans (Hb4.out.mono Bw.out.size)
    clear Bw
    have Bw := Bw'
    clear Bw'
    clear Hb4
    have R2 := Lib.hid (blk_range H2.out)
    have R3 := Lib.hid (blk_range H3.out)
    go_wp2_with (first
      | ((with_reducible refine gateL 33 ?_); refine wpList_load_g (by rfl) 33 (.tmp 2) rfl w.heap.size 0 rfl (actCs A a.frame.length c a) _ R2.out act_under rfl (act_sz Hs.out) ?_)
      | ((with_reducible refine gateL 36 ?_); refine wpList_load_g (by rfl) 36 (.tmp 3) rfl (w.heap.size + 1) 0 rfl (outCs A2 o.out.length c2 o) _ R3.out out_under rfl out_sz ?_)
      | ((with_reducible refine gateD 39 ?_); refine wpList_build_c (by rfl) 39 _ rfl (evCs A a.frame.length c A2 o.out.length c2 E0).toArray (by simp only [List.map_toArray, List.map_cons, List.map_nil]; exact Hbuilt.out) ?_))
    clear R2
    clear R3
    refine (fewE_is A a.frame.length c A2 o.out.length c2 E0 HE0.out (by rw [Hp.out.1]) (by rw [Hp.out.2]) w1 true hf).mono ?_
    rintro e w2 ⟨rfl, hb5⟩
    have Hb5 := Lib.hid hb5
    clear hb5
    have H2' := Lib.hid (Blk.below H2.out Hb5.out H2.out.lt)
    clear H2
    have H2 := H2'
    clear H2'
    have H3' := Lib.hid (Blk.below H3.out Hb5.out H3.out.lt)
    clear H3
    have H3 := H3'
    clear H3'
    have Hf' := Lib.hid ((Hf.out.below Hb5.out).more Hb5.out.size)
    clear Hf
    have Hf := Hf'
    clear Hf'
    have Ho' := Lib.hid ((Ho.out.below Hb5.out).more Hb5.out.size)
    clear Ho
    have Ho := Ho'
    clear Ho'
    have Bw' : Hid (Below w.heap.size w w2) := Bw.out.trans (Hb5.out.mono Bw.out.size)
    clear Bw
    have Bw := Bw'
    clear Bw'
    clear Hb5
    obtain ⟨E, hE⟩ : ∃ E, E = evOf a o := ⟨_, rfl⟩
    have HE := Lib.hid hE
    have HEs : Hid (EvShape E) := by rw [hE]; exact ⟨Hs.out, evOf_sum a o⟩
    have HEf : Hid (E.act.frame = a.frame ∧ E.o.out = []) := by rw [hE]; exact ⟨rfl, rfl⟩
    clear hE
    go_upto_region 3 with fail
    refine wp_region_noPanic ?_
    refine wp_region_held_drew (S := fun w' => Below w2.heap.size w2 w') (by kernel_rfl) ((Below.refl _ _).drew) (fun hHeld => ?_)
    refine wpAnyH_take (i := 0) rfl (by kernel_rfl) (by kernel_rfl) (by kernel_rfl) (fun _ _ _ h => h) (yieldsIf_load_mid (by rfl) 33 (.tmp 2) rfl (w.heap.size) (0) rfl (actCs A a.frame.length c a) _ (fun w' hSw => blk_range (Blk.below H2.out hSw H2.out.lt)) Try.underlying33 rfl (act_sz Hs.out)) hHeld ?_
    try (simp only [Act.put, List.getElem_toArray, List.getElem_cons_succ, List.getElem_cons_zero, List.setIfInBounds_toArray, List.set_cons_zero, List.set_cons_succ])
    refine wpAnyH_take (i := 1) rfl (by kernel_rfl) (by kernel_rfl) (by kernel_rfl) (fun _ _ _ h => h) (yieldsIf_load_mid (by rfl) 36 (.tmp 3) rfl ((w.heap.size + 1)) (0) rfl (outCs A2 o.out.length c2 o) _ (fun w' hSw => blk_range (Blk.below H3.out hSw H3.out.lt)) Try.underlying36 rfl out_sz) hHeld ?_
    try (simp only [Act.put, List.getElem_toArray, List.getElem_cons_succ, List.getElem_cons_zero, List.setIfInBounds_toArray, List.set_cons_zero, List.set_cons_succ])
    refine wpAnyH_take (i := 3) rfl (by kernel_rfl) (by kernel_rfl) (by kernel_rfl) (fun _ _ _ h => h) (yieldsIf_load_mid (by rfl) 33 (.tmp 2) rfl (w.heap.size) (0) rfl (actCs A a.frame.length c a) _ (fun w' hSw => blk_range (Blk.below H2.out hSw H2.out.lt)) Try.underlying33 rfl (act_sz Hs.out)) hHeld ?_
    try (simp only [Act.put, List.getElem_toArray, List.getElem_cons_succ, List.getElem_cons_zero, List.setIfInBounds_toArray, List.set_cons_zero, List.set_cons_succ])
    refine wpAnyH_take (i := 4) rfl (by kernel_rfl) (by kernel_rfl) (by kernel_rfl) (fun _ _ _ h => h) (yieldsIf_load_mid (by rfl) 36 (.tmp 3) rfl ((w.heap.size + 1)) (0) rfl (outCs A2 o.out.length c2 o) _ (fun w' hSw => blk_range (Blk.below H3.out hSw H3.out.lt)) Try.underlying36 rfl out_sz) hHeld ?_
    try (simp only [Act.put, List.getElem_toArray, List.getElem_cons_succ, List.getElem_cons_zero, List.setIfInBounds_toArray, List.set_cons_zero, List.set_cons_succ])
    refine wpAnyH_ready (rs := [2]) (by kernel_rfl) (by simp) ?_
    refine AllReadyH.cons (i := 2) rfl (fun K hK => ?_) AllReadyH.nil
    go_simp
    refine (ofE A _ c A2 _ c2 a o Hs.out _ rfl rfl ((Hf.out.below hHeld).more hHeld.size) ((Ho.out.below hHeld).more hHeld.size) (by omega) (by omega) E HE.out).mono ?_
    rintro e wo ⟨A6, c6, rfl, hown6, hbq⟩
    have hBehind : Below w2.heap.size w2 wo := hHeld.trans (hbq.mono hHeld.size)
    have H6 := Lib.hid (BS.of_own hown6).1
    clear hown6 hbq
    go_wp2_with fail
    refine hK.out _ _ hBehind (fun hHeld => ?_)
    clear hK K hBehind
    try (simp only [Act.put, List.getElem_toArray, List.getElem_cons_succ, List.getElem_cons_zero, List.setIfInBounds_toArray, List.set_cons_zero, List.set_cons_succ])
    refine wpAnyH_ready (rs := [5]) (by kernel_rfl) (by simp) ?_
    refine AllReadyH.cons (i := 5) rfl (fun K hK => ?_) AllReadyH.nil
    go_simp
    refine (rofE A _ c A2 _ c2 a o Hs.out _ rfl ((Ho.out.below hHeld).more hHeld.size) (by omega) E HE.out).mono ?_
    rintro e wr ⟨rfl, hbq⟩
    have hBehind : Below w2.heap.size w2 wr := hHeld.trans (hbq.mono hHeld.size)
    have H6' := Lib.hid ((H6.out.below hbq).more hbq.size)
    clear H6
    have H6 := H6'
    clear H6'
    clear hbq
    go_wp2_with fail
    refine hK.out _ _ hBehind (fun hHeld => ?_)
    clear hK K hBehind
    try (simp only [Act.put, List.getElem_toArray, List.getElem_cons_succ, List.getElem_cons_zero, List.setIfInBounds_toArray, List.set_cons_zero, List.set_cons_succ])
    refine wpAnyH_ready (rs := [6]) (by kernel_rfl) (by simp) ?_
    refine AllReadyH.cons (i := 6) rfl (fun K hK => ?_) AllReadyH.nil
    go_simp
    refine (rsameN _ _ _ _ _ _ E _ _ _ _ _ _ E HEs.out HEs.out (by rw [HEf.out.1]) (by rw [HEf.out.2]; rfl) (by rw [HEf.out.1]) (by rw [HEf.out.2]; rfl) _ (by rw [HEf.out.1]; exact H6.out) (by rw [HEf.out.1]; exact ((Hf.out.below hHeld).more hHeld.size)) (by rw [HEf.out.2]; exact BS.nil _ _ _) (by rw [HEf.out.2]; exact BS.nil _ _ _) true (sameEv_self E)).mono ?_
    rintro e ws ⟨rfl, hbq⟩
    have hBehind : Below w2.heap.size w2 ws := hHeld.trans (hbq.mono hHeld.size)
    clear hbq
    go_wp2_with fail
    refine hK.out _ _ hBehind (fun hHeld => ?_)
    clear hK K hBehind
    try (simp only [Act.put, List.getElem_toArray, List.getElem_cons_succ, List.getElem_cons_zero, List.setIfInBounds_toArray, List.set_cons_zero, List.set_cons_succ])
    refine wpAnyH_take (i := 7) (v := ?_) rfl (by kernel_rfl) (by kernel_rfl) (by kernel_rfl) (fun _ _ _ h => h) (Or.inl ⟨by rfl, ?_⟩) hHeld ?_
    rotate_left
    · intro w' hSw
      skip
      go_simp
      try with_reducible rfl
    try (simp only [Act.put, List.getElem_toArray, List.getElem_cons_succ, List.getElem_cons_zero, List.setIfInBounds_toArray, List.set_cons_zero, List.set_cons_succ])
    refine wpAnyH_done (by kernel_rfl) ?_ _
    refine NoPanic.normal ?_
    go_wp2
    go_ret
    exact ⟨rfl, Bw.out.trans (hHeld.mono Bw.out.size)⟩
end Go.Proofs.Ytgohhojoahlfiaa
