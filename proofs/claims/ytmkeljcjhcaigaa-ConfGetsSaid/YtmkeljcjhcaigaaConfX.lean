/- The document's Same at configs (printed by gen_rsame.py). -/
import Derived.Test.YtmkeljcjhcaigaaConfT
namespace Go.Proofs.Ytmkeljcjhcaigaa
open Go.RowKit
set_option linter.unusedVariables false
set_option linter.unusedSimpArgs false

set_option maxHeartbeats 8000000 in
set_option maxRecDepth 100000 in
theorem refSame_any (A : Option Addr) (n c : Nat) (f : ConfP) (A' : Option Addr) (n' c' : Nat) (g : ConfP) (hf : ConfShape f) (hg : ConfShape g) (w : World) (hn : n = f.vips.length) (hn' : n' = g.vips.length) (hb : VS w w.heap.size A f.vips) (hb' : VS w w.heap.size A' g.vips) (hl : n ≤ 1000000) (hl' : n' ≤ 1000000) :
    Calls Try.prog 19 #[confV A n c f, confV A' n' c' g] w fun e w' => e = .returned (.bool (sameB f g)) ∧ Below w.heap.size w w' := by
  subst hn hn'
  unfold confV
  obtain ⟨W, hW⟩ : ∃ W, W = (w.alloc (.cells (confCs A f.vips.length c f).toArray 29)).alloc (.cells (confCs A' g.vips.length c' g).toArray 29) := ⟨_, rfl⟩
  have hX : Blk W w.heap.size 29 (confCs A f.vips.length c f).toArray := by rw [hW]; exact Blk.alloc (Blk.new w _ _ _ rfl) _
  have hY : Blk W (w.heap.size + 1) 29 (confCs A' g.vips.length c' g).toArray := by rw [hW]; exact Blk.new _ _ _ _ (by simp)
  have hB : Below w.heap.size w W := by rw [hW]; exact ((Below.refl _ _).alloc (Nat.le_refl _) _).alloc (by simp) _
  have HC0 : Hid (∀ w', Below W.heap.size W w' → w'.cell? ⟨w.heap.size, 0, none⟩ = some (.slice A f.vips.length c) ∧ w'.cell? ⟨w.heap.size + 1, 0, none⟩ = some (.slice A' g.vips.length c')) := fun w' h => ⟨cf_c0 (Blk.below hX h hX.lt), cf_c0 (Blk.below hY h hY.lt)⟩
  have a0 := cf_c0 hX
  have b0 := cf_c0 hY
  have HV := Lib.hid ((hb.below hB).more hB.size)
  have HU := Lib.hid ((hb'.below hB).more hB.size)
  have HW := Lib.hid hW
  have HX := Lib.hid hX
  have HY := Lib.hid hY
  have HB := Lib.hid hB
  clear hW hX hY hB hb hb'
  by_cases hlen : f.vips.length = g.vips.length
  · have Hlen := Lib.hid hlen
    clear hlen
    go_enter Try.func19, Try.ntmps19
    go_upto_region 1 with fail
    rw [← HW.out]
    have hlen := Hlen.out
    have hlenI : (f.vips.length : Int) = (g.vips.length : Int) := by omega
    go_wp2_with fail
    clear a0 b0
    go_loopw [5] (fun i wr => ∃ k : Nat, k ≤ g.vips.length ∧ i = .int .i64 (k : Int) ∧ Hid (Below W.heap.size W wr) ∧ Hid (∀ j, j < k → f.vips[j]? = g.vips[j]?)) (fun i _ => g.vips.length - (intOf i).toNat)
    case atStart => exact ⟨0, by omega, rfl, Below.refl _ _, fun j hj => by omega⟩
    case round =>
      obtain ⟨k, hk, rfl, hbel, hat⟩ := hrel
      obtain ⟨a0, b0⟩ := HC0.out wr hbel.out
      by_cases hlt : k < g.vips.length
      · have hltI : (k : Int) < (g.vips.length : Int) := by omega
        have hk0 : (0 : Int) ≤ (k : Int) := by omega
        have hlt' : k < f.vips.length := by omega
        obtain ⟨b1, o1, hA, hbB, hc⟩ := HV.out (by omega)
        obtain ⟨b2, o2, hA', hbB', hc'⟩ := HU.out (by omega)
        subst hA hA'
        obtain ⟨x, hx⟩ : ∃ x, x = f.vips[k] := ⟨_, rfl⟩
        obtain ⟨y, hy⟩ : ∃ y, y = g.vips[k] := ⟨_, rfl⟩
        have hx? : f.vips[k]? = some x := by rw [List.getElem?_eq_getElem hlt', hx]
        have hy? : g.vips[k]? = some y := by rw [List.getElem?_eq_getElem hlt, hy]
        have hxo : addrOk x.1 := hf.vips x (by rw [hx]; exact List.getElem_mem hlt')
        have hyo : addrOk y.1 := hg.vips y (by rw [hy]; exact List.getElem_mem hlt)
        have HRx : Hid (∀ w', Below wr.heap.size wr w' → w'.rangeAt b1 (o1 + k * 20) (vipCs x)) := fun w' h j u hj => ((hbel.out.trans (h.mono hbel.out.size)).cell (p := ⟨b1, _, none⟩) hbB).trans (hc k x hx? j u hj)
        have HRy : Hid (∀ w', Below wr.heap.size wr w' → w'.rangeAt b2 (o2 + k * 20) (vipCs y)) := fun w' h j u hj => ((hbel.out.trans (h.mono hbel.out.size)).cell (p := ⟨b2, _, none⟩) hbB').trans (hc' k y hy? j u hj)
        have HA0 : Hid (∀ w', Below wr.heap.size wr w' → w'.cell? ⟨w.heap.size, 0, none⟩ = some (.slice (some ⟨b1, o1, none⟩) f.vips.length c)) := fun w' h => (HC0.out w' (hbel.out.trans (h.mono hbel.out.size))).1
        have HB0 : Hid (∀ w', Below wr.heap.size wr w' → w'.cell? ⟨w.heap.size + 1, 0, none⟩ = some (.slice (some ⟨b2, o2, none⟩) g.vips.length c')) := fun w' h => (HC0.out w' (hbel.out.trans (h.mono hbel.out.size))).2
        have Hsx := Lib.hid (vip_sz hxo)
        have Hsy := Lib.hid (vip_sz hyo)
        have Heq := Lib.hid (fun w => vip_eqIn 9996 x y hxo hyo w)
        have Hx? := Lib.hid hx?
        have Hy? := Lib.hid hy?
        clear hc hc' hx hy hx? hy?
        go_wp2_with fail
        refine wp_region_noPanic ?_
        refine wp_region_held_drew (S := fun w' => Below wr.heap.size wr w') (by kernel_rfl) ((Below.refl _ _).drew) (fun hHeld => ?_)
        refine wpAnyH_take (i := 0) (v := ?_) rfl (by kernel_rfl) (by kernel_rfl) (by kernel_rfl) (fun _ _ _ h => h) (Or.inl ⟨by rfl, ?_⟩) hHeld ?_
        rotate_left
        · intro w' hSw
          skip
          go_simp
          try with_reducible rfl
        simp only [Act.put, List.getElem_toArray, List.getElem_cons_succ, List.getElem_cons_zero, List.setIfInBounds_toArray, List.set_cons_zero, List.set_cons_succ]
        refine wpAnyH_take (i := 1) (v := ?_) rfl (by kernel_rfl) (by kernel_rfl) (by kernel_rfl) (fun _ _ _ h => h) (Or.inl ⟨by rfl, ?_⟩) hHeld ?_
        rotate_left
        · intro w' hSw
          have h0' := HA0.out w' hSw
          go_simp
          try with_reducible rfl
        simp only [Act.put, List.getElem_toArray, List.getElem_cons_succ, List.getElem_cons_zero, List.setIfInBounds_toArray, List.set_cons_zero, List.set_cons_succ]
        refine wpAnyH_take (i := 2) (v := ?_) rfl (by kernel_rfl) (by kernel_rfl) (by kernel_rfl) (fun _ _ _ h => h) (Or.inl ⟨by rfl, ?_⟩) hHeld ?_
        rotate_left
        · intro w' hSw
          skip
          go_simp
          try with_reducible rfl
        simp only [Act.put, List.getElem_toArray, List.getElem_cons_succ, List.getElem_cons_zero, List.setIfInBounds_toArray, List.set_cons_zero, List.set_cons_succ]
        refine wpAnyH_take (i := 3) (v := ?_) rfl (by kernel_rfl) (by kernel_rfl) (by kernel_rfl) (fun _ _ _ h => h) (Or.inl ⟨by rfl, ?_⟩) hHeld ?_
        rotate_left
        · intro w' hSw
          skip
          go_simp
          try with_reducible rfl
        simp only [Act.put, List.getElem_toArray, List.getElem_cons_succ, List.getElem_cons_zero, List.setIfInBounds_toArray, List.set_cons_zero, List.set_cons_succ]
        refine wpAnyH_take (i := 4) rfl (by kernel_rfl) (by kernel_rfl) (by kernel_rfl) (fun _ _ _ h => h) (yieldsIf_load_mid (by rfl) 33 (.tmp 23) rfl (b1) (o1 + k * 20) rfl (vipCs x) _ (HRx.out) Try.underlying33 rfl Hsx.out) hHeld ?_
        simp only [Act.put, List.getElem_toArray, List.getElem_cons_succ, List.getElem_cons_zero, List.setIfInBounds_toArray, List.set_cons_zero, List.set_cons_succ]
        refine wpAnyH_take (i := 5) (v := ?_) rfl (by kernel_rfl) (by kernel_rfl) (by kernel_rfl) (fun _ _ _ h => h) (Or.inl ⟨by rfl, ?_⟩) hHeld ?_
        rotate_left
        · intro w' hSw
          skip
          go_simp
          try with_reducible rfl
        simp only [Act.put, List.getElem_toArray, List.getElem_cons_succ, List.getElem_cons_zero, List.setIfInBounds_toArray, List.set_cons_zero, List.set_cons_succ]
        refine wpAnyH_take (i := 6) (v := ?_) rfl (by kernel_rfl) (by kernel_rfl) (by kernel_rfl) (fun _ _ _ h => h) (Or.inl ⟨by rfl, ?_⟩) hHeld ?_
        rotate_left
        · intro w' hSw
          have h0' := HB0.out w' hSw
          go_simp
          try with_reducible rfl
        simp only [Act.put, List.getElem_toArray, List.getElem_cons_succ, List.getElem_cons_zero, List.setIfInBounds_toArray, List.set_cons_zero, List.set_cons_succ]
        refine wpAnyH_take (i := 7) (v := ?_) rfl (by kernel_rfl) (by kernel_rfl) (by kernel_rfl) (fun _ _ _ h => h) (Or.inl ⟨by rfl, ?_⟩) hHeld ?_
        rotate_left
        · intro w' hSw
          skip
          go_simp
          try with_reducible rfl
        simp only [Act.put, List.getElem_toArray, List.getElem_cons_succ, List.getElem_cons_zero, List.setIfInBounds_toArray, List.set_cons_zero, List.set_cons_succ]
        refine wpAnyH_take (i := 8) (v := ?_) rfl (by kernel_rfl) (by kernel_rfl) (by kernel_rfl) (fun _ _ _ h => h) (Or.inl ⟨by rfl, ?_⟩) hHeld ?_
        rotate_left
        · intro w' hSw
          skip
          go_simp
          try with_reducible rfl
        simp only [Act.put, List.getElem_toArray, List.getElem_cons_succ, List.getElem_cons_zero, List.setIfInBounds_toArray, List.set_cons_zero, List.set_cons_succ]
        refine wpAnyH_take (i := 9) rfl (by kernel_rfl) (by kernel_rfl) (by kernel_rfl) (fun _ _ _ h => h) (yieldsIf_load_mid (by rfl) 33 (.tmp 28) rfl (b2) (o2 + k * 20) rfl (vipCs y) _ (HRy.out) Try.underlying33 rfl Hsy.out) hHeld ?_
        simp only [Act.put, List.getElem_toArray, List.getElem_cons_succ, List.getElem_cons_zero, List.setIfInBounds_toArray, List.set_cons_zero, List.set_cons_succ]
        refine wpAnyH_take (i := 10) rfl (by kernel_rfl) (by kernel_rfl) (by kernel_rfl) (fun _ _ _ h => h) (yieldsIf_neqs (by rfl) 33 33 (.tmp 24) (.tmp 29) rfl ((vipCs x).toArray) ((vipCs y).toArray) rfl rfl vip_guard (x == y) (Heq.out)) hHeld ?_
        simp only [Act.put, List.getElem_toArray, List.getElem_cons_succ, List.getElem_cons_zero, List.setIfInBounds_toArray, List.set_cons_zero, List.set_cons_succ]
        refine wpAnyH_done (by kernel_rfl) ?_ _
        refine NoPanic.normal ?_
        rcases hxy : (x == y) with _ | _
        · have Hr : Hid (sameB f g = false) := by
            show _ = _
            rcases h : sameB f g with _ | _
            · rfl
            · have h2 := sameB_iff.1 h
              rw [h2, Hy?.out] at Hx?
              have h1 := Hx?.out
              injection h1 with h1
              rw [h1, beq_self_eq_true] at hxy
              cases hxy
          have HBe : Hid (Below w.heap.size w _) := HB.out.trans ((hbel.out.trans (hHeld.mono hbel.out.size)).mono HB.out.size)
          clear hxy hHeld HRx HRy Heq hat HA0 HB0
          go_wp2
          go_ret
          exact ⟨by rw [Hr.out]; rfl, HBe.out⟩
        · have Hat2 : Hid (∀ j, j < k + 1 → f.vips[j]? = g.vips[j]?) := fun j hj => by
            rcases Nat.lt_or_ge j k with h1 | h1
            · exact hat.out j h1
            · obtain rfl : j = k := by omega
              rw [Hx?.out, Hy?.out, beq_iff_eq.1 hxy]
          have HBe : Hid (Below W.heap.size W _) := hbel.out.trans (hHeld.mono hbel.out.size)
          clear hxy hHeld HRx HRy Heq hat HA0 HB0
          go_wp2
          go_roundw
          case rel => exact ⟨k + 1, by omega, by go_num, HBe, Hat2⟩
          case measure => simp [intOf]; omega
      · have hltI : ¬ (k : Int) < (g.vips.length : Int) := by omega
        have K0 : Hid ((f.vips == g.vips) = true) := by
          show _ = _
          rw [beq_iff_eq]
          apply List.ext_getElem?
          intro j
          rcases Nat.lt_or_ge j k with h1 | h1
          · exact hat.out j h1
          · rw [List.getElem?_eq_none (by omega), List.getElem?_eq_none (by omega)]
        rename World => w2
        have hX2 := Blk.below HX.out hbel.out HX.out.lt
        have hY2 := Blk.below HY.out hbel.out HY.out.lt
        have a1 := cf_size hX2 
        have a2 := cf_room hX2 
        have a3 := cf_rise hX2 hf
        have a4 := cf_fall hX2 hf
        have a5 := cf_most hX2 hf
        have a6 := cf_keep hX2 hf
        have a7 := cf_batch hX2 hf
        have b1 := cf_size hY2 
        have b2 := cf_room hY2 
        have b3 := cf_rise hY2 hg
        have b4 := cf_fall hY2 hg
        have b5 := cf_most hY2 hg
        have b6 := cf_keep hY2 hg
        have b7 := cf_batch hY2 hg
        have HRi := Lib.hid (cf_idles hX2 hf)
        have HRi2 := Lib.hid (cf_idles hY2 hg)
        have HRm := Lib.hid (cf_macs hX2 hf)
        have HRm2 := Lib.hid (cf_macs hY2 hg)
        have HR4 := Lib.hid (cf_four hX2 hf)
        have HR42 := Lib.hid (cf_four hY2 hg)
        have HR6 := Lib.hid (cf_six hX2 hf)
        have HR62 := Lib.hid (cf_six hY2 hg)
        have Hsi := Lib.hid (idle_sz hf)
        have Hsi2 := Lib.hid (idle_sz hg)
        have Hsm := Lib.hid (mac_sz hf)
        have Hsm2 := Lib.hid (mac_sz hg)
        have Hs4 := Lib.hid (addr_sz hf.four)
        have Hs42 := Lib.hid (addr_sz hg.four)
        have Hs6 := Lib.hid (addr_sz hf.six)
        have Hs62 := Lib.hid (addr_sz hg.six)
        have Hei := Lib.hid (run_equalIn_ints (P := Try.prog) w2 9998 23 3 6 Try.underlying23 Try.underlying3 int_size1 f.idle g.idle hf.idle hg.idle)
        have Hem : Hid ((Op.equalIn 10000 24 (.agg (bcells f.mac).toArray) (.agg (bcells g.mac).toArray)).run Try.prog w2 = .ok (f.mac == g.mac) w2) := run_equalIn_bytes (P := Try.prog) w2 9998 24 5 6 Try.underlying24 Try.underlying5 u8_size1 f.mac g.mac hf.mac hg.mac
        have He4 := Lib.hid (addr_eqIn 9997 f.four g.four hf.four hg.four w2)
        have He6 := Lib.hid (addr_eqIn 9997 f.six g.six hf.six hg.six w2)
        have HBe : Hid (Below w.heap.size w w2) := HB.out.trans (hbel.out.mono HB.out.size)
        clear hX2 hY2 HX HY HB hl hl' HW HC0 HV HU hat hbel
        go_upto_region 8 with fail
        simp only [List.append_eq, List.cons_append, List.nil_append]
        rcases h2 : (f.size == g.size) with _ | _
        · have Hr : Hid (sameB f g = false) := by show _ = _; simp only [sameB, h2, Bool.false_and, Bool.and_false]
          have hne : ¬ f.size = g.size := by simpa using h2
          clear h2
          go_wp2
          go_ret
          exact ⟨by rw [Hr.out]; rfl, HBe.out⟩
        · have K1 := Lib.hid h2
          have he1 : f.size = g.size := by simpa using h2
          clear h2
          rcases h2 : (f.room == g.room) with _ | _
          · have Hr : Hid (sameB f g = false) := by show _ = _; simp only [sameB, h2, Bool.false_and, Bool.and_false]
            have hne : ¬ f.room = g.room := by simpa using h2
            clear h2
            go_wp2
            go_ret
            exact ⟨by rw [Hr.out]; rfl, HBe.out⟩
          · have K2 := Lib.hid h2
            have he2 : f.room = g.room := by simpa using h2
            clear h2
            rcases h2 : (f.idle == g.idle) with _ | _
            · have Hr : Hid (sameB f g = false) := by show _ = _; simp only [sameB, h2, Bool.false_and, Bool.and_false]
              rw [h2] at Hei
              clear h2
              go_wp2_with
                (first
                  | ((with_reducible refine gateL 23 ?_); refine wpList_load_g (by rfl) 23 (.tmp 44) rfl w.heap.size 3 rfl (f.idle.map iv) _ HRi.out Try.underlying23 rfl Hsi.out ?_)
                  | ((with_reducible refine gateL 23 ?_); refine wpList_load_g (by rfl) 23 (.tmp 46) rfl (w.heap.size + 1) 3 rfl (g.idle.map iv) _ HRi2.out Try.underlying23 rfl Hsi2.out ?_)
                  | ((with_reducible refine gateE 23 ?_); refine wpList_eqs_g (by rfl) 23 23 (.tmp 45) (.tmp 47) rfl (f.idle.map iv).toArray (g.idle.map iv).toArray rfl rfl idle_guard _ Hei.out ?_))
              go_ret
              exact ⟨by rw [Hr.out]; rfl, HBe.out⟩
            · have K3 := Lib.hid h2
              rw [h2] at Hei
              clear h2
              rcases h2 : (f.rise == g.rise) with _ | _
              · have Hr : Hid (sameB f g = false) := by show _ = _; simp only [sameB, h2, Bool.false_and, Bool.and_false]
                have hne : ¬ f.rise = g.rise := by simpa using h2
                clear h2
                go_wp2_with
                  (first
                    | ((with_reducible refine gateL 23 ?_); refine wpList_load_g (by rfl) 23 (.tmp 44) rfl w.heap.size 3 rfl (f.idle.map iv) _ HRi.out Try.underlying23 rfl Hsi.out ?_)
                    | ((with_reducible refine gateL 23 ?_); refine wpList_load_g (by rfl) 23 (.tmp 46) rfl (w.heap.size + 1) 3 rfl (g.idle.map iv) _ HRi2.out Try.underlying23 rfl Hsi2.out ?_)
                    | ((with_reducible refine gateE 23 ?_); refine wpList_eqs_g (by rfl) 23 23 (.tmp 45) (.tmp 47) rfl (f.idle.map iv).toArray (g.idle.map iv).toArray rfl rfl idle_guard _ Hei.out ?_))
                go_ret
                exact ⟨by rw [Hr.out]; rfl, HBe.out⟩
              · have K4 := Lib.hid h2
                have he4 : f.rise = g.rise := by simpa using h2
                clear h2
                rcases h2 : (f.fall == g.fall) with _ | _
                · have Hr : Hid (sameB f g = false) := by show _ = _; simp only [sameB, h2, Bool.false_and, Bool.and_false]
                  have hne : ¬ f.fall = g.fall := by simpa using h2
                  clear h2
                  go_wp2_with
                    (first
                      | ((with_reducible refine gateL 23 ?_); refine wpList_load_g (by rfl) 23 (.tmp 44) rfl w.heap.size 3 rfl (f.idle.map iv) _ HRi.out Try.underlying23 rfl Hsi.out ?_)
                      | ((with_reducible refine gateL 23 ?_); refine wpList_load_g (by rfl) 23 (.tmp 46) rfl (w.heap.size + 1) 3 rfl (g.idle.map iv) _ HRi2.out Try.underlying23 rfl Hsi2.out ?_)
                      | ((with_reducible refine gateE 23 ?_); refine wpList_eqs_g (by rfl) 23 23 (.tmp 45) (.tmp 47) rfl (f.idle.map iv).toArray (g.idle.map iv).toArray rfl rfl idle_guard _ Hei.out ?_))
                  go_ret
                  exact ⟨by rw [Hr.out]; rfl, HBe.out⟩
                · have K5 := Lib.hid h2
                  have he5 : f.fall = g.fall := by simpa using h2
                  clear h2
                  rcases h2 : (f.mac == g.mac) with _ | _
                  · have Hr : Hid (sameB f g = false) := by show _ = _; simp only [sameB, h2, Bool.false_and, Bool.and_false]
                    rw [h2] at Hem
                    clear h2
                    go_wp2_with
                      (first
                        | ((with_reducible refine gateL 23 ?_); refine wpList_load_g (by rfl) 23 (.tmp 44) rfl w.heap.size 3 rfl (f.idle.map iv) _ HRi.out Try.underlying23 rfl Hsi.out ?_)
                        | ((with_reducible refine gateL 23 ?_); refine wpList_load_g (by rfl) 23 (.tmp 46) rfl (w.heap.size + 1) 3 rfl (g.idle.map iv) _ HRi2.out Try.underlying23 rfl Hsi2.out ?_)
                        | ((with_reducible refine gateE 23 ?_); refine wpList_eqs_g (by rfl) 23 23 (.tmp 45) (.tmp 47) rfl (f.idle.map iv).toArray (g.idle.map iv).toArray rfl rfl idle_guard _ Hei.out ?_)
                        | ((with_reducible refine gateL 24 ?_); refine wpList_load_g (by rfl) 24 (.tmp 65) rfl w.heap.size 11 rfl (bcells f.mac) _ HRm.out Try.underlying24 rfl Hsm.out ?_)
                        | ((with_reducible refine gateL 24 ?_); refine wpList_load_g (by rfl) 24 (.tmp 67) rfl (w.heap.size + 1) 11 rfl (bcells g.mac) _ HRm2.out Try.underlying24 rfl Hsm2.out ?_)
                        | ((with_reducible refine gateE 24 ?_); refine wpList_eqs_g (by rfl) 24 24 (.tmp 66) (.tmp 68) rfl (bcells f.mac).toArray (bcells g.mac).toArray rfl rfl mac_guard _ Hem.out ?_))
                    go_ret
                    exact ⟨by rw [Hr.out]; rfl, HBe.out⟩
                  · have K6 := Lib.hid h2
                    rw [h2] at Hem
                    clear h2
                    rcases h2 : (f.four == g.four) with _ | _
                    · have Hr : Hid (sameB f g = false) := by show _ = _; simp only [sameB, h2, Bool.false_and, Bool.and_false]
                      rw [h2] at He4
                      clear h2
                      go_wp2_with
                        (first
                          | ((with_reducible refine gateL 23 ?_); refine wpList_load_g (by rfl) 23 (.tmp 44) rfl w.heap.size 3 rfl (f.idle.map iv) _ HRi.out Try.underlying23 rfl Hsi.out ?_)
                          | ((with_reducible refine gateL 23 ?_); refine wpList_load_g (by rfl) 23 (.tmp 46) rfl (w.heap.size + 1) 3 rfl (g.idle.map iv) _ HRi2.out Try.underlying23 rfl Hsi2.out ?_)
                          | ((with_reducible refine gateE 23 ?_); refine wpList_eqs_g (by rfl) 23 23 (.tmp 45) (.tmp 47) rfl (f.idle.map iv).toArray (g.idle.map iv).toArray rfl rfl idle_guard _ Hei.out ?_)
                          | ((with_reducible refine gateL 24 ?_); refine wpList_load_g (by rfl) 24 (.tmp 65) rfl w.heap.size 11 rfl (bcells f.mac) _ HRm.out Try.underlying24 rfl Hsm.out ?_)
                          | ((with_reducible refine gateL 24 ?_); refine wpList_load_g (by rfl) 24 (.tmp 67) rfl (w.heap.size + 1) 11 rfl (bcells g.mac) _ HRm2.out Try.underlying24 rfl Hsm2.out ?_)
                          | ((with_reducible refine gateE 24 ?_); refine wpList_eqs_g (by rfl) 24 24 (.tmp 66) (.tmp 68) rfl (bcells f.mac).toArray (bcells g.mac).toArray rfl rfl mac_guard _ Hem.out ?_)
                          | ((with_reducible refine gateL 27 ?_); refine wpList_load_g (by rfl) 27 (.tmp 72) rfl w.heap.size 17 rfl (addrCs f.four) _ HR4.out Try.underlying27 rfl Hs4.out ?_)
                          | ((with_reducible refine gateL 27 ?_); refine wpList_load_g (by rfl) 27 (.tmp 74) rfl (w.heap.size + 1) 17 rfl (addrCs g.four) _ HR42.out Try.underlying27 rfl Hs42.out ?_)
                          | ((with_reducible refine gateE 27 ?_); refine wpList_eqs_g (by rfl) 27 27 (.tmp 73) (.tmp 75) rfl (addrCs f.four).toArray (addrCs g.four).toArray rfl rfl addr_guard _ He4.out ?_))
                      go_ret
                      exact ⟨by rw [Hr.out]; rfl, HBe.out⟩
                    · have K7 := Lib.hid h2
                      rw [h2] at He4
                      clear h2
                      rcases h2 : (f.six == g.six) with _ | _
                      · have Hr : Hid (sameB f g = false) := by show _ = _; simp only [sameB, h2, Bool.false_and, Bool.and_false]
                        rw [h2] at He6
                        clear h2
                        go_wp2_with
                          (first
                            | ((with_reducible refine gateL 23 ?_); refine wpList_load_g (by rfl) 23 (.tmp 44) rfl w.heap.size 3 rfl (f.idle.map iv) _ HRi.out Try.underlying23 rfl Hsi.out ?_)
                            | ((with_reducible refine gateL 23 ?_); refine wpList_load_g (by rfl) 23 (.tmp 46) rfl (w.heap.size + 1) 3 rfl (g.idle.map iv) _ HRi2.out Try.underlying23 rfl Hsi2.out ?_)
                            | ((with_reducible refine gateE 23 ?_); refine wpList_eqs_g (by rfl) 23 23 (.tmp 45) (.tmp 47) rfl (f.idle.map iv).toArray (g.idle.map iv).toArray rfl rfl idle_guard _ Hei.out ?_)
                            | ((with_reducible refine gateL 24 ?_); refine wpList_load_g (by rfl) 24 (.tmp 65) rfl w.heap.size 11 rfl (bcells f.mac) _ HRm.out Try.underlying24 rfl Hsm.out ?_)
                            | ((with_reducible refine gateL 24 ?_); refine wpList_load_g (by rfl) 24 (.tmp 67) rfl (w.heap.size + 1) 11 rfl (bcells g.mac) _ HRm2.out Try.underlying24 rfl Hsm2.out ?_)
                            | ((with_reducible refine gateE 24 ?_); refine wpList_eqs_g (by rfl) 24 24 (.tmp 66) (.tmp 68) rfl (bcells f.mac).toArray (bcells g.mac).toArray rfl rfl mac_guard _ Hem.out ?_)
                            | ((with_reducible refine gateL 27 ?_); refine wpList_load_g (by rfl) 27 (.tmp 72) rfl w.heap.size 17 rfl (addrCs f.four) _ HR4.out Try.underlying27 rfl Hs4.out ?_)
                            | ((with_reducible refine gateL 27 ?_); refine wpList_load_g (by rfl) 27 (.tmp 74) rfl (w.heap.size + 1) 17 rfl (addrCs g.four) _ HR42.out Try.underlying27 rfl Hs42.out ?_)
                            | ((with_reducible refine gateE 27 ?_); refine wpList_eqs_g (by rfl) 27 27 (.tmp 73) (.tmp 75) rfl (addrCs f.four).toArray (addrCs g.four).toArray rfl rfl addr_guard _ He4.out ?_)
                            | ((with_reducible refine gateL 27 ?_); refine wpList_load_g (by rfl) 27 (.tmp 79) rfl w.heap.size 34 rfl (addrCs f.six) _ HR6.out Try.underlying27 rfl Hs6.out ?_)
                            | ((with_reducible refine gateL 27 ?_); refine wpList_load_g (by rfl) 27 (.tmp 81) rfl (w.heap.size + 1) 34 rfl (addrCs g.six) _ HR62.out Try.underlying27 rfl Hs62.out ?_)
                            | ((with_reducible refine gateE 27 ?_); refine wpList_eqs_g (by rfl) 27 27 (.tmp 80) (.tmp 82) rfl (addrCs f.six).toArray (addrCs g.six).toArray rfl rfl addr_guard _ He6.out ?_))
                        go_ret
                        exact ⟨by rw [Hr.out]; rfl, HBe.out⟩
                      · have K8 := Lib.hid h2
                        rw [h2] at He6
                        clear h2
                        rcases h2 : (f.most == g.most) with _ | _
                        · have Hr : Hid (sameB f g = false) := by show _ = _; simp only [sameB, h2, Bool.false_and, Bool.and_false]
                          have hne : ¬ f.most = g.most := by simpa using h2
                          clear h2
                          go_wp2_with
                            (first
                              | ((with_reducible refine gateL 23 ?_); refine wpList_load_g (by rfl) 23 (.tmp 44) rfl w.heap.size 3 rfl (f.idle.map iv) _ HRi.out Try.underlying23 rfl Hsi.out ?_)
                              | ((with_reducible refine gateL 23 ?_); refine wpList_load_g (by rfl) 23 (.tmp 46) rfl (w.heap.size + 1) 3 rfl (g.idle.map iv) _ HRi2.out Try.underlying23 rfl Hsi2.out ?_)
                              | ((with_reducible refine gateE 23 ?_); refine wpList_eqs_g (by rfl) 23 23 (.tmp 45) (.tmp 47) rfl (f.idle.map iv).toArray (g.idle.map iv).toArray rfl rfl idle_guard _ Hei.out ?_)
                              | ((with_reducible refine gateL 24 ?_); refine wpList_load_g (by rfl) 24 (.tmp 65) rfl w.heap.size 11 rfl (bcells f.mac) _ HRm.out Try.underlying24 rfl Hsm.out ?_)
                              | ((with_reducible refine gateL 24 ?_); refine wpList_load_g (by rfl) 24 (.tmp 67) rfl (w.heap.size + 1) 11 rfl (bcells g.mac) _ HRm2.out Try.underlying24 rfl Hsm2.out ?_)
                              | ((with_reducible refine gateE 24 ?_); refine wpList_eqs_g (by rfl) 24 24 (.tmp 66) (.tmp 68) rfl (bcells f.mac).toArray (bcells g.mac).toArray rfl rfl mac_guard _ Hem.out ?_)
                              | ((with_reducible refine gateL 27 ?_); refine wpList_load_g (by rfl) 27 (.tmp 72) rfl w.heap.size 17 rfl (addrCs f.four) _ HR4.out Try.underlying27 rfl Hs4.out ?_)
                              | ((with_reducible refine gateL 27 ?_); refine wpList_load_g (by rfl) 27 (.tmp 74) rfl (w.heap.size + 1) 17 rfl (addrCs g.four) _ HR42.out Try.underlying27 rfl Hs42.out ?_)
                              | ((with_reducible refine gateE 27 ?_); refine wpList_eqs_g (by rfl) 27 27 (.tmp 73) (.tmp 75) rfl (addrCs f.four).toArray (addrCs g.four).toArray rfl rfl addr_guard _ He4.out ?_)
                              | ((with_reducible refine gateL 27 ?_); refine wpList_load_g (by rfl) 27 (.tmp 79) rfl w.heap.size 34 rfl (addrCs f.six) _ HR6.out Try.underlying27 rfl Hs6.out ?_)
                              | ((with_reducible refine gateL 27 ?_); refine wpList_load_g (by rfl) 27 (.tmp 81) rfl (w.heap.size + 1) 34 rfl (addrCs g.six) _ HR62.out Try.underlying27 rfl Hs62.out ?_)
                              | ((with_reducible refine gateE 27 ?_); refine wpList_eqs_g (by rfl) 27 27 (.tmp 80) (.tmp 82) rfl (addrCs f.six).toArray (addrCs g.six).toArray rfl rfl addr_guard _ He6.out ?_))
                          go_ret
                          exact ⟨by rw [Hr.out]; rfl, HBe.out⟩
                        · have K9 := Lib.hid h2
                          have he9 : f.most = g.most := by simpa using h2
                          clear h2
                          rcases h2 : (f.keep == g.keep) with _ | _
                          · have Hr : Hid (sameB f g = false) := by show _ = _; simp only [sameB, h2, Bool.false_and, Bool.and_false]
                            have hne : ¬ f.keep = g.keep := by simpa using h2
                            clear h2
                            go_wp2_with
                              (first
                                | ((with_reducible refine gateL 23 ?_); refine wpList_load_g (by rfl) 23 (.tmp 44) rfl w.heap.size 3 rfl (f.idle.map iv) _ HRi.out Try.underlying23 rfl Hsi.out ?_)
                                | ((with_reducible refine gateL 23 ?_); refine wpList_load_g (by rfl) 23 (.tmp 46) rfl (w.heap.size + 1) 3 rfl (g.idle.map iv) _ HRi2.out Try.underlying23 rfl Hsi2.out ?_)
                                | ((with_reducible refine gateE 23 ?_); refine wpList_eqs_g (by rfl) 23 23 (.tmp 45) (.tmp 47) rfl (f.idle.map iv).toArray (g.idle.map iv).toArray rfl rfl idle_guard _ Hei.out ?_)
                                | ((with_reducible refine gateL 24 ?_); refine wpList_load_g (by rfl) 24 (.tmp 65) rfl w.heap.size 11 rfl (bcells f.mac) _ HRm.out Try.underlying24 rfl Hsm.out ?_)
                                | ((with_reducible refine gateL 24 ?_); refine wpList_load_g (by rfl) 24 (.tmp 67) rfl (w.heap.size + 1) 11 rfl (bcells g.mac) _ HRm2.out Try.underlying24 rfl Hsm2.out ?_)
                                | ((with_reducible refine gateE 24 ?_); refine wpList_eqs_g (by rfl) 24 24 (.tmp 66) (.tmp 68) rfl (bcells f.mac).toArray (bcells g.mac).toArray rfl rfl mac_guard _ Hem.out ?_)
                                | ((with_reducible refine gateL 27 ?_); refine wpList_load_g (by rfl) 27 (.tmp 72) rfl w.heap.size 17 rfl (addrCs f.four) _ HR4.out Try.underlying27 rfl Hs4.out ?_)
                                | ((with_reducible refine gateL 27 ?_); refine wpList_load_g (by rfl) 27 (.tmp 74) rfl (w.heap.size + 1) 17 rfl (addrCs g.four) _ HR42.out Try.underlying27 rfl Hs42.out ?_)
                                | ((with_reducible refine gateE 27 ?_); refine wpList_eqs_g (by rfl) 27 27 (.tmp 73) (.tmp 75) rfl (addrCs f.four).toArray (addrCs g.four).toArray rfl rfl addr_guard _ He4.out ?_)
                                | ((with_reducible refine gateL 27 ?_); refine wpList_load_g (by rfl) 27 (.tmp 79) rfl w.heap.size 34 rfl (addrCs f.six) _ HR6.out Try.underlying27 rfl Hs6.out ?_)
                                | ((with_reducible refine gateL 27 ?_); refine wpList_load_g (by rfl) 27 (.tmp 81) rfl (w.heap.size + 1) 34 rfl (addrCs g.six) _ HR62.out Try.underlying27 rfl Hs62.out ?_)
                                | ((with_reducible refine gateE 27 ?_); refine wpList_eqs_g (by rfl) 27 27 (.tmp 80) (.tmp 82) rfl (addrCs f.six).toArray (addrCs g.six).toArray rfl rfl addr_guard _ He6.out ?_))
                            go_ret
                            exact ⟨by rw [Hr.out]; rfl, HBe.out⟩
                          · have K10 := Lib.hid h2
                            have he10 : f.keep = g.keep := by simpa using h2
                            clear h2
                            have Hr : Hid (sameB f g = (f.batch == g.batch)) := by show _ = _; simp only [sameB, K0.out, K1.out, K2.out, K3.out, K4.out, K5.out, K6.out, K7.out, K8.out, K9.out, K10.out, Bool.true_and]
                            go_wp2_with
                              (first
                                | ((with_reducible refine gateL 23 ?_); refine wpList_load_g (by rfl) 23 (.tmp 44) rfl w.heap.size 3 rfl (f.idle.map iv) _ HRi.out Try.underlying23 rfl Hsi.out ?_)
                                | ((with_reducible refine gateL 23 ?_); refine wpList_load_g (by rfl) 23 (.tmp 46) rfl (w.heap.size + 1) 3 rfl (g.idle.map iv) _ HRi2.out Try.underlying23 rfl Hsi2.out ?_)
                                | ((with_reducible refine gateE 23 ?_); refine wpList_eqs_g (by rfl) 23 23 (.tmp 45) (.tmp 47) rfl (f.idle.map iv).toArray (g.idle.map iv).toArray rfl rfl idle_guard _ Hei.out ?_)
                                | ((with_reducible refine gateL 24 ?_); refine wpList_load_g (by rfl) 24 (.tmp 65) rfl w.heap.size 11 rfl (bcells f.mac) _ HRm.out Try.underlying24 rfl Hsm.out ?_)
                                | ((with_reducible refine gateL 24 ?_); refine wpList_load_g (by rfl) 24 (.tmp 67) rfl (w.heap.size + 1) 11 rfl (bcells g.mac) _ HRm2.out Try.underlying24 rfl Hsm2.out ?_)
                                | ((with_reducible refine gateE 24 ?_); refine wpList_eqs_g (by rfl) 24 24 (.tmp 66) (.tmp 68) rfl (bcells f.mac).toArray (bcells g.mac).toArray rfl rfl mac_guard _ Hem.out ?_)
                                | ((with_reducible refine gateL 27 ?_); refine wpList_load_g (by rfl) 27 (.tmp 72) rfl w.heap.size 17 rfl (addrCs f.four) _ HR4.out Try.underlying27 rfl Hs4.out ?_)
                                | ((with_reducible refine gateL 27 ?_); refine wpList_load_g (by rfl) 27 (.tmp 74) rfl (w.heap.size + 1) 17 rfl (addrCs g.four) _ HR42.out Try.underlying27 rfl Hs42.out ?_)
                                | ((with_reducible refine gateE 27 ?_); refine wpList_eqs_g (by rfl) 27 27 (.tmp 73) (.tmp 75) rfl (addrCs f.four).toArray (addrCs g.four).toArray rfl rfl addr_guard _ He4.out ?_)
                                | ((with_reducible refine gateL 27 ?_); refine wpList_load_g (by rfl) 27 (.tmp 79) rfl w.heap.size 34 rfl (addrCs f.six) _ HR6.out Try.underlying27 rfl Hs6.out ?_)
                                | ((with_reducible refine gateL 27 ?_); refine wpList_load_g (by rfl) 27 (.tmp 81) rfl (w.heap.size + 1) 34 rfl (addrCs g.six) _ HR62.out Try.underlying27 rfl Hs62.out ?_)
                                | ((with_reducible refine gateE 27 ?_); refine wpList_eqs_g (by rfl) 27 27 (.tmp 80) (.tmp 82) rfl (addrCs f.six).toArray (addrCs g.six).toArray rfl rfl addr_guard _ He6.out ?_))
                            go_ret
                            exact ⟨by rw [Hr.out]; rfl, HBe.out⟩
  · have hlenI : ¬ (f.vips.length : Int) = (g.vips.length : Int) := by omega
    have Hr : Hid (sameB f g = false) := by
      show _ = _
      rcases h : sameB f g with _ | _
      · rfl
      · exact absurd (congrArg (fun z => z.vips.length) (sameB_iff.1 h)) hlen
    go_enter Try.func19, Try.ntmps19
    go_upto_region 1 with fail
    rw [← HW.out]
    go_wp2
    go_ret
    exact ⟨by rw [Hr.out]; rfl, HB.out⟩
end Go.Proofs.Ytmkeljcjhcaigaa
